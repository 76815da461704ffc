/- The functions that the law comes to, as plain functions, and for each a proof that the Go code comes to just these answers. Written by a program of this claim. Conditions: each theorem bears its own. -/
import Derived.Test.YtobgpafdebiphaaDoorEDaySaysx0
import Derived.Test.YtobgpafdebiphaaDoorEDaySaysx1
import Derived.Test.YtobgpafdebiphaaDoorEDaySaysx2
import Derived.Test.YtobgpafdebiphaaDoorEDaySaysx3
import Derived.Test.YtobgpafdebiphaaDoorEDaySaysx4
namespace Go.Proofs.YtobgpafdebiphaaDoor.EDaySays
open Go.RowKit Go.Proofs.YtobgpafdebiphaaDoorW.PrintWords Go.Proofs.YtobgpafdebiphaaDoorW.PrintLast Go.Proofs.YtobgpafdebiphaaDoorW.PrintMore Go.Proofs.YtobgpafdebiphaaDoorW.PrintOpen
attribute [local go_sem] max2_int min2_int max_two min_two max_three min_three max_four min_four   -- for this text's walks alone
set_option linter.unusedVariables false
set_option linter.unusedSimpArgs false

/-! ### pledgelaw4_DaySays: function 8 -/
def pledgelaw4_DaySays.j0 : Nat → Int → Int → Bool → Int → Bool → Int → Bool → Bool → Option (Bool)
 | 0, _, _, _, _, _, _, _, _ => none
 | k + 1, x2, x3, x9, x20, x21, x22, x23, x121 => if x121 = true then (some false) else (if x20 > 1099511627776 then (some true) else (if x20 < (-1099511627776) then (some true) else (if x2 > 1099511627776 then (some true) else (if x3 < (-1099511627776) then (some true) else (if x9 = true then (if x20 = x22 then (some (x21 == x23)) else (some false)) else (some false))))))
def pledgelaw4_DaySays.f (k : Nat) (a0_0 : Int) (a0_1 : Int) (a0_2 : Int) (a1 : Int) (a2 : Int) (a3 : Int) : Option (Bool) := (pledgelaw4_first.f k).bind fun t159 => (if t159 = true then ((day_Of.f k a0_0 a0_1 a0_2).bind fun bt160 => ((pledgeref1_DayOf.f k a0_0 a0_1 a0_2).bind fun bt162 => ((day_At.f k a1).bind fun bt164 => ((pledgeref1_DateAt.f k a1).bind fun bt169 => ((day_Left.f a2 a3).bind fun bt173 => ((pledgeref1_LeftTo.f a2 a3).bind fun bt175 => (if bt160.1 = bt162.1 then ((pledgesee_Is.f bt160.2 bt162.2).bind fun t177 => (if t177 = true then (if bt164.1 = bt169.1 then (if bt164.2.1 = bt169.2.1 then (if bt164.2.2.1 = bt169.2.2.1 then ((pledgesee_Is.f bt164.2.2.2 bt169.2.2.2).bind fun t178 => (if t178 = true then ((day_Leap.f a0_0).bind fun t179 => ((pledgeref1_Leap.f a0_0).bind fun t180 => (if (t179 != t180) = true then (pledgelaw4_DaySays.j0 k a2 a3 t159 bt173.1 bt173.2 bt175.1 bt175.2 true) else ((day_Weekday.f a1).bind fun t181 => ((pledgeref1_Weekday.f a1).bind fun t182 => (if t181 = t182 then ((day_Bucket.f k a1).bind fun t183 => ((pledgeref1_Bucket.f a1).bind fun t184 => (pledgelaw4_DaySays.j0 k a2 a3 t159 bt173.1 bt173.2 bt175.1 bt175.2 (t183 != t184)))) else (pledgelaw4_DaySays.j0 k a2 a3 t159 bt173.1 bt173.2 bt175.1 bt175.2 true))))))) else (pledgelaw4_DaySays.j0 k a2 a3 t159 bt173.1 bt173.2 bt175.1 bt175.2 true))) else (pledgelaw4_DaySays.j0 k a2 a3 t159 bt173.1 bt173.2 bt175.1 bt175.2 true)) else (pledgelaw4_DaySays.j0 k a2 a3 t159 bt173.1 bt173.2 bt175.1 bt175.2 true)) else (pledgelaw4_DaySays.j0 k a2 a3 t159 bt173.1 bt173.2 bt175.1 bt175.2 true)) else (pledgelaw4_DaySays.j0 k a2 a3 t159 bt173.1 bt173.2 bt175.1 bt175.2 true))) else (pledgelaw4_DaySays.j0 k a2 a3 t159 bt173.1 bt173.2 bt175.1 bt175.2 true)))))))) else (some false))
theorem pledgelaw4_DaySays.mono_l : ∀ k, (∀ y0 y1 y2 y3 y4 y5 y6 y7, LeO (pledgelaw4_DaySays.j0 k y0 y1 y2 y3 y4 y5 y6 y7) (pledgelaw4_DaySays.j0 (k + 1) y0 y1 y2 y3 y4 y5 y6 y7))
 | 0 => fun _ _ _ _ _ _ _ _ r h => by simp [pledgelaw4_DaySays.j0] at h
 | k + 1 => by
  have ih0 := pledgelaw4_DaySays.mono_l k
  ·
   intro y0 y1 y2 y3 y4 y5 y6 y7
   unfold pledgelaw4_DaySays.j0
   repeat' first
   | (with_reducible exact ih0 _ _ _ _ _ _ _ _)
   | (with_reducible exact day_At.mono _ _)
   | (with_reducible exact day_Bucket.mono _ _)
   | (with_reducible exact day_Of.mono _ _ _ _)
   | (with_reducible exact pledgelaw4_first.mono _)
   | (with_reducible exact pledgeref1_DateAt.mono _ _)
   | (with_reducible exact pledgeref1_DayOf.mono _ _ _ _)
   | (with_reducible exact LeO.refl _)
   | (with_reducible exact LeO.none _)
   | (with_reducible refine LeO.ite ?_ ?_)
   | (with_reducible refine LeO.bind ?_ (fun _ => ?_))
   | exact ih0 _ _ _ _ _ _ _ _
   | exact day_At.mono _ _
   | exact day_Bucket.mono _ _
   | exact day_Of.mono _ _ _ _
   | exact pledgelaw4_first.mono _
   | exact pledgeref1_DateAt.mono _ _
   | exact pledgeref1_DayOf.mono _ _ _ _
   | exact LeO.none _
   | refine LeO.ite ?_ ?_
   | refine LeO.bind ?_ (fun _ => ?_)
theorem pledgelaw4_DaySays.mono : ∀ a0 a1 a2 a3 a4 a5 k, LeO (pledgelaw4_DaySays.f k a0 a1 a2 a3 a4 a5) (pledgelaw4_DaySays.f (k + 1) a0 a1 a2 a3 a4 a5) := by
 intro a0 a1 a2 a3 a4 a5 k
 have ih0 := pledgelaw4_DaySays.mono_l k
 unfold pledgelaw4_DaySays.f
 repeat' first
   | (with_reducible exact ih0 _ _ _ _ _ _ _ _)
   | (with_reducible exact day_At.mono _ _)
   | (with_reducible exact day_Bucket.mono _ _)
   | (with_reducible exact day_Of.mono _ _ _ _)
   | (with_reducible exact pledgelaw4_first.mono _)
   | (with_reducible exact pledgeref1_DateAt.mono _ _)
   | (with_reducible exact pledgeref1_DayOf.mono _ _ _ _)
   | (with_reducible exact LeO.refl _)
   | (with_reducible exact LeO.none _)
   | (with_reducible refine LeO.ite ?_ ?_)
   | (with_reducible refine LeO.bind ?_ (fun _ => ?_))
   | exact ih0 _ _ _ _ _ _ _ _
   | exact day_At.mono _ _
   | exact day_Bucket.mono _ _
   | exact day_Of.mono _ _ _ _
   | exact pledgelaw4_first.mono _
   | exact pledgeref1_DateAt.mono _ _
   | exact pledgeref1_DayOf.mono _ _ _ _
   | exact LeO.none _
   | refine LeO.ite ?_ ?_
   | refine LeO.bind ?_ (fun _ => ?_)
def pledgelaw4_DaySays.T10 : Bool × List (List Nat × List Nat) := (true, [([], []), ([], []), ([0, 1], [0, 1]), ([2], [2]), ([3], [3]), ([3], [3]), ([4, 5, 3, 3], [3, 4, 5]), ([6, 3], [3, 6]), ([3, 7], [3, 7]), ([8, 6], [8]), ([9], [9]), ([10, 9], [9, 10]), ([9], [9]), ([11, 12, 9], [9, 11, 12]), ([9, 13], [9, 13]), ([14, 9], [14]), ([15], [15]), ([16, 15], [15, 16]), ([15], [15]), ([17, 18, 15], [15, 17, 18]), ([15, 19], [15, 19]), ([20, 15], [20]), ([21], [21]), ([22, 21], [21, 22]), ([21], [21]), ([23, 24, 21], [21, 23, 24]), ([21, 25], [21, 25]), ([26, 21], [26]), ([27], [27]), ([27], [27]), ([28, 29, 27, 27], [27, 28, 29]), ([30, 27], [27, 30]), ([27, 31], [27, 31]), ([32, 30], [32]), ([33], [33]), ([34, 33], [33, 34]), ([35, 33, 33], [33, 35]), ([33], [33]), ([37, 33], [33, 37]), ([38, 36, 33], [33, 38]), ([36, 39, 33], [33, 36, 39]), ([33, 40], [33, 40]), ([41, 39], [41]), ([42], [42]), ([43, 42, 42], [42, 43]), ([42], [42]), ([45, 44, 42], [42, 45]), ([44, 46, 42], [42, 44, 46]), ([42, 47], [42, 47]), ([48, 46], [48]), ([49], [49]), ([50, 49, 49], [49, 50]), ([49], [49]), ([52, 51, 49], [49, 52]), ([51, 53, 49], [49, 51, 53]), ([49, 54], [49, 54])])
def pledgelaw4_DaySays.B10 : List Nat := [0, 0, 3, 7, 15, 15, 63, 127, 255, 511, 1023, 2047, 1023, 8191, 16383, 32767, 65535, 131071, 65535, 524287, 1048575, 2097151, 4194303, 8388607, 4194303, 33554431, 67108863, 134217727, 268435455, 268435455, 1073741823, 2147483647, 4294967295, 8589934591, 17179869183, 34359738367, 68719476735, 17179869183, 154618822655, 549755813887, 1099511627775, 2199023255551, 4398046511103, 8796093022207, 17592186044415, 8796093022207, 70368744177663, 140737488355327, 281474976710655, 562949953421311, 1125899906842623, 2251799813685247, 1125899906842623, 9007199254740991, 18014398509481983, 36028797018963967]
theorem pledgelaw4_DaySays.tab10 : rtab .any (opsOf Tryd.f8 10) = pledgelaw4_DaySays.T10 := by kernel_rfl
theorem pledgelaw4_DaySays.bits10 : waitsOk pledgelaw4_DaySays.T10.2 pledgelaw4_DaySays.B10 = true := by kernel_rfl
theorem zDS_q1 {α : Type} {l : List α} {i : Nat} {a : α} : l.toArray.setIfInBounds i a = (l.set i a).toArray := List.setIfInBounds_toArray ..
theorem zDS_q2 {α : Type} {x : α} {l : List α} {a : α} : (x :: l).set 0 a = a :: l := rfl
theorem zDS_q3 {α : Type} {x : α} {l : List α} {n : Nat} {a : α} : (x :: l).set n.succ a = x :: l.set n a := rfl
theorem zDS_u {P : Program} {ops : Array Oper} {Q : Exit → Act → World → Prop} {md : Region.Mode} {S : World → Prop} {ds : List Nat} {T : Bool × List (List Nat × List Nat)} (i N : Nat) (l' : Array Bool) (hT : Aside0 (rtab md ops = T)) {oi : Oper} {v : Value} {fuel : Nat} {l : Array Bool} {a : Act} {w : World} (hi : ops[i]? = some oi) (hN : oi.dst = some N) (hc : anyT T l.toList l'.toList i = true)
  (hQ : ∀ c a w, Q (.panic c) (a.put oi.dst v) w → Q (.panic c) a w) (hy : Yields P ops oi v a) {a' : Act} (ha : a.put (some N) v = a')
  (h : wpAnyLast P md ops Q S ds fuel l' a' w) : wpAnyLast P md ops Q S ds (fuel + 1) l a w := pure_ l' hi hN (any_of hT.out hc) hQ hy ha h
abbrev zDS_m0 : Array Bool := (fun o i : Bool => #[o,o,o,o,o,o,o,o,o,o,o,o,o,o,o,o,o,o,o,o,o,o,o,o,o,o,o,o,o,o,o,o,o,o,o,o,o,o,o,o,o,o,o,o,o,o,o,o,o,o,o,o,o,o,o,o]) false true
abbrev zDS_m1 : Array Bool := (fun o i : Bool => #[i,o,o,o,o,o,o,o,o,o,o,o,o,o,o,o,o,o,o,o,o,o,o,o,o,o,o,o,o,o,o,o,o,o,o,o,o,o,o,o,o,o,o,o,o,o,o,o,o,o,o,o,o,o,o,o]) false true
abbrev zDS_m2 : Array Bool := (fun o i : Bool => #[i,i,o,o,o,o,o,o,o,o,o,o,o,o,o,o,o,o,o,o,o,o,o,o,o,o,o,o,o,o,o,o,o,o,o,o,o,o,o,o,o,o,o,o,o,o,o,o,o,o,o,o,o,o,o,o]) false true
abbrev zDS_m3 : Array Bool := (fun o i : Bool => #[i,i,i,o,o,o,o,o,o,o,o,o,o,o,o,o,o,o,o,o,o,o,o,o,o,o,o,o,o,o,o,o,o,o,o,o,o,o,o,o,o,o,o,o,o,o,o,o,o,o,o,o,o,o,o,o]) false true
abbrev zDS_m4 : Array Bool := (fun o i : Bool => #[i,i,i,i,o,o,o,o,o,o,o,o,o,o,o,o,o,o,o,o,o,o,o,o,o,o,o,o,o,o,o,o,o,o,o,o,o,o,o,o,o,o,o,o,o,o,o,o,o,o,o,o,o,o,o,o]) false true
abbrev zDS_m5 : Array Bool := (fun o i : Bool => #[i,i,i,i,i,o,o,o,o,o,o,o,o,o,o,o,o,o,o,o,o,o,o,o,o,o,o,o,o,o,o,o,o,o,o,o,o,o,o,o,o,o,o,o,o,o,o,o,o,o,o,o,o,o,o,o]) false true
abbrev zDS_m6 : Array Bool := (fun o i : Bool => #[i,i,i,i,i,i,o,o,o,o,o,o,o,o,o,o,o,o,o,o,o,o,o,o,o,o,o,o,o,o,o,o,o,o,o,o,o,o,o,o,o,o,o,o,o,o,o,o,o,o,o,o,o,o,o,o]) false true
abbrev zDS_m7 : Array Bool := (fun o i : Bool => #[i,i,i,i,i,i,i,o,o,o,o,o,o,o,o,o,o,o,o,o,o,o,o,o,o,o,o,o,o,o,o,o,o,o,o,o,o,o,o,o,o,o,o,o,o,o,o,o,o,o,o,o,o,o,o,o]) false true
abbrev zDS_m8 : Array Bool := (fun o i : Bool => #[i,i,i,i,i,i,i,i,o,o,o,o,o,o,o,o,o,o,o,o,o,o,o,o,o,o,o,o,o,o,o,o,o,o,o,o,o,o,o,o,o,o,o,o,o,o,o,o,o,o,o,o,o,o,o,o]) false true
abbrev zDS_m9 : Array Bool := (fun o i : Bool => #[i,i,i,i,i,i,i,i,i,o,o,o,o,o,o,o,o,o,o,o,o,o,o,o,o,o,o,o,o,o,o,o,o,o,o,o,o,o,o,o,o,o,o,o,o,o,o,o,o,o,o,o,o,o,o,o]) false true
abbrev zDS_m10 : Array Bool := (fun o i : Bool => #[i,i,i,i,i,i,i,i,i,i,o,o,o,o,o,o,o,o,o,o,o,o,o,o,o,o,o,o,o,o,o,o,o,o,o,o,o,o,o,o,o,o,o,o,o,o,o,o,o,o,o,o,o,o,o,o]) false true
abbrev zDS_m11 : Array Bool := (fun o i : Bool => #[i,i,i,i,i,i,i,i,i,i,i,o,o,o,o,o,o,o,o,o,o,o,o,o,o,o,o,o,o,o,o,o,o,o,o,o,o,o,o,o,o,o,o,o,o,o,o,o,o,o,o,o,o,o,o,o]) false true
abbrev zDS_m12 : Array Bool := (fun o i : Bool => #[i,i,i,i,i,i,i,i,i,i,i,o,i,o,o,o,o,o,o,o,o,o,o,o,o,o,o,o,o,o,o,o,o,o,o,o,o,o,o,o,o,o,o,o,o,o,o,o,o,o,o,o,o,o,o,o]) false true
abbrev zDS_m13 : Array Bool := (fun o i : Bool => #[i,i,i,i,i,i,i,i,i,i,i,i,i,o,o,o,o,o,o,o,o,o,o,o,o,o,o,o,o,o,o,o,o,o,o,o,o,o,o,o,o,o,o,o,o,o,o,o,o,o,o,o,o,o,o,o]) false true
abbrev zDS_m14 : Array Bool := (fun o i : Bool => #[i,i,i,i,i,i,i,i,i,i,i,i,i,i,o,o,o,o,o,o,o,o,o,o,o,o,o,o,o,o,o,o,o,o,o,o,o,o,o,o,o,o,o,o,o,o,o,o,o,o,o,o,o,o,o,o]) false true
abbrev zDS_m15 : Array Bool := (fun o i : Bool => #[i,i,i,i,i,i,i,i,i,i,i,i,i,i,i,o,o,o,o,o,o,o,o,o,o,o,o,o,o,o,o,o,o,o,o,o,o,o,o,o,o,o,o,o,o,o,o,o,o,o,o,o,o,o,o,o]) false true
abbrev zDS_m16 : Array Bool := (fun o i : Bool => #[i,i,i,i,i,i,i,i,i,i,i,i,i,i,i,i,o,o,o,o,o,o,o,o,o,o,o,o,o,o,o,o,o,o,o,o,o,o,o,o,o,o,o,o,o,o,o,o,o,o,o,o,o,o,o,o]) false true
abbrev zDS_m17 : Array Bool := (fun o i : Bool => #[i,i,i,i,i,i,i,i,i,i,i,i,i,i,i,i,i,o,o,o,o,o,o,o,o,o,o,o,o,o,o,o,o,o,o,o,o,o,o,o,o,o,o,o,o,o,o,o,o,o,o,o,o,o,o,o]) false true
abbrev zDS_m18 : Array Bool := (fun o i : Bool => #[i,i,i,i,i,i,i,i,i,i,i,i,i,i,i,i,i,o,i,o,o,o,o,o,o,o,o,o,o,o,o,o,o,o,o,o,o,o,o,o,o,o,o,o,o,o,o,o,o,o,o,o,o,o,o,o]) false true
abbrev zDS_m19 : Array Bool := (fun o i : Bool => #[i,i,i,i,i,i,i,i,i,i,i,i,i,i,i,i,i,i,i,o,o,o,o,o,o,o,o,o,o,o,o,o,o,o,o,o,o,o,o,o,o,o,o,o,o,o,o,o,o,o,o,o,o,o,o,o]) false true
abbrev zDS_m20 : Array Bool := (fun o i : Bool => #[i,i,i,i,i,i,i,i,i,i,i,i,i,i,i,i,i,i,i,i,o,o,o,o,o,o,o,o,o,o,o,o,o,o,o,o,o,o,o,o,o,o,o,o,o,o,o,o,o,o,o,o,o,o,o,o]) false true
abbrev zDS_m21 : Array Bool := (fun o i : Bool => #[i,i,i,i,i,i,i,i,i,i,i,i,i,i,i,i,i,i,i,i,i,o,o,o,o,o,o,o,o,o,o,o,o,o,o,o,o,o,o,o,o,o,o,o,o,o,o,o,o,o,o,o,o,o,o,o]) false true
abbrev zDS_m22 : Array Bool := (fun o i : Bool => #[i,i,i,i,i,i,i,i,i,i,i,i,i,i,i,i,i,i,i,i,i,i,o,o,o,o,o,o,o,o,o,o,o,o,o,o,o,o,o,o,o,o,o,o,o,o,o,o,o,o,o,o,o,o,o,o]) false true
abbrev zDS_m23 : Array Bool := (fun o i : Bool => #[i,i,i,i,i,i,i,i,i,i,i,i,i,i,i,i,i,i,i,i,i,i,i,o,o,o,o,o,o,o,o,o,o,o,o,o,o,o,o,o,o,o,o,o,o,o,o,o,o,o,o,o,o,o,o,o]) false true
abbrev zDS_m24 : Array Bool := (fun o i : Bool => #[i,i,i,i,i,i,i,i,i,i,i,i,i,i,i,i,i,i,i,i,i,i,i,o,i,o,o,o,o,o,o,o,o,o,o,o,o,o,o,o,o,o,o,o,o,o,o,o,o,o,o,o,o,o,o,o]) false true
abbrev zDS_m25 : Array Bool := (fun o i : Bool => #[i,i,i,i,i,i,i,i,i,i,i,i,i,i,i,i,i,i,i,i,i,i,i,i,i,o,o,o,o,o,o,o,o,o,o,o,o,o,o,o,o,o,o,o,o,o,o,o,o,o,o,o,o,o,o,o]) false true
abbrev zDS_m26 : Array Bool := (fun o i : Bool => #[i,i,i,i,i,i,i,i,i,i,i,i,i,i,i,i,i,i,i,i,i,i,i,i,i,i,o,o,o,o,o,o,o,o,o,o,o,o,o,o,o,o,o,o,o,o,o,o,o,o,o,o,o,o,o,o]) false true
abbrev zDS_m27 : Array Bool := (fun o i : Bool => #[i,i,i,i,i,i,i,i,i,i,i,i,i,i,i,i,i,i,i,i,i,i,i,i,i,i,i,o,o,o,o,o,o,o,o,o,o,o,o,o,o,o,o,o,o,o,o,o,o,o,o,o,o,o,o,o]) false true
abbrev zDS_m28 : Array Bool := (fun o i : Bool => #[i,i,i,i,i,i,i,i,i,i,i,i,i,i,i,i,i,i,i,i,i,i,i,i,i,i,i,i,o,o,o,o,o,o,o,o,o,o,o,o,o,o,o,o,o,o,o,o,o,o,o,o,o,o,o,o]) false true
abbrev zDS_m29 : Array Bool := (fun o i : Bool => #[i,i,i,i,i,i,i,i,i,i,i,i,i,i,i,i,i,i,i,i,i,i,i,i,i,i,i,i,i,o,o,o,o,o,o,o,o,o,o,o,o,o,o,o,o,o,o,o,o,o,o,o,o,o,o,o]) false true
abbrev zDS_m30 : Array Bool := (fun o i : Bool => #[i,i,i,i,i,i,i,i,i,i,i,i,i,i,i,i,i,i,i,i,i,i,i,i,i,i,i,i,i,i,o,o,o,o,o,o,o,o,o,o,o,o,o,o,o,o,o,o,o,o,o,o,o,o,o,o]) false true
abbrev zDS_m31 : Array Bool := (fun o i : Bool => #[i,i,i,i,i,i,i,i,i,i,i,i,i,i,i,i,i,i,i,i,i,i,i,i,i,i,i,i,i,i,i,o,o,o,o,o,o,o,o,o,o,o,o,o,o,o,o,o,o,o,o,o,o,o,o,o]) false true
abbrev zDS_m32 : Array Bool := (fun o i : Bool => #[i,i,i,i,i,i,i,i,i,i,i,i,i,i,i,i,i,i,i,i,i,i,i,i,i,i,i,i,i,i,i,i,o,o,o,o,o,o,o,o,o,o,o,o,o,o,o,o,o,o,o,o,o,o,o,o]) false true
abbrev zDS_m33 : Array Bool := (fun o i : Bool => #[i,i,i,i,i,i,i,i,i,i,i,i,i,i,i,i,i,i,i,i,i,i,i,i,i,i,i,i,i,i,i,i,i,o,o,o,o,o,o,o,o,o,o,o,o,o,o,o,o,o,o,o,o,o,o,o]) false true
abbrev zDS_m34 : Array Bool := (fun o i : Bool => #[i,i,i,i,i,i,i,i,i,i,i,i,i,i,i,i,i,i,i,i,i,i,i,i,i,i,i,i,i,i,i,i,i,i,o,o,o,o,o,o,o,o,o,o,o,o,o,o,o,o,o,o,o,o,o,o]) false true
abbrev zDS_m35 : Array Bool := (fun o i : Bool => #[i,i,i,i,i,i,i,i,i,i,i,i,i,i,i,i,i,i,i,i,i,i,i,i,i,i,i,i,i,i,i,i,i,i,i,o,o,o,o,o,o,o,o,o,o,o,o,o,o,o,o,o,o,o,o,o]) false true
abbrev zDS_m36 : Array Bool := (fun o i : Bool => #[i,i,i,i,i,i,i,i,i,i,i,i,i,i,i,i,i,i,i,i,i,i,i,i,i,i,i,i,i,i,i,i,i,i,i,o,o,i,o,o,o,o,o,o,o,o,o,o,o,o,o,o,o,o,o,o]) false true
abbrev zDS_m37 : Array Bool := (fun o i : Bool => #[i,i,i,i,i,i,i,i,i,i,i,i,i,i,i,i,i,i,i,i,i,i,i,i,i,i,i,i,i,i,i,i,i,i,i,i,o,i,o,o,o,o,o,o,o,o,o,o,o,o,o,o,o,o,o,o]) false true
abbrev zDS_m38 : Array Bool := (fun o i : Bool => #[i,i,i,i,i,i,i,i,i,i,i,i,i,i,i,i,i,i,i,i,i,i,i,i,i,i,i,i,i,i,i,i,i,i,i,i,o,i,i,o,o,o,o,o,o,o,o,o,o,o,o,o,o,o,o,o]) false true
abbrev zDS_m39 : Array Bool := (fun o i : Bool => #[i,i,i,i,i,i,i,i,i,i,i,i,i,i,i,i,i,i,i,i,i,i,i,i,i,i,i,i,i,i,i,i,i,i,i,i,i,i,i,o,o,o,o,o,o,o,o,o,o,o,o,o,o,o,o,o]) false true
abbrev zDS_m40 : Array Bool := (fun o i : Bool => #[i,i,i,i,i,i,i,i,i,i,i,i,i,i,i,i,i,i,i,i,i,i,i,i,i,i,i,i,i,i,i,i,i,i,i,i,i,i,i,i,o,o,o,o,o,o,o,o,o,o,o,o,o,o,o,o]) false true
abbrev zDS_m41 : Array Bool := (fun o i : Bool => #[i,i,i,i,i,i,i,i,i,i,i,i,i,i,i,i,i,i,i,i,i,i,i,i,i,i,i,i,i,i,i,i,i,i,i,i,i,i,i,i,i,o,o,o,o,o,o,o,o,o,o,o,o,o,o,o]) false true
abbrev zDS_m42 : Array Bool := (fun o i : Bool => #[i,i,i,i,i,i,i,i,i,i,i,i,i,i,i,i,i,i,i,i,i,i,i,i,i,i,i,i,i,i,i,i,i,i,i,i,i,i,i,i,i,i,o,o,o,o,o,o,o,o,o,o,o,o,o,o]) false true
abbrev zDS_m43 : Array Bool := (fun o i : Bool => #[i,i,i,i,i,i,i,i,i,i,i,i,i,i,i,i,i,i,i,i,i,i,i,i,i,i,i,i,i,i,i,i,i,i,i,i,i,i,i,i,i,i,i,o,o,o,o,o,o,o,o,o,o,o,o,o]) false true
abbrev zDS_m44 : Array Bool := (fun o i : Bool => #[i,i,i,i,i,i,i,i,i,i,i,i,i,i,i,i,i,i,i,i,i,i,i,i,i,i,i,i,i,i,i,i,i,i,i,i,i,i,i,i,i,i,i,i,o,o,o,o,o,o,o,o,o,o,o,o]) false true
abbrev zDS_m45 : Array Bool := (fun o i : Bool => #[i,i,i,i,i,i,i,i,i,i,i,i,i,i,i,i,i,i,i,i,i,i,i,i,i,i,i,i,i,i,i,i,i,i,i,i,i,i,i,i,i,i,i,i,i,o,o,o,o,o,o,o,o,o,o,o]) false true
abbrev zDS_m46 : Array Bool := (fun o i : Bool => #[i,i,i,i,i,i,i,i,i,i,i,i,i,i,i,i,i,i,i,i,i,i,i,i,i,i,i,i,i,i,i,i,i,i,i,i,i,i,i,i,i,i,i,i,i,i,o,o,o,o,o,o,o,o,o,o]) false true
abbrev zDS_m47 : Array Bool := (fun o i : Bool => #[i,i,i,i,i,i,i,i,i,i,i,i,i,i,i,i,i,i,i,i,i,i,i,i,i,i,i,i,i,i,i,i,i,i,i,i,i,i,i,i,i,i,i,i,i,i,i,o,o,o,o,o,o,o,o,o]) false true
abbrev zDS_m48 : Array Bool := (fun o i : Bool => #[i,i,i,i,i,i,i,i,i,i,i,i,i,i,i,i,i,i,i,i,i,i,i,i,i,i,i,i,i,i,i,i,i,i,i,i,i,i,i,i,i,i,i,i,i,i,i,i,o,o,o,o,o,o,o,o]) false true
abbrev zDS_m49 : Array Bool := (fun o i : Bool => #[i,i,i,i,i,i,i,i,i,i,i,i,i,i,i,i,i,i,i,i,i,i,i,i,i,i,i,i,i,i,i,i,i,i,i,i,i,i,i,i,i,i,i,i,i,i,i,i,i,o,o,o,o,o,o,o]) false true
abbrev zDS_m50 : Array Bool := (fun o i : Bool => #[i,i,i,i,i,i,i,i,i,i,i,i,i,i,i,i,i,i,i,i,i,i,i,i,i,i,i,i,i,i,i,i,i,i,i,i,i,i,i,i,i,i,i,i,i,i,i,i,i,i,o,o,o,o,o,o]) false true
abbrev zDS_m51 : Array Bool := (fun o i : Bool => #[i,i,i,i,i,i,i,i,i,i,i,i,i,i,i,i,i,i,i,i,i,i,i,i,i,i,i,i,i,i,i,i,i,i,i,i,i,i,i,i,i,i,i,i,i,i,i,i,i,i,i,o,o,o,o,o]) false true
abbrev zDS_m52 : Array Bool := (fun o i : Bool => #[i,i,i,i,i,i,i,i,i,i,i,i,i,i,i,i,i,i,i,i,i,i,i,i,i,i,i,i,i,i,i,i,i,i,i,i,i,i,i,i,i,i,i,i,i,i,i,i,i,i,i,i,o,o,o,o]) false true
abbrev zDS_m53 : Array Bool := (fun o i : Bool => #[i,i,i,i,i,i,i,i,i,i,i,i,i,i,i,i,i,i,i,i,i,i,i,i,i,i,i,i,i,i,i,i,i,i,i,i,i,i,i,i,i,i,i,i,i,i,i,i,i,i,i,i,i,o,o,o]) false true
abbrev zDS_m54 : Array Bool := (fun o i : Bool => #[i,i,i,i,i,i,i,i,i,i,i,i,i,i,i,i,i,i,i,i,i,i,i,i,i,i,i,i,i,i,i,i,i,i,i,i,i,i,i,i,i,i,i,i,i,i,i,i,i,i,i,i,i,i,o,o]) false true
abbrev zDS_m55 : Array Bool := (fun o i : Bool => #[i,i,i,i,i,i,i,i,i,i,i,i,i,i,i,i,i,i,i,i,i,i,i,i,i,i,i,i,i,i,i,i,i,i,i,i,i,i,i,i,i,i,i,i,i,i,i,i,i,i,i,i,i,i,i,o]) false true
abbrev zDS_m56 : Array Bool := (fun o i : Bool => #[i,i,i,i,i,i,i,i,i,i,i,i,i,i,i,i,i,i,i,i,i,i,i,i,i,i,i,i,i,i,i,i,i,i,i,i,i,i,i,i,i,i,i,i,i,i,i,i,i,i,i,i,i,i,i,i]) false true
abbrev zDS_m57 : Array Bool := (fun o i : Bool => #[i,i,i,i,i,i,i,i,i,i,i,i,i,i,i,i,i,i,i,i,i,i,i,i,i,i,i,i,i,i,i,i,i,i,i,i,i,i,i,i,i,i,i,i,o,i,o,o,o,o,o,o,o,o,o,o]) false true
abbrev zDS_m58 : Array Bool := (fun o i : Bool => #[i,i,i,i,i,i,i,i,i,i,i,i,i,i,i,i,i,i,i,i,i,i,i,i,i,i,i,i,i,i,i,i,i,i,i,i,i,i,i,i,i,i,i,i,i,i,i,i,i,i,i,o,i,o,o,o]) false true
abbrev zDS_m59 : Array Bool := (fun o i : Bool => #[i,i,i,i,i,i,i,i,i,i,i,i,i,i,i,i,i,i,i,i,i,i,i,i,i,i,i,i,i,i,i,i,i,i,i,i,o,o,o,o,o,o,o,o,o,o,o,o,o,o,o,o,o,o,o,o]) false true
abbrev zDS_m60 : Array Bool := (fun o i : Bool => #[i,i,i,i,i,i,i,i,i,i,i,i,i,i,i,i,i,i,i,i,i,i,i,i,i,i,i,i,i,i,i,i,i,i,i,i,i,o,o,o,o,o,o,o,o,o,o,o,o,o,o,o,o,o,o,o]) false true
abbrev zDS_m61 : Array Bool := (fun o i : Bool => #[i,i,i,i,i,i,i,i,i,i,i,i,i,i,i,i,i,i,i,i,i,i,i,i,i,i,i,i,i,i,i,i,i,i,i,i,i,i,o,o,o,o,o,o,o,o,o,o,o,o,o,o,o,o,o,o]) false true
abbrev zDS_m62 : Array Bool := (fun o i : Bool => #[i,i,i,i,i,i,i,i,i,i,i,i,i,i,i,i,i,i,i,i,i,i,i,i,o,o,o,o,o,o,o,o,o,o,o,o,o,o,o,o,o,o,o,o,o,o,o,o,o,o,o,o,o,o,o,o]) false true
abbrev zDS_m63 : Array Bool := (fun o i : Bool => #[i,i,i,i,i,i,i,i,i,i,i,i,i,i,i,i,i,i,o,o,o,o,o,o,o,o,o,o,o,o,o,o,o,o,o,o,o,o,o,o,o,o,o,o,o,o,o,o,o,o,o,o,o,o,o,o]) false true
abbrev zDS_m64 : Array Bool := (fun o i : Bool => #[i,i,i,i,i,i,i,i,i,i,i,i,o,o,o,o,o,o,o,o,o,o,o,o,o,o,o,o,o,o,o,o,o,o,o,o,o,o,o,o,o,o,o,o,o,o,o,o,o,o,o,o,o,o,o,o]) false true
set_option maxHeartbeats 8000000 in
set_option maxRecDepth 100000 in
theorem pledgelaw4_DaySays.calls [Inhabited (Int → Addr)] (k : Nat) (a0_0 : Int) (a0_1 : Int) (a0_2 : Int) (a1 : Int) (a2 : Int) (a3 : Int) (r : Bool) (w : World) (hG : GlobOK w) (h : pledgelaw4_DaySays.f k a0_0 a0_1 a0_2 a1 a2 a3 = some r) :
  Calls Tryd.prog 8 #[.agg #[.int .i64 a0_0, .int .i64 a0_1, .int .i64 a0_2], .int .i64 a1, .int .i64 a2, .int .i64 a3] w fun e w' => e = .returned (.bool r) ∧ Below w.heap.size w w' := by
 have hu32 := Tryd.underlying32
 have HG := Aside0.mk hG
 clear hG
 have HB := Aside0.mk (Below.refl w.heap.size w)
 have H : ((pledgelaw4_first.f k).bind fun t159 => (if t159 = true then ((day_Of.f k a0_0 a0_1 a0_2).bind fun bt160 => ((pledgeref1_DayOf.f k a0_0 a0_1 a0_2).bind fun bt162 => ((day_At.f k a1).bind fun bt164 => ((pledgeref1_DateAt.f k a1).bind fun bt169 => ((day_Left.f a2 a3).bind fun bt173 => ((pledgeref1_LeftTo.f a2 a3).bind fun bt175 => (if bt160.1 = bt162.1 then ((pledgesee_Is.f bt160.2 bt162.2).bind fun t177 => (if t177 = true then (if bt164.1 = bt169.1 then (if bt164.2.1 = bt169.2.1 then (if bt164.2.2.1 = bt169.2.2.1 then ((pledgesee_Is.f bt164.2.2.2 bt169.2.2.2).bind fun t178 => (if t178 = true then ((day_Leap.f a0_0).bind fun t179 => ((pledgeref1_Leap.f a0_0).bind fun t180 => (if (t179 != t180) = true then (pledgelaw4_DaySays.j0 k a2 a3 t159 bt173.1 bt173.2 bt175.1 bt175.2 true) else ((day_Weekday.f a1).bind fun t181 => ((pledgeref1_Weekday.f a1).bind fun t182 => (if t181 = t182 then ((day_Bucket.f k a1).bind fun t183 => ((pledgeref1_Bucket.f a1).bind fun t184 => (pledgelaw4_DaySays.j0 k a2 a3 t159 bt173.1 bt173.2 bt175.1 bt175.2 (t183 != t184)))) else (pledgelaw4_DaySays.j0 k a2 a3 t159 bt173.1 bt173.2 bt175.1 bt175.2 true))))))) else (pledgelaw4_DaySays.j0 k a2 a3 t159 bt173.1 bt173.2 bt175.1 bt175.2 true))) else (pledgelaw4_DaySays.j0 k a2 a3 t159 bt173.1 bt173.2 bt175.1 bt175.2 true)) else (pledgelaw4_DaySays.j0 k a2 a3 t159 bt173.1 bt173.2 bt175.1 bt175.2 true)) else (pledgelaw4_DaySays.j0 k a2 a3 t159 bt173.1 bt173.2 bt175.1 bt175.2 true)) else (pledgelaw4_DaySays.j0 k a2 a3 t159 bt173.1 bt173.2 bt175.1 bt175.2 true))) else (pledgelaw4_DaySays.j0 k a2 a3 t159 bt173.1 bt173.2 bt175.1 bt175.2 true)))))))) else (some false))) = some r := h
 clear h
 replace H := Option.bind_eq_some_iff.mp H
 obtain ⟨t159, A50, H⟩ := H
 replace H : (if t159 = true then ((day_Of.f k a0_0 a0_1 a0_2).bind fun bt160 => ((pledgeref1_DayOf.f k a0_0 a0_1 a0_2).bind fun bt162 => ((day_At.f k a1).bind fun bt164 => ((pledgeref1_DateAt.f k a1).bind fun bt169 => ((day_Left.f a2 a3).bind fun bt173 => ((pledgeref1_LeftTo.f a2 a3).bind fun bt175 => (if bt160.1 = bt162.1 then ((pledgesee_Is.f bt160.2 bt162.2).bind fun t177 => (if t177 = true then (if bt164.1 = bt169.1 then (if bt164.2.1 = bt169.2.1 then (if bt164.2.2.1 = bt169.2.2.1 then ((pledgesee_Is.f bt164.2.2.2 bt169.2.2.2).bind fun t178 => (if t178 = true then ((day_Leap.f a0_0).bind fun t179 => ((pledgeref1_Leap.f a0_0).bind fun t180 => (if (t179 != t180) = true then (pledgelaw4_DaySays.j0 k a2 a3 t159 bt173.1 bt173.2 bt175.1 bt175.2 true) else ((day_Weekday.f a1).bind fun t181 => ((pledgeref1_Weekday.f a1).bind fun t182 => (if t181 = t182 then ((day_Bucket.f k a1).bind fun t183 => ((pledgeref1_Bucket.f a1).bind fun t184 => (pledgelaw4_DaySays.j0 k a2 a3 t159 bt173.1 bt173.2 bt175.1 bt175.2 (t183 != t184)))) else (pledgelaw4_DaySays.j0 k a2 a3 t159 bt173.1 bt173.2 bt175.1 bt175.2 true))))))) else (pledgelaw4_DaySays.j0 k a2 a3 t159 bt173.1 bt173.2 bt175.1 bt175.2 true))) else (pledgelaw4_DaySays.j0 k a2 a3 t159 bt173.1 bt173.2 bt175.1 bt175.2 true)) else (pledgelaw4_DaySays.j0 k a2 a3 t159 bt173.1 bt173.2 bt175.1 bt175.2 true)) else (pledgelaw4_DaySays.j0 k a2 a3 t159 bt173.1 bt173.2 bt175.1 bt175.2 true)) else (pledgelaw4_DaySays.j0 k a2 a3 t159 bt173.1 bt173.2 bt175.1 bt175.2 true))) else (pledgelaw4_DaySays.j0 k a2 a3 t159 bt173.1 bt173.2 bt175.1 bt175.2 true)))))))) else (some false)) = some r := H
 have A5 := Aside0.mk A50
 clear A50
 by_cases c6 : t159 = true
 ·
  subst c6
  have H1 : ((day_Of.f k a0_0 a0_1 a0_2).bind fun bt160 => ((pledgeref1_DayOf.f k a0_0 a0_1 a0_2).bind fun bt162 => ((day_At.f k a1).bind fun bt164 => ((pledgeref1_DateAt.f k a1).bind fun bt169 => ((day_Left.f a2 a3).bind fun bt173 => ((pledgeref1_LeftTo.f a2 a3).bind fun bt175 => (if bt160.1 = bt162.1 then ((pledgesee_Is.f bt160.2 bt162.2).bind fun t177 => (if t177 = true then (if bt164.1 = bt169.1 then (if bt164.2.1 = bt169.2.1 then (if bt164.2.2.1 = bt169.2.2.1 then ((pledgesee_Is.f bt164.2.2.2 bt169.2.2.2).bind fun t178 => (if t178 = true then ((day_Leap.f a0_0).bind fun t179 => ((pledgeref1_Leap.f a0_0).bind fun t180 => (if (t179 != t180) = true then (pledgelaw4_DaySays.j0 k a2 a3 true bt173.1 bt173.2 bt175.1 bt175.2 true) else ((day_Weekday.f a1).bind fun t181 => ((pledgeref1_Weekday.f a1).bind fun t182 => (if t181 = t182 then ((day_Bucket.f k a1).bind fun t183 => ((pledgeref1_Bucket.f a1).bind fun t184 => (pledgelaw4_DaySays.j0 k a2 a3 true bt173.1 bt173.2 bt175.1 bt175.2 (t183 != t184)))) else (pledgelaw4_DaySays.j0 k a2 a3 true bt173.1 bt173.2 bt175.1 bt175.2 true))))))) else (pledgelaw4_DaySays.j0 k a2 a3 true bt173.1 bt173.2 bt175.1 bt175.2 true))) else (pledgelaw4_DaySays.j0 k a2 a3 true bt173.1 bt173.2 bt175.1 bt175.2 true)) else (pledgelaw4_DaySays.j0 k a2 a3 true bt173.1 bt173.2 bt175.1 bt175.2 true)) else (pledgelaw4_DaySays.j0 k a2 a3 true bt173.1 bt173.2 bt175.1 bt175.2 true)) else (pledgelaw4_DaySays.j0 k a2 a3 true bt173.1 bt173.2 bt175.1 bt175.2 true))) else (pledgelaw4_DaySays.j0 k a2 a3 true bt173.1 bt173.2 bt175.1 bt175.2 true)))))))) = some r := by rw [if_pos rfl] at H; exact H
  clear H
  have H := H1
  clear H1
  replace H := Option.bind_eq_some_iff.mp H
  obtain ⟨⟨t160, t161⟩, A70, H⟩ := H
  replace H : ((pledgeref1_DayOf.f k a0_0 a0_1 a0_2).bind fun bt162 => ((day_At.f k a1).bind fun bt164 => ((pledgeref1_DateAt.f k a1).bind fun bt169 => ((day_Left.f a2 a3).bind fun bt173 => ((pledgeref1_LeftTo.f a2 a3).bind fun bt175 => (if t160 = bt162.1 then ((pledgesee_Is.f t161 bt162.2).bind fun t177 => (if t177 = true then (if bt164.1 = bt169.1 then (if bt164.2.1 = bt169.2.1 then (if bt164.2.2.1 = bt169.2.2.1 then ((pledgesee_Is.f bt164.2.2.2 bt169.2.2.2).bind fun t178 => (if t178 = true then ((day_Leap.f a0_0).bind fun t179 => ((pledgeref1_Leap.f a0_0).bind fun t180 => (if (t179 != t180) = true then (pledgelaw4_DaySays.j0 k a2 a3 true bt173.1 bt173.2 bt175.1 bt175.2 true) else ((day_Weekday.f a1).bind fun t181 => ((pledgeref1_Weekday.f a1).bind fun t182 => (if t181 = t182 then ((day_Bucket.f k a1).bind fun t183 => ((pledgeref1_Bucket.f a1).bind fun t184 => (pledgelaw4_DaySays.j0 k a2 a3 true bt173.1 bt173.2 bt175.1 bt175.2 (t183 != t184)))) else (pledgelaw4_DaySays.j0 k a2 a3 true bt173.1 bt173.2 bt175.1 bt175.2 true))))))) else (pledgelaw4_DaySays.j0 k a2 a3 true bt173.1 bt173.2 bt175.1 bt175.2 true))) else (pledgelaw4_DaySays.j0 k a2 a3 true bt173.1 bt173.2 bt175.1 bt175.2 true)) else (pledgelaw4_DaySays.j0 k a2 a3 true bt173.1 bt173.2 bt175.1 bt175.2 true)) else (pledgelaw4_DaySays.j0 k a2 a3 true bt173.1 bt173.2 bt175.1 bt175.2 true)) else (pledgelaw4_DaySays.j0 k a2 a3 true bt173.1 bt173.2 bt175.1 bt175.2 true))) else (pledgelaw4_DaySays.j0 k a2 a3 true bt173.1 bt173.2 bt175.1 bt175.2 true))))))) = some r := H
  have A7 := Aside0.mk A70
  clear A70
  replace H := Option.bind_eq_some_iff.mp H
  obtain ⟨⟨t162, t163⟩, A80, H⟩ := H
  replace H : ((day_At.f k a1).bind fun bt164 => ((pledgeref1_DateAt.f k a1).bind fun bt169 => ((day_Left.f a2 a3).bind fun bt173 => ((pledgeref1_LeftTo.f a2 a3).bind fun bt175 => (if t160 = t162 then ((pledgesee_Is.f t161 t163).bind fun t177 => (if t177 = true then (if bt164.1 = bt169.1 then (if bt164.2.1 = bt169.2.1 then (if bt164.2.2.1 = bt169.2.2.1 then ((pledgesee_Is.f bt164.2.2.2 bt169.2.2.2).bind fun t178 => (if t178 = true then ((day_Leap.f a0_0).bind fun t179 => ((pledgeref1_Leap.f a0_0).bind fun t180 => (if (t179 != t180) = true then (pledgelaw4_DaySays.j0 k a2 a3 true bt173.1 bt173.2 bt175.1 bt175.2 true) else ((day_Weekday.f a1).bind fun t181 => ((pledgeref1_Weekday.f a1).bind fun t182 => (if t181 = t182 then ((day_Bucket.f k a1).bind fun t183 => ((pledgeref1_Bucket.f a1).bind fun t184 => (pledgelaw4_DaySays.j0 k a2 a3 true bt173.1 bt173.2 bt175.1 bt175.2 (t183 != t184)))) else (pledgelaw4_DaySays.j0 k a2 a3 true bt173.1 bt173.2 bt175.1 bt175.2 true))))))) else (pledgelaw4_DaySays.j0 k a2 a3 true bt173.1 bt173.2 bt175.1 bt175.2 true))) else (pledgelaw4_DaySays.j0 k a2 a3 true bt173.1 bt173.2 bt175.1 bt175.2 true)) else (pledgelaw4_DaySays.j0 k a2 a3 true bt173.1 bt173.2 bt175.1 bt175.2 true)) else (pledgelaw4_DaySays.j0 k a2 a3 true bt173.1 bt173.2 bt175.1 bt175.2 true)) else (pledgelaw4_DaySays.j0 k a2 a3 true bt173.1 bt173.2 bt175.1 bt175.2 true))) else (pledgelaw4_DaySays.j0 k a2 a3 true bt173.1 bt173.2 bt175.1 bt175.2 true)))))) = some r := H
  have A8 := Aside0.mk A80
  clear A80
  replace H := Option.bind_eq_some_iff.mp H
  obtain ⟨⟨t164, t165, t166, t167⟩, A90, H⟩ := H
  replace H : ((pledgeref1_DateAt.f k a1).bind fun bt169 => ((day_Left.f a2 a3).bind fun bt173 => ((pledgeref1_LeftTo.f a2 a3).bind fun bt175 => (if t160 = t162 then ((pledgesee_Is.f t161 t163).bind fun t177 => (if t177 = true then (if t164 = bt169.1 then (if t165 = bt169.2.1 then (if t166 = bt169.2.2.1 then ((pledgesee_Is.f t167 bt169.2.2.2).bind fun t178 => (if t178 = true then ((day_Leap.f a0_0).bind fun t179 => ((pledgeref1_Leap.f a0_0).bind fun t180 => (if (t179 != t180) = true then (pledgelaw4_DaySays.j0 k a2 a3 true bt173.1 bt173.2 bt175.1 bt175.2 true) else ((day_Weekday.f a1).bind fun t181 => ((pledgeref1_Weekday.f a1).bind fun t182 => (if t181 = t182 then ((day_Bucket.f k a1).bind fun t183 => ((pledgeref1_Bucket.f a1).bind fun t184 => (pledgelaw4_DaySays.j0 k a2 a3 true bt173.1 bt173.2 bt175.1 bt175.2 (t183 != t184)))) else (pledgelaw4_DaySays.j0 k a2 a3 true bt173.1 bt173.2 bt175.1 bt175.2 true))))))) else (pledgelaw4_DaySays.j0 k a2 a3 true bt173.1 bt173.2 bt175.1 bt175.2 true))) else (pledgelaw4_DaySays.j0 k a2 a3 true bt173.1 bt173.2 bt175.1 bt175.2 true)) else (pledgelaw4_DaySays.j0 k a2 a3 true bt173.1 bt173.2 bt175.1 bt175.2 true)) else (pledgelaw4_DaySays.j0 k a2 a3 true bt173.1 bt173.2 bt175.1 bt175.2 true)) else (pledgelaw4_DaySays.j0 k a2 a3 true bt173.1 bt173.2 bt175.1 bt175.2 true))) else (pledgelaw4_DaySays.j0 k a2 a3 true bt173.1 bt173.2 bt175.1 bt175.2 true))))) = some r := H
  have A9 := Aside0.mk A90
  clear A90
  replace H := Option.bind_eq_some_iff.mp H
  obtain ⟨⟨t169, t170, t171, t172⟩, A100, H⟩ := H
  replace H : ((day_Left.f a2 a3).bind fun bt173 => ((pledgeref1_LeftTo.f a2 a3).bind fun bt175 => (if t160 = t162 then ((pledgesee_Is.f t161 t163).bind fun t177 => (if t177 = true then (if t164 = t169 then (if t165 = t170 then (if t166 = t171 then ((pledgesee_Is.f t167 t172).bind fun t178 => (if t178 = true then ((day_Leap.f a0_0).bind fun t179 => ((pledgeref1_Leap.f a0_0).bind fun t180 => (if (t179 != t180) = true then (pledgelaw4_DaySays.j0 k a2 a3 true bt173.1 bt173.2 bt175.1 bt175.2 true) else ((day_Weekday.f a1).bind fun t181 => ((pledgeref1_Weekday.f a1).bind fun t182 => (if t181 = t182 then ((day_Bucket.f k a1).bind fun t183 => ((pledgeref1_Bucket.f a1).bind fun t184 => (pledgelaw4_DaySays.j0 k a2 a3 true bt173.1 bt173.2 bt175.1 bt175.2 (t183 != t184)))) else (pledgelaw4_DaySays.j0 k a2 a3 true bt173.1 bt173.2 bt175.1 bt175.2 true))))))) else (pledgelaw4_DaySays.j0 k a2 a3 true bt173.1 bt173.2 bt175.1 bt175.2 true))) else (pledgelaw4_DaySays.j0 k a2 a3 true bt173.1 bt173.2 bt175.1 bt175.2 true)) else (pledgelaw4_DaySays.j0 k a2 a3 true bt173.1 bt173.2 bt175.1 bt175.2 true)) else (pledgelaw4_DaySays.j0 k a2 a3 true bt173.1 bt173.2 bt175.1 bt175.2 true)) else (pledgelaw4_DaySays.j0 k a2 a3 true bt173.1 bt173.2 bt175.1 bt175.2 true))) else (pledgelaw4_DaySays.j0 k a2 a3 true bt173.1 bt173.2 bt175.1 bt175.2 true)))) = some r := H
  have A10 := Aside0.mk A100
  clear A100
  replace H := Option.bind_eq_some_iff.mp H
  obtain ⟨⟨t173, t174⟩, A110, H⟩ := H
  replace H : ((pledgeref1_LeftTo.f a2 a3).bind fun bt175 => (if t160 = t162 then ((pledgesee_Is.f t161 t163).bind fun t177 => (if t177 = true then (if t164 = t169 then (if t165 = t170 then (if t166 = t171 then ((pledgesee_Is.f t167 t172).bind fun t178 => (if t178 = true then ((day_Leap.f a0_0).bind fun t179 => ((pledgeref1_Leap.f a0_0).bind fun t180 => (if (t179 != t180) = true then (pledgelaw4_DaySays.j0 k a2 a3 true t173 t174 bt175.1 bt175.2 true) else ((day_Weekday.f a1).bind fun t181 => ((pledgeref1_Weekday.f a1).bind fun t182 => (if t181 = t182 then ((day_Bucket.f k a1).bind fun t183 => ((pledgeref1_Bucket.f a1).bind fun t184 => (pledgelaw4_DaySays.j0 k a2 a3 true t173 t174 bt175.1 bt175.2 (t183 != t184)))) else (pledgelaw4_DaySays.j0 k a2 a3 true t173 t174 bt175.1 bt175.2 true))))))) else (pledgelaw4_DaySays.j0 k a2 a3 true t173 t174 bt175.1 bt175.2 true))) else (pledgelaw4_DaySays.j0 k a2 a3 true t173 t174 bt175.1 bt175.2 true)) else (pledgelaw4_DaySays.j0 k a2 a3 true t173 t174 bt175.1 bt175.2 true)) else (pledgelaw4_DaySays.j0 k a2 a3 true t173 t174 bt175.1 bt175.2 true)) else (pledgelaw4_DaySays.j0 k a2 a3 true t173 t174 bt175.1 bt175.2 true))) else (pledgelaw4_DaySays.j0 k a2 a3 true t173 t174 bt175.1 bt175.2 true))) = some r := H
  have A11 := Aside0.mk A110
  clear A110
  replace H := Option.bind_eq_some_iff.mp H
  obtain ⟨⟨t175, t176⟩, A120, H⟩ := H
  replace H : (if t160 = t162 then ((pledgesee_Is.f t161 t163).bind fun t177 => (if t177 = true then (if t164 = t169 then (if t165 = t170 then (if t166 = t171 then ((pledgesee_Is.f t167 t172).bind fun t178 => (if t178 = true then ((day_Leap.f a0_0).bind fun t179 => ((pledgeref1_Leap.f a0_0).bind fun t180 => (if (t179 != t180) = true then (pledgelaw4_DaySays.j0 k a2 a3 true t173 t174 t175 t176 true) else ((day_Weekday.f a1).bind fun t181 => ((pledgeref1_Weekday.f a1).bind fun t182 => (if t181 = t182 then ((day_Bucket.f k a1).bind fun t183 => ((pledgeref1_Bucket.f a1).bind fun t184 => (pledgelaw4_DaySays.j0 k a2 a3 true t173 t174 t175 t176 (t183 != t184)))) else (pledgelaw4_DaySays.j0 k a2 a3 true t173 t174 t175 t176 true))))))) else (pledgelaw4_DaySays.j0 k a2 a3 true t173 t174 t175 t176 true))) else (pledgelaw4_DaySays.j0 k a2 a3 true t173 t174 t175 t176 true)) else (pledgelaw4_DaySays.j0 k a2 a3 true t173 t174 t175 t176 true)) else (pledgelaw4_DaySays.j0 k a2 a3 true t173 t174 t175 t176 true)) else (pledgelaw4_DaySays.j0 k a2 a3 true t173 t174 t175 t176 true))) else (pledgelaw4_DaySays.j0 k a2 a3 true t173 t174 t175 t176 true)) = some r := H
  have A12 := Aside0.mk A120
  clear A120
  have HC13 := Aside0.mk H
  clear H
  go_enter Tryd.func8, Tryd.ntmps8
  go_upto_region 10 with (first | ((with_reducible refine gate_dst (N := 4) rfl ?_); refine box_event ?hg (N := 4) ?hd (cs := #[.int .i64 a0_0, .int .i64 a0_1, .int .i64 a0_2]) (t := 32) ?hr ?_; (case hd => rfl); (case hg => rfl); (case hr => first | (go_simp; done) | (go_simp; rfl)); intro gb158 hg w14 hbox hb; have n0_ := Aside0.mk (below_step (by repeat (first | (with_reducible first | exact HB.out | apply below_alloc | apply pw_below_drewN | apply below_drew1) | exact HB.out)) hb); have n1_ := Aside0.mk (hbox); have n2_ := Aside0.mk ((by rw [hg]; exact (below_size (by repeat (first | (with_reducible first | exact HB.out | apply below_alloc | apply pw_below_drewN | apply below_drew1) | exact HB.out))) : w.heap.size ≤ gb158)); have n3_ := Aside0.mk ((by rw [hg]; exact (below_size (by repeat (first | (with_reducible first | exact HB.out | apply below_alloc | apply pw_below_drewN | apply below_drew1) | exact HB.out))) : w.heap.size ≤ gb158)); clear HB; have HB := n0_; have BK158 := n1_; have GW158 := n2_; have GE158 := n3_; clear n0_ n1_ n2_ n3_; clear hb hbox hg) | ((with_reducible refine gate_callee (f := 9) rfl ?_); refine goesL_ (some 24) rfl rfl Tryd.func9 (by kernel_rfl) rfl #[] rfl (by (try simp only [List.map_toArray, List.map_cons, List.map_nil]); first | done | rfl | (simp only [List.length_drop, List.length_take]; rfl)) ?_; (with_reducible refine (pledgelaw4_first.calls k  true _ ?side1 A5.out).mono ?_); (case side1 => exact GlobOK.below HG.out (by repeat (first | (with_reducible first | exact HB.out | apply below_alloc | apply pw_below_drewN | apply below_drew1 | refine below_set ?_ GE158.out) | exact HB.out))); rintro e w15 ⟨rfl, hb⟩; refine ⟨_, rfl, ?_⟩; have n0_ := Aside0.mk (blk_below (g := gb158) (o := .cells #[.int .i64 a0_0, .int .i64 a0_1, .int .i64 a0_2] 32 (0, 0)) (by (with_reducible repeat (first | refine blk_drewN ?_ _ | refine blk_drew ?_ | refine blk_alloc ?_ _)); exact BK158.out) hb); have n1_ := Aside0.mk (below_step (by repeat (first | (with_reducible first | exact HB.out | apply below_alloc | apply pw_below_drewN | apply below_drew1 | refine below_set ?_ GE158.out) | exact HB.out)) hb); clear BK158; clear HB; have BK158 := n0_; have HB := n1_; clear n0_ n1_; (try clear hb); (try clear hb2); (try clear hk); (try clear hi); have hcz16_0 : w15.cell? ⟨gb158, 0, none⟩ = some (.int .i64 a0_0) := (blk_cell BK158.out 0).trans rfl; have hcz16_1 : w15.cell? ⟨gb158, 1, none⟩ = some (.int .i64 a0_1) := (blk_cell BK158.out 1).trans rfl; have hcz16_2 : w15.cell? ⟨gb158, 2, none⟩ = some (.int .i64 a0_2) := (blk_cell BK158.out 2).trans rfl; have hfz16_0 := blk_frozen BK158.out 0; have hfz16_1 := blk_frozen BK158.out 1; have hfz16_2 := blk_frozen BK158.out 2) | ((with_reducible refine gate_callee (f := 13) rfl ?_); refine goesL_ (some 29) rfl rfl Tryd.func13 (by kernel_rfl) rfl #[.agg #[.int .i64 a0_0, .int .i64 a0_1, .int .i64 a0_2]] rfl (by (try simp only [List.map_toArray, List.map_cons, List.map_nil]); first | done | rfl | (simp only [List.length_drop, List.length_take]; rfl)) ?_; (with_reducible refine (day_Of.calls k a0_0 a0_1 a0_2 t160 t161 _ ?side1 A7.out).mono ?_); (case side1 => exact GlobOK.below HG.out (by repeat (first | (with_reducible first | exact HB.out | apply below_alloc | apply pw_below_drewN | apply below_drew1 | refine below_set ?_ GE158.out) | exact HB.out))); rintro e w17 ⟨rfl, hb⟩; refine ⟨_, rfl, ?_⟩; have n0_ := Aside0.mk (blk_below (g := gb158) (o := .cells #[.int .i64 a0_0, .int .i64 a0_1, .int .i64 a0_2] 32 (0, 0)) (by (with_reducible repeat (first | refine blk_drewN ?_ _ | refine blk_drew ?_ | refine blk_alloc ?_ _)); exact BK158.out) hb); have n1_ := Aside0.mk (below_step (by repeat (first | (with_reducible first | exact HB.out | apply below_alloc | apply pw_below_drewN | apply below_drew1 | refine below_set ?_ GE158.out) | exact HB.out)) hb); clear BK158; clear HB; have BK158 := n0_; have HB := n1_; clear n0_ n1_; (try clear hb); (try clear hb2); (try clear hk); (try clear hi); (try simp only [errW_none, errW_some]); have hcz18_0 : w17.cell? ⟨gb158, 0, none⟩ = some (.int .i64 a0_0) := (blk_cell BK158.out 0).trans rfl; have hcz18_1 : w17.cell? ⟨gb158, 1, none⟩ = some (.int .i64 a0_1) := (blk_cell BK158.out 1).trans rfl; have hcz18_2 : w17.cell? ⟨gb158, 2, none⟩ = some (.int .i64 a0_2) := (blk_cell BK158.out 2).trans rfl; have hfz18_0 := blk_frozen BK158.out 0; have hfz18_1 := blk_frozen BK158.out 1; have hfz18_2 := blk_frozen BK158.out 2) | ((with_reducible refine gate_callee (f := 18) rfl ?_); refine goesL_ (some 39) rfl rfl Tryd.func18 (by kernel_rfl) rfl #[.int .i64 a0_0, .int .i64 a0_1, .int .i64 a0_2] rfl (by (try simp only [List.map_toArray, List.map_cons, List.map_nil]); first | done | rfl | (simp only [List.length_drop, List.length_take]; rfl)) ?_; (with_reducible refine (pledgeref1_DayOf.calls k a0_0 a0_1 a0_2 t162 t163 _ A8.out).mono ?_); rintro e w' ⟨rfl, ⟨nd, rfl⟩⟩; refine ⟨_, rfl, ?_⟩; (try (rw [drewN_self w17]; generalize hq_ : World.drewN w17 _ = w17; have n0_ : Aside0 (w17.heap[gb158]? = some (.cells #[.int .i64 a0_0, .int .i64 a0_1, .int .i64 a0_2] 32 (0, 0))) := ⟨by rw [← hq_]; exact (by (with_reducible repeat (first | refine blk_drewN ?_ _ | refine blk_drew ?_ | refine blk_alloc ?_ _)); exact BK158.out)⟩; have n1_ : Aside0 (Below w.heap.size w w17) := ⟨by rw [← hq_]; exact (by repeat (first | (with_reducible first | exact HB.out | apply below_alloc | apply pw_below_drewN | apply below_drew1 | refine below_set ?_ GE158.out) | exact HB.out))⟩; clear BK158 HB hq_; have BK158 := n0_; have HB := n1_; clear n0_ n1_))) | ((with_reducible refine gate_callee (f := 17) rfl ?_); refine goesL_ (some 44) rfl rfl Tryd.func17 (by kernel_rfl) rfl #[.int .i64 a1] rfl (by (try simp only [List.map_toArray, List.map_cons, List.map_nil]); first | done | rfl | (simp only [List.length_drop, List.length_take]; rfl)) ?_; (with_reducible refine (day_At.calls k a1 t164 t165 t166 t167 _ ?side1 A9.out).mono ?_); (case side1 => exact GlobOK.below HG.out (by repeat (first | (with_reducible first | exact HB.out | apply below_alloc | apply pw_below_drewN | apply below_drew1 | refine below_set ?_ GE158.out) | exact HB.out))); rintro e w19 ⟨rfl, hb⟩; refine ⟨_, rfl, ?_⟩; have n0_ := Aside0.mk (blk_below (g := gb158) (o := .cells #[.int .i64 a0_0, .int .i64 a0_1, .int .i64 a0_2] 32 (0, 0)) (by (with_reducible repeat (first | refine blk_drewN ?_ _ | refine blk_drew ?_ | refine blk_alloc ?_ _)); exact BK158.out) hb); have n1_ := Aside0.mk (below_step (by repeat (first | (with_reducible first | exact HB.out | apply below_alloc | apply pw_below_drewN | apply below_drew1 | refine below_set ?_ GE158.out) | exact HB.out)) hb); clear BK158; clear HB; have BK158 := n0_; have HB := n1_; clear n0_ n1_; (try clear hb); (try clear hb2); (try clear hk); (try clear hi); (try simp only [errW_none, errW_some])) | ((with_reducible refine gate_dst (N := 14) rfl ?_); refine box_event ?hg (N := 14) ?hd (cs := #[.int .i64 0, .int .i64 0, .int .i64 0]) (t := 32) ?hr ?_; (case hd => rfl); (case hg => rfl); (case hr => first | (go_simp; done) | (go_simp; rfl)); intro gb168 hg w20 hbox hb; have n0_ := Aside0.mk (blk_below (g := gb158) (o := .cells #[.int .i64 a0_0, .int .i64 a0_1, .int .i64 a0_2] 32 (0, 0)) (by (with_reducible repeat (first | refine blk_drewN ?_ _ | refine blk_drew ?_ | refine blk_alloc ?_ _)); exact BK158.out) hb); have n1_ := Aside0.mk (below_step (by repeat (first | (with_reducible first | exact HB.out | apply below_alloc | apply pw_below_drewN | apply below_drew1 | refine below_set ?_ GE158.out) | exact HB.out)) hb); have n2_ := Aside0.mk (hbox); have n3_ := Aside0.mk ((by rw [hg]; exact (below_size (by repeat (first | (with_reducible first | exact HB.out | apply below_alloc | apply pw_below_drewN | apply below_drew1 | refine below_set ?_ GE158.out) | exact HB.out))) : w.heap.size ≤ gb168)); have n4_ := Aside0.mk ((by rw [hg]; exact (below_size (by repeat (first | (with_reducible first | exact HB.out | apply below_alloc | apply pw_below_drewN | apply below_drew1 | refine below_set ?_ GE158.out) | exact HB.out))) : w.heap.size ≤ gb168)); have n5_ := Aside0.mk ((by rw [hg]; exact Nat.ne_of_lt (blk_lt (g := gb158) (o := .cells #[.int .i64 a0_0, .int .i64 a0_1, .int .i64 a0_2] 32 (0, 0)) (by (with_reducible repeat (first | refine blk_drewN ?_ _ | refine blk_drew ?_ | refine blk_alloc ?_ _)); exact BK158.out)) : gb158 ≠ gb168)); have n6_ := Aside0.mk ((by rw [hg]; exact Nat.ne_of_gt (blk_lt (g := gb158) (o := .cells #[.int .i64 a0_0, .int .i64 a0_1, .int .i64 a0_2] 32 (0, 0)) (by (with_reducible repeat (first | refine blk_drewN ?_ _ | refine blk_drew ?_ | refine blk_alloc ?_ _)); exact BK158.out)) : gb168 ≠ gb158)); clear BK158; clear HB; have BK158 := n0_; have HB := n1_; have BK168 := n2_; have GW168 := n3_; have GE168 := n4_; have NB158_168 := n5_; have NB168_158 := n6_; clear n0_ n1_ n2_ n3_ n4_ n5_ n6_; clear hb hbox hg; have hnb21 := NB168_158.out; have hnc21 := NB158_168.out; have hcz22_0 : w20.cell? ⟨gb168, 0, none⟩ = some (.int .i64 0) := (blk_cell BK168.out 0).trans rfl; have hcz22_1 : w20.cell? ⟨gb168, 1, none⟩ = some (.int .i64 0) := (blk_cell BK168.out 1).trans rfl; have hcz22_2 : w20.cell? ⟨gb168, 2, none⟩ = some (.int .i64 0) := (blk_cell BK168.out 2).trans rfl; have hfz22_0 := blk_frozen BK168.out 0; have hfz22_1 := blk_frozen BK168.out 1; have hfz22_2 := blk_frozen BK168.out 2) | ((with_reducible refine gate_callee (f := 19) rfl ?_); refine goesL_ (some 49) rfl rfl Tryd.func19 (by kernel_rfl) rfl #[.int .i64 a1] rfl (by (try simp only [List.map_toArray, List.map_cons, List.map_nil]); first | done | rfl | (simp only [List.length_drop, List.length_take]; rfl)) ?_; (with_reducible refine (pledgeref1_DateAt.calls k a1 t169 t170 t171 t172 _ A10.out).mono ?_); rintro e w' ⟨rfl, ⟨nd, rfl⟩⟩; refine ⟨_, rfl, ?_⟩) | ((with_reducible refine gate_callee (f := 15) rfl ?_); refine goesL_ (some 57) rfl rfl Tryd.func15 (by kernel_rfl) rfl #[.int .i64 a2, .int .i64 a3] rfl (by (try simp only [List.map_toArray, List.map_cons, List.map_nil]); first | done | rfl | (simp only [List.length_drop, List.length_take]; rfl)) ?_; (with_reducible refine (day_Left.calls a2 a3 t173 t174 _ A11.out).mono ?_); rintro e w' ⟨rfl, ⟨nd, rfl⟩⟩; refine ⟨_, rfl, ?_⟩) | ((with_reducible refine gate_callee (f := 20) rfl ?_); refine goesL_ (some 63) rfl rfl Tryd.func20 (by kernel_rfl) rfl #[.int .i64 a2, .int .i64 a3] rfl (by (try simp only [List.map_toArray, List.map_cons, List.map_nil]); first | done | rfl | (simp only [List.length_drop, List.length_take]; rfl)) ?_; (with_reducible refine (pledgeref1_LeftTo.calls a2 a3 t175 t176 _ A12.out).mono ?_); rintro e w' ⟨rfl, ⟨nd, rfl⟩⟩; refine ⟨_, rfl, ?_⟩))
  (try simp only [Act.put, zDS_q1, zDS_q2, zDS_q3])
  go_cut [121] (fun v121 wc => ∃ (kq : Nat) (x121_12 : Bool), v121 = .bool x121_12 ∧ Aside0 (pledgelaw4_DaySays.j0 kq a2 a3 true t173 t174 t175 t176 x121_12 = some r) ∧ Aside0 (kq ≤ k) ∧ Aside0 (wc.heap[gb158]? = some (.cells #[.int .i64 a0_0, .int .i64 a0_1, .int .i64 a0_2] 32 (0, 0))) ∧ Aside0 (wc.heap[gb168]? = some (.cells #[.int .i64 t164, .int .i64 t165, .int .i64 t166] 32 (0, 0))) ∧ Aside0 (Below w.heap.size w wc))
  case first =>
   have H := HC13.out
   clear HC13
   by_cases c23 : t160 = t162
   ·
    rw [if_pos c23] at H
    have c23b0 : (t160 == t162) = true := beq_iff_eq.mpr c23
    have c23b1 : (t160 != t162) = false := bne_eq_false_iff_eq.mpr c23
    clear c23
    (first | rw [c23b0] | (simp only [i64_w, i32_w]; rw [c23b0]) | skip)
    replace H := Option.bind_eq_some_iff.mp H
    obtain ⟨t177, A240, H⟩ := H
    replace H : (if t177 = true then (if t164 = t169 then (if t165 = t170 then (if t166 = t171 then ((pledgesee_Is.f t167 t172).bind fun t178 => (if t178 = true then ((day_Leap.f a0_0).bind fun t179 => ((pledgeref1_Leap.f a0_0).bind fun t180 => (if (t179 != t180) = true then (pledgelaw4_DaySays.j0 k a2 a3 true t173 t174 t175 t176 true) else ((day_Weekday.f a1).bind fun t181 => ((pledgeref1_Weekday.f a1).bind fun t182 => (if t181 = t182 then ((day_Bucket.f k a1).bind fun t183 => ((pledgeref1_Bucket.f a1).bind fun t184 => (pledgelaw4_DaySays.j0 k a2 a3 true t173 t174 t175 t176 (t183 != t184)))) else (pledgelaw4_DaySays.j0 k a2 a3 true t173 t174 t175 t176 true))))))) else (pledgelaw4_DaySays.j0 k a2 a3 true t173 t174 t175 t176 true))) else (pledgelaw4_DaySays.j0 k a2 a3 true t173 t174 t175 t176 true)) else (pledgelaw4_DaySays.j0 k a2 a3 true t173 t174 t175 t176 true)) else (pledgelaw4_DaySays.j0 k a2 a3 true t173 t174 t175 t176 true)) else (pledgelaw4_DaySays.j0 k a2 a3 true t173 t174 t175 t176 true)) = some r := H
    have A24 := Aside0.mk A240
    clear A240
    by_cases c25 : t177 = true
    ·
     subst c25
     have H1 : (if t164 = t169 then (if t165 = t170 then (if t166 = t171 then ((pledgesee_Is.f t167 t172).bind fun t178 => (if t178 = true then ((day_Leap.f a0_0).bind fun t179 => ((pledgeref1_Leap.f a0_0).bind fun t180 => (if (t179 != t180) = true then (pledgelaw4_DaySays.j0 k a2 a3 true t173 t174 t175 t176 true) else ((day_Weekday.f a1).bind fun t181 => ((pledgeref1_Weekday.f a1).bind fun t182 => (if t181 = t182 then ((day_Bucket.f k a1).bind fun t183 => ((pledgeref1_Bucket.f a1).bind fun t184 => (pledgelaw4_DaySays.j0 k a2 a3 true t173 t174 t175 t176 (t183 != t184)))) else (pledgelaw4_DaySays.j0 k a2 a3 true t173 t174 t175 t176 true))))))) else (pledgelaw4_DaySays.j0 k a2 a3 true t173 t174 t175 t176 true))) else (pledgelaw4_DaySays.j0 k a2 a3 true t173 t174 t175 t176 true)) else (pledgelaw4_DaySays.j0 k a2 a3 true t173 t174 t175 t176 true)) else (pledgelaw4_DaySays.j0 k a2 a3 true t173 t174 t175 t176 true)) = some r := by rw [if_pos rfl] at H; exact H
     clear H
     have H := H1
     clear H1
     by_cases c26 : t164 = t169
     ·
      rw [if_pos c26] at H
      have c26b0 : (t164 == t169) = true := beq_iff_eq.mpr c26
      have c26b1 : (t164 != t169) = false := bne_eq_false_iff_eq.mpr c26
      clear c26
      by_cases c27 : t165 = t170
      ·
       rw [if_pos c27] at H
       have c27b0 : (t165 == t170) = true := beq_iff_eq.mpr c27
       have c27b1 : (t165 != t170) = false := bne_eq_false_iff_eq.mpr c27
       clear c27
       by_cases c28 : t166 = t171
       ·
        rw [if_pos c28] at H
        have c28b0 : (t166 == t171) = true := beq_iff_eq.mpr c28
        have c28b1 : (t166 != t171) = false := bne_eq_false_iff_eq.mpr c28
        clear c28
        replace H := Option.bind_eq_some_iff.mp H
        obtain ⟨t178, A290, H⟩ := H
        replace H : (if t178 = true then ((day_Leap.f a0_0).bind fun t179 => ((pledgeref1_Leap.f a0_0).bind fun t180 => (if (t179 != t180) = true then (pledgelaw4_DaySays.j0 k a2 a3 true t173 t174 t175 t176 true) else ((day_Weekday.f a1).bind fun t181 => ((pledgeref1_Weekday.f a1).bind fun t182 => (if t181 = t182 then ((day_Bucket.f k a1).bind fun t183 => ((pledgeref1_Bucket.f a1).bind fun t184 => (pledgelaw4_DaySays.j0 k a2 a3 true t173 t174 t175 t176 (t183 != t184)))) else (pledgelaw4_DaySays.j0 k a2 a3 true t173 t174 t175 t176 true))))))) else (pledgelaw4_DaySays.j0 k a2 a3 true t173 t174 t175 t176 true)) = some r := H
        have A29 := Aside0.mk A290
        clear A290
        by_cases c30 : t178 = true
        ·
         subst c30
         have H1 : ((day_Leap.f a0_0).bind fun t179 => ((pledgeref1_Leap.f a0_0).bind fun t180 => (if (t179 != t180) = true then (pledgelaw4_DaySays.j0 k a2 a3 true t173 t174 t175 t176 true) else ((day_Weekday.f a1).bind fun t181 => ((pledgeref1_Weekday.f a1).bind fun t182 => (if t181 = t182 then ((day_Bucket.f k a1).bind fun t183 => ((pledgeref1_Bucket.f a1).bind fun t184 => (pledgelaw4_DaySays.j0 k a2 a3 true t173 t174 t175 t176 (t183 != t184)))) else (pledgelaw4_DaySays.j0 k a2 a3 true t173 t174 t175 t176 true))))))) = some r := by rw [if_pos rfl] at H; exact H
         clear H
         have H := H1
         clear H1
         replace H := Option.bind_eq_some_iff.mp H
         obtain ⟨t179, A310, H⟩ := H
         replace H : ((pledgeref1_Leap.f a0_0).bind fun t180 => (if (t179 != t180) = true then (pledgelaw4_DaySays.j0 k a2 a3 true t173 t174 t175 t176 true) else ((day_Weekday.f a1).bind fun t181 => ((pledgeref1_Weekday.f a1).bind fun t182 => (if t181 = t182 then ((day_Bucket.f k a1).bind fun t183 => ((pledgeref1_Bucket.f a1).bind fun t184 => (pledgelaw4_DaySays.j0 k a2 a3 true t173 t174 t175 t176 (t183 != t184)))) else (pledgelaw4_DaySays.j0 k a2 a3 true t173 t174 t175 t176 true)))))) = some r := H
         have A31 := Aside0.mk A310
         clear A310
         replace H := Option.bind_eq_some_iff.mp H
         obtain ⟨t180, A320, H⟩ := H
         replace H : (if (t179 != t180) = true then (pledgelaw4_DaySays.j0 k a2 a3 true t173 t174 t175 t176 true) else ((day_Weekday.f a1).bind fun t181 => ((pledgeref1_Weekday.f a1).bind fun t182 => (if t181 = t182 then ((day_Bucket.f k a1).bind fun t183 => ((pledgeref1_Bucket.f a1).bind fun t184 => (pledgelaw4_DaySays.j0 k a2 a3 true t173 t174 t175 t176 (t183 != t184)))) else (pledgelaw4_DaySays.j0 k a2 a3 true t173 t174 t175 t176 true))))) = some r := H
         have A32 := Aside0.mk A320
         clear A320
         by_cases c33 : (t179 != t180) = true
         ·
          rw [if_pos c33] at H
          have c33b0 : (t179 != t180) = true := c33
          (try (have c33b1 : decide (t179 = t180) = false := by simpa using c33))
          (try (have c33b2 : (t179 == t180) = false := by simpa using c33))
          (try (have c33b3 : ¬ (t179 = t180) := by simpa using c33))
          clear c33
          have H' := Aside0.mk H
          clear H
          try go_wp2
          have n0_ : Aside0 ((((w20.setCell ⟨gb168, 0, none⟩ (.int .i64 t164)).setCell ⟨gb168, 1, none⟩ (.int .i64 t165)).setCell ⟨gb168, 2, none⟩ (.int .i64 t166)).heap[gb158]? = some (.cells #[.int .i64 a0_0, .int .i64 a0_1, .int .i64 a0_2] 32 (0, 0))) := ⟨by (with_reducible repeat (first | refine blk_drewN ?_ _ | refine blk_drew ?_ | refine blk_alloc ?_ _)); refine blk_far ?_ NB158_168.out _; (with_reducible repeat (first | refine blk_drewN ?_ _ | refine blk_drew ?_ | refine blk_alloc ?_ _)); refine blk_far ?_ NB158_168.out _; (with_reducible repeat (first | refine blk_drewN ?_ _ | refine blk_drew ?_ | refine blk_alloc ?_ _)); refine blk_far ?_ NB158_168.out _; (with_reducible repeat (first | refine blk_drewN ?_ _ | refine blk_drew ?_ | refine blk_alloc ?_ _)); exact BK158.out⟩
          have n1_ : Aside0 ((((w20.setCell ⟨gb168, 0, none⟩ (.int .i64 t164)).setCell ⟨gb168, 1, none⟩ (.int .i64 t165)).setCell ⟨gb168, 2, none⟩ (.int .i64 t166)).heap[gb168]? = some (.cells #[.int .i64 t164, .int .i64 t165, .int .i64 t166] 32 (0, 0))) := ⟨by (with_reducible repeat (first | refine blk_drewN ?_ _ | refine blk_drew ?_ | refine blk_alloc ?_ _)); refine blk_put (cs := #[.int .i64 t164, .int .i64 t165, .int .i64 0]) ?_ 2 _ rfl; (with_reducible repeat (first | refine blk_drewN ?_ _ | refine blk_drew ?_ | refine blk_alloc ?_ _)); refine blk_put (cs := #[.int .i64 t164, .int .i64 0, .int .i64 0]) ?_ 1 _ rfl; (with_reducible repeat (first | refine blk_drewN ?_ _ | refine blk_drew ?_ | refine blk_alloc ?_ _)); refine blk_put (cs := #[.int .i64 0, .int .i64 0, .int .i64 0]) ?_ 0 _ rfl; (with_reducible repeat (first | refine blk_drewN ?_ _ | refine blk_drew ?_ | refine blk_alloc ?_ _)); exact BK168.out⟩
          have n2_ : Aside0 (Below w.heap.size w (((w20.setCell ⟨gb168, 0, none⟩ (.int .i64 t164)).setCell ⟨gb168, 1, none⟩ (.int .i64 t165)).setCell ⟨gb168, 2, none⟩ (.int .i64 t166))) := ⟨by repeat (first | (with_reducible first | exact HB.out | apply below_alloc | apply pw_below_drewN | apply below_drew1 | refine below_set ?_ GE158.out | refine below_set ?_ GE168.out) | exact HB.out)⟩
          (try clear BK158)
          (try clear BK168)
          (try clear HB)
          generalize (((w20.setCell ⟨gb168, 0, none⟩ (.int .i64 t164)).setCell ⟨gb168, 1, none⟩ (.int .i64 t165)).setCell ⟨gb168, 2, none⟩ (.int .i64 t166)) = w34 at n0_ n1_ n2_ ⊢
          have BK158 := n0_
          have BK168 := n1_
          have HB := n2_
          clear n0_ n1_ n2_
          (try (rw [drewN_self w34]; generalize hq_ : World.drewN w34 _ = w34; have n0_ : Aside0 (w34.heap[gb158]? = some (.cells #[.int .i64 a0_0, .int .i64 a0_1, .int .i64 a0_2] 32 (0, 0))) := ⟨by rw [← hq_]; exact (by (with_reducible repeat (first | refine blk_drewN ?_ _ | refine blk_drew ?_ | refine blk_alloc ?_ _)); exact BK158.out)⟩; have n1_ : Aside0 (w34.heap[gb168]? = some (.cells #[.int .i64 t164, .int .i64 t165, .int .i64 t166] 32 (0, 0))) := ⟨by rw [← hq_]; exact (by (with_reducible repeat (first | refine blk_drewN ?_ _ | refine blk_drew ?_ | refine blk_alloc ?_ _)); exact BK168.out)⟩; have n2_ : Aside0 (Below w.heap.size w w34) := ⟨by rw [← hq_]; exact (by repeat (first | (with_reducible first | exact HB.out | apply below_alloc | apply pw_below_drewN | apply below_drew1 | refine below_set ?_ GE158.out | refine below_set ?_ GE168.out) | exact HB.out))⟩; clear BK158 BK168 HB hq_; have BK158 := n0_; have BK168 := n1_; have HB := n2_; clear n0_ n1_ n2_))
          have n0_ := Aside0.mk (blk_drew BK158.out)
          have n1_ := Aside0.mk (blk_drew BK168.out)
          have n2_ := Aside0.mk (below_drew1 HB.out)
          clear BK158
          clear BK168
          clear HB
          have BK158 := n0_
          have BK168 := n1_
          have HB := n2_
          clear n0_ n1_ n2_
          have CA24 := fun W hG_ => pledgesee_Is.calls t161 t163 true W hG_ A24.out
          try simp only [errW_none, errW_some] at CA24
          refine start_ (n := 56) (S := fun w' => w'.cell? ⟨gb168, 0, none⟩ = some (.int .i64 t164) ∧ w'.cell? ⟨gb168, 1, none⟩ = some (.int .i64 t165) ∧ w'.cell? ⟨gb168, 2, none⟩ = some (.int .i64 t166) ∧ w'.cell? ⟨gb158, 0, none⟩ = some (.int .i64 a0_0) ∧ w'.cell? ⟨gb158, 1, none⟩ = some (.int .i64 a0_1) ∧ w'.cell? ⟨gb158, 2, none⟩ = some (.int .i64 a0_2)) (ds := []) zDS_m0 (by kernel_rfl) rfl rfl ⟨(blk_cell BK168.out 0).trans rfl, (blk_cell BK168.out 1).trans rfl, (blk_cell BK168.out 2).trans rfl, (blk_cell BK158.out 0).trans rfl, (blk_cell BK158.out 1).trans rfl, (blk_cell BK158.out 2).trans rfl⟩ (fun hHeld => ?_); refine with_tabW pledgelaw4_DaySays.tab10 pledgelaw4_DaySays.bits10 (fun HT_ HW_ => ?_)
          generalize w34.drew = w35 at BK158 BK168 HB hHeld ⊢
          refine zDS_u 0 66 zDS_m1 HT_ (v := ?_) (a' := ?_) rfl rfl (by kernel_rfl) (fun _ _ _ h => h) (Or.inl ⟨by rfl, ?_⟩) ?_ ?_
          rotate_left
          · intro w'; go_simp; with_reducible rfl
          rotate_left
          · simp only [Act.put, zDS_q1, zDS_q2, zDS_q3, i64_w, i32_w]; rfl
          refine zDS_u 1 67 zDS_m2 HT_ (v := ?_) (a' := ?_) rfl rfl (by kernel_rfl) (fun _ _ _ h => h) (Or.inl ⟨by rfl, ?_⟩) ?_ ?_
          rotate_left
          · intro w'; go_simp; with_reducible rfl
          rotate_left
          · simp only [Act.put, zDS_q1, zDS_q2, zDS_q3, i64_w, i32_w]; rfl
          refine zDS_u 2 68 zDS_m3 HT_ (v := ?_) (a' := ?_) rfl rfl (by kernel_rfl) (fun _ _ _ h => h) (Or.inl ⟨by rfl, ?_⟩) ?_ ?_
          rotate_left
          · intro w'; go_simp; with_reducible rfl
          rotate_left
          · simp only [Act.put, zDS_q1, zDS_q2, zDS_q3, i64_w, i32_w]; rfl
          refine zDS_u 3 69 zDS_m4 HT_ (v := ?_) (a' := ?_) rfl rfl (by kernel_rfl) (fun _ _ _ h => h) (Or.inl ⟨by rfl, ?_⟩) ?_ ?_
          rotate_left
          · intro w'; go_simp; with_reducible rfl
          rotate_left
          · simp only [Act.put, zDS_q1, zDS_q2, zDS_q3, i64_w, i32_w]; rfl
          refine zDS_u 4 70 zDS_m5 HT_ (v := ?_) (a' := ?_) rfl rfl (by kernel_rfl) (fun _ _ _ h => h) (Or.inl ⟨by rfl, ?_⟩) ?_ ?_
          rotate_left
          · intro w'; go_simp; with_reducible rfl
          rotate_left
          · simp only [Act.put, zDS_q1, zDS_q2, zDS_q3, i64_w, i32_w]; rfl
          refine zDS_u 5 71 zDS_m6 HT_ (v := ?_) (a' := ?_) rfl rfl (by kernel_rfl) (fun _ _ _ h => h) (Or.inl ⟨by rfl, ?_⟩) ?_ ?_
          rotate_left
          · intro w'; go_simp; with_reducible rfl
          rotate_left
          · simp only [Act.put, zDS_q1, zDS_q2, zDS_q3, i64_w, i32_w]; rfl
          refine one_ (i := 6) (N := some 72) zDS_m7 rfl rfl (one_of HT_.out (by kernel_rfl)) (by decide) (fun K hK => ?_)
          refine goes_ Tryd.func14 (by kernel_rfl) rfl #[errW t161, .int .i64 t163] (by rfl) rfl rfl (by (try simp only [List.map_toArray, List.map_cons, List.map_nil]); first | done | rfl | (simp only [List.length_drop, List.length_take]; rfl)) ?_
          with_reducible refine (CA24 _ ?side1).mono ?_
          (case side1 => exact GlobOK.below HG.out (by repeat (first | (with_reducible first | exact HB.out | apply below_alloc | apply pw_below_drewN | apply below_drew1 | refine below_set ?_ GE158.out | refine below_set ?_ GE168.out) | exact HB.out)))
          rintro e w36 ⟨rfl, hb⟩
          refine ⟨_, rfl, ?_⟩
          have n0_ := Aside0.mk (blk_below (g := gb158) (o := .cells #[.int .i64 a0_0, .int .i64 a0_1, .int .i64 a0_2] 32 (0, 0)) (by (with_reducible repeat (first | refine blk_drewN ?_ _ | refine blk_drew ?_ | refine blk_alloc ?_ _)); exact BK158.out) hb)
          have n1_ := Aside0.mk (blk_below (g := gb168) (o := .cells #[.int .i64 t164, .int .i64 t165, .int .i64 t166] 32 (0, 0)) (by (with_reducible repeat (first | refine blk_drewN ?_ _ | refine blk_drew ?_ | refine blk_alloc ?_ _)); exact BK168.out) hb)
          have n2_ := Aside0.mk (below_step (by repeat (first | (with_reducible first | exact HB.out | apply below_alloc | apply pw_below_drewN | apply below_drew1 | refine below_set ?_ GE158.out | refine below_set ?_ GE168.out) | exact HB.out)) hb)
          clear BK158
          clear BK168
          clear HB
          have BK158 := n0_
          have BK168 := n1_
          have HB := n2_
          clear n0_ n1_ n2_
          (try clear hb)
          (try clear hb2)
          (try clear hk)
          (try clear hi)
          have CA29 := fun W hG_ => pledgesee_Is.calls t167 t172 true W hG_ A29.out
          try simp only [errW_none, errW_some] at CA29
          refine hK.out _ _ ⟨(blk_cell BK168.out 0).trans rfl, (blk_cell BK168.out 1).trans rfl, (blk_cell BK168.out 2).trans rfl, (blk_cell BK158.out 0).trans rfl, (blk_cell BK158.out 1).trans rfl, (blk_cell BK158.out 2).trans rfl⟩ (fun hHeld => ?_)
          clear hK K
          refine norm_ (a' := ?_) ?_ ?_
          rotate_left
          ·
           show Act.put _ (some 72) _ = _
           simp only [Act.put, zDS_q1, zDS_q2, zDS_q3, i64_w, i32_w]
           rfl
          refine zDS_u 7 73 zDS_m8 HT_ (v := ?_) (a' := ?_) rfl rfl (by kernel_rfl) (fun _ _ _ h => h) (Or.inl ⟨by rfl, ?_⟩) ?_ ?_
          rotate_left
          · intro w'; go_simp; with_reducible rfl
          rotate_left
          · simp only [Act.put, zDS_q1, zDS_q2, zDS_q3, i64_w, i32_w]; rfl
          refine zDS_u 8 74 zDS_m9 HT_ (v := ?_) (a' := ?_) rfl rfl (by kernel_rfl) (fun _ _ _ h => h) (Or.inl ⟨by rfl, ?_⟩) ?_ ?_
          rotate_left
          · intro w'; go_simp; with_reducible rfl
          rotate_left
          · simp only [Act.put, zDS_q1, zDS_q2, zDS_q3, i64_w, i32_w]; rfl
          refine zDS_u 9 75 zDS_m10 HT_ (v := ?_) (a' := ?_) rfl rfl (by kernel_rfl) (fun _ _ _ h => h) (Or.inl ⟨by rfl, ?_⟩) ?_ ?_
          rotate_left
          · intro w'; go_simp; with_reducible rfl
          rotate_left
          · simp only [Act.put, zDS_q1, zDS_q2, zDS_q3, i64_w, i32_w]; rfl
          refine zDS_u 10 76 zDS_m11 HT_ (v := ?_) (a' := ?_) rfl rfl (by kernel_rfl) (fun _ _ _ h => h) (Or.inl ⟨by rfl, ?_⟩) ?_ ?_
          rotate_left
          · intro w'; go_simp; with_reducible rfl
          rotate_left
          · simp only [Act.put, zDS_q1, zDS_q2, zDS_q3, i64_w, i32_w]; rfl
          refine zDS_u 12 78 zDS_m12 HT_ (v := ?_) (a' := ?_) rfl rfl (by kernel_rfl) (fun _ _ _ h => h) (Or.inl ⟨by rfl, ?_⟩) ?_ ?_
          rotate_left
          · intro w'; go_simp; with_reducible rfl
          rotate_left
          · simp only [Act.put, zDS_q1, zDS_q2, zDS_q3, i64_w, i32_w]; rfl
          refine take_ (i := 11) (N := some 77) (v := ?_) (a' := ?_) zDS_m13 rfl rfl (take_ofW HT_.out HW_.out (by kernel_rfl)) (fun _ _ _ h => h) (Or.inl ⟨by rfl, ?_⟩) hHeld ?_ ?_
          rotate_left
          ·
           rintro w' ⟨s0, s1, s2, s3, s4, s5⟩
           go_simp
           with_reducible rfl
          rotate_left
          · simp only [Act.put, zDS_q1, zDS_q2, zDS_q3, i64_w, i32_w]; rfl
          refine zDS_u 13 79 zDS_m14 HT_ (v := ?_) (a' := ?_) rfl rfl (by kernel_rfl) (fun _ _ _ h => h) (Or.inl ⟨by rfl, ?_⟩) ?_ ?_
          rotate_left
          · intro w'; go_simp; with_reducible rfl
          rotate_left
          · simp only [Act.put, zDS_q1, zDS_q2, zDS_q3, i64_w, i32_w]; rfl
          refine zDS_u 14 80 zDS_m15 HT_ (v := ?_) (a' := ?_) rfl rfl (by kernel_rfl) (fun _ _ _ h => h) (Or.inl ⟨by rfl, ?_⟩) ?_ ?_
          rotate_left
          · intro w'; go_simp; with_reducible rfl
          rotate_left
          · simp only [Act.put, zDS_q1, zDS_q2, zDS_q3, i64_w, i32_w]; rfl
          refine zDS_u 15 81 zDS_m16 HT_ (v := ?_) (a' := ?_) rfl rfl (by kernel_rfl) (fun _ _ _ h => h) (Or.inl ⟨by rfl, ?_⟩) ?_ ?_
          rotate_left
          · intro w'; go_simp; with_reducible rfl
          rotate_left
          · simp only [Act.put, zDS_q1, zDS_q2, zDS_q3, i64_w, i32_w]; rfl
          refine zDS_u 16 82 zDS_m17 HT_ (v := ?_) (a' := ?_) rfl rfl (by kernel_rfl) (fun _ _ _ h => h) (Or.inl ⟨by rfl, ?_⟩) ?_ ?_
          rotate_left
          · intro w'; go_simp; with_reducible rfl
          rotate_left
          · simp only [Act.put, zDS_q1, zDS_q2, zDS_q3, i64_w, i32_w]; rfl
          refine zDS_u 18 84 zDS_m18 HT_ (v := ?_) (a' := ?_) rfl rfl (by kernel_rfl) (fun _ _ _ h => h) (Or.inl ⟨by rfl, ?_⟩) ?_ ?_
          rotate_left
          · intro w'; go_simp; with_reducible rfl
          rotate_left
          · simp only [Act.put, zDS_q1, zDS_q2, zDS_q3, i64_w, i32_w]; rfl
          refine take_ (i := 17) (N := some 83) (v := ?_) (a' := ?_) zDS_m19 rfl rfl (take_ofW HT_.out HW_.out (by kernel_rfl)) (fun _ _ _ h => h) (Or.inl ⟨by rfl, ?_⟩) hHeld ?_ ?_
          rotate_left
          ·
           rintro w' ⟨s0, s1, s2, s3, s4, s5⟩
           go_simp
           with_reducible rfl
          rotate_left
          · simp only [Act.put, zDS_q1, zDS_q2, zDS_q3, i64_w, i32_w]; rfl
          refine zDS_u 19 85 zDS_m20 HT_ (v := ?_) (a' := ?_) rfl rfl (by kernel_rfl) (fun _ _ _ h => h) (Or.inl ⟨by rfl, ?_⟩) ?_ ?_
          rotate_left
          · intro w'; go_simp; with_reducible rfl
          rotate_left
          · simp only [Act.put, zDS_q1, zDS_q2, zDS_q3, i64_w, i32_w]; rfl
          refine zDS_u 20 86 zDS_m21 HT_ (v := ?_) (a' := ?_) rfl rfl (by kernel_rfl) (fun _ _ _ h => h) (Or.inl ⟨by rfl, ?_⟩) ?_ ?_
          rotate_left
          · intro w'; go_simp; with_reducible rfl
          rotate_left
          · simp only [Act.put, zDS_q1, zDS_q2, zDS_q3, i64_w, i32_w]; rfl
          refine zDS_u 21 87 zDS_m22 HT_ (v := ?_) (a' := ?_) rfl rfl (by kernel_rfl) (fun _ _ _ h => h) (Or.inl ⟨by rfl, ?_⟩) ?_ ?_
          rotate_left
          · intro w'; go_simp; with_reducible rfl
          rotate_left
          · simp only [Act.put, zDS_q1, zDS_q2, zDS_q3, i64_w, i32_w]; rfl
          refine zDS_u 22 88 zDS_m23 HT_ (v := ?_) (a' := ?_) rfl rfl (by kernel_rfl) (fun _ _ _ h => h) (Or.inl ⟨by rfl, ?_⟩) ?_ ?_
          rotate_left
          · intro w'; go_simp; with_reducible rfl
          rotate_left
          · simp only [Act.put, zDS_q1, zDS_q2, zDS_q3, i64_w, i32_w]; rfl
          refine zDS_u 24 90 zDS_m24 HT_ (v := ?_) (a' := ?_) rfl rfl (by kernel_rfl) (fun _ _ _ h => h) (Or.inl ⟨by rfl, ?_⟩) ?_ ?_
          rotate_left
          · intro w'; go_simp; with_reducible rfl
          rotate_left
          · simp only [Act.put, zDS_q1, zDS_q2, zDS_q3, i64_w, i32_w]; rfl
          refine take_ (i := 23) (N := some 89) (v := ?_) (a' := ?_) zDS_m25 rfl rfl (take_ofW HT_.out HW_.out (by kernel_rfl)) (fun _ _ _ h => h) (Or.inl ⟨by rfl, ?_⟩) hHeld ?_ ?_
          rotate_left
          ·
           rintro w' ⟨s0, s1, s2, s3, s4, s5⟩
           go_simp
           with_reducible rfl
          rotate_left
          · simp only [Act.put, zDS_q1, zDS_q2, zDS_q3, i64_w, i32_w]; rfl
          refine zDS_u 25 91 zDS_m26 HT_ (v := ?_) (a' := ?_) rfl rfl (by kernel_rfl) (fun _ _ _ h => h) (Or.inl ⟨by rfl, ?_⟩) ?_ ?_
          rotate_left
          · intro w'; go_simp; with_reducible rfl
          rotate_left
          · simp only [Act.put, zDS_q1, zDS_q2, zDS_q3, i64_w, i32_w]; rfl
          refine zDS_u 26 92 zDS_m27 HT_ (v := ?_) (a' := ?_) rfl rfl (by kernel_rfl) (fun _ _ _ h => h) (Or.inl ⟨by rfl, ?_⟩) ?_ ?_
          rotate_left
          · intro w'; go_simp; with_reducible rfl
          rotate_left
          · simp only [Act.put, zDS_q1, zDS_q2, zDS_q3, i64_w, i32_w]; rfl
          refine zDS_u 27 93 zDS_m28 HT_ (v := ?_) (a' := ?_) rfl rfl (by kernel_rfl) (fun _ _ _ h => h) (Or.inl ⟨by rfl, ?_⟩) ?_ ?_
          rotate_left
          · intro w'; go_simp; with_reducible rfl
          rotate_left
          · simp only [Act.put, zDS_q1, zDS_q2, zDS_q3, i64_w, i32_w]; rfl
          refine zDS_u 28 94 zDS_m29 HT_ (v := ?_) (a' := ?_) rfl rfl (by kernel_rfl) (fun _ _ _ h => h) (Or.inl ⟨by rfl, ?_⟩) ?_ ?_
          rotate_left
          · intro w'; go_simp; with_reducible rfl
          rotate_left
          · simp only [Act.put, zDS_q1, zDS_q2, zDS_q3, i64_w, i32_w]; rfl
          refine zDS_u 29 95 zDS_m30 HT_ (v := ?_) (a' := ?_) rfl rfl (by kernel_rfl) (fun _ _ _ h => h) (Or.inl ⟨by rfl, ?_⟩) ?_ ?_
          rotate_left
          · intro w'; go_simp; with_reducible rfl
          rotate_left
          · simp only [Act.put, zDS_q1, zDS_q2, zDS_q3, i64_w, i32_w]; rfl
          refine one_ (i := 30) (N := some 96) zDS_m31 rfl rfl (one_of HT_.out (by kernel_rfl)) (by decide) (fun K hK => ?_)
          refine goes_ Tryd.func14 (by kernel_rfl) rfl #[errW t167, .int .i64 t172] (by rfl) rfl rfl (by (try simp only [List.map_toArray, List.map_cons, List.map_nil]); first | done | rfl | (simp only [List.length_drop, List.length_take]; rfl)) ?_
          with_reducible refine (CA29 _ ?side1).mono ?_
          (case side1 => exact GlobOK.below HG.out (by repeat (first | (with_reducible first | exact HB.out | apply below_alloc | apply pw_below_drewN | apply below_drew1 | refine below_set ?_ GE158.out | refine below_set ?_ GE168.out) | exact HB.out)))
          rintro e w37 ⟨rfl, hb⟩
          refine ⟨_, rfl, ?_⟩
          have n0_ := Aside0.mk (blk_below (g := gb158) (o := .cells #[.int .i64 a0_0, .int .i64 a0_1, .int .i64 a0_2] 32 (0, 0)) (by (with_reducible repeat (first | refine blk_drewN ?_ _ | refine blk_drew ?_ | refine blk_alloc ?_ _)); exact BK158.out) hb)
          have n1_ := Aside0.mk (blk_below (g := gb168) (o := .cells #[.int .i64 t164, .int .i64 t165, .int .i64 t166] 32 (0, 0)) (by (with_reducible repeat (first | refine blk_drewN ?_ _ | refine blk_drew ?_ | refine blk_alloc ?_ _)); exact BK168.out) hb)
          have n2_ := Aside0.mk (below_step (by repeat (first | (with_reducible first | exact HB.out | apply below_alloc | apply pw_below_drewN | apply below_drew1 | refine below_set ?_ GE158.out | refine below_set ?_ GE168.out) | exact HB.out)) hb)
          clear BK158
          clear BK168
          clear HB
          have BK158 := n0_
          have BK168 := n1_
          have HB := n2_
          clear n0_ n1_ n2_
          (try clear hb)
          (try clear hb2)
          (try clear hk)
          (try clear hi)
          refine hK.out _ _ ⟨(blk_cell BK168.out 0).trans rfl, (blk_cell BK168.out 1).trans rfl, (blk_cell BK168.out 2).trans rfl, (blk_cell BK158.out 0).trans rfl, (blk_cell BK158.out 1).trans rfl, (blk_cell BK158.out 2).trans rfl⟩ (fun hHeld => ?_)
          clear hK K
          refine norm_ (a' := ?_) ?_ ?_
          rotate_left
          ·
           show Act.put _ (some 96) _ = _
           simp only [Act.put, zDS_q1, zDS_q2, zDS_q3, i64_w, i32_w]
           rfl
          refine zDS_u 31 97 zDS_m32 HT_ (v := ?_) (a' := ?_) rfl rfl (by kernel_rfl) (fun _ _ _ h => h) (Or.inl ⟨by rfl, ?_⟩) ?_ ?_
          rotate_left
          · intro w'; go_simp; with_reducible rfl
          rotate_left
          · simp only [Act.put, zDS_q1, zDS_q2, zDS_q3, i64_w, i32_w]; rfl
          refine zDS_u 32 98 zDS_m33 HT_ (v := ?_) (a' := ?_) rfl rfl (by kernel_rfl) (fun _ _ _ h => h) (Or.inl ⟨by rfl, ?_⟩) ?_ ?_
          rotate_left
          · intro w'; go_simp; with_reducible rfl
          rotate_left
          · simp only [Act.put, zDS_q1, zDS_q2, zDS_q3, i64_w, i32_w]; rfl
          refine zDS_u 33 99 zDS_m34 HT_ (v := ?_) (a' := ?_) rfl rfl (by kernel_rfl) (fun _ _ _ h => h) (Or.inl ⟨by rfl, ?_⟩) ?_ ?_
          rotate_left
          · intro w'; go_simp; with_reducible rfl
          rotate_left
          · simp only [Act.put, zDS_q1, zDS_q2, zDS_q3, i64_w, i32_w]; rfl
          refine zDS_u 34 100 zDS_m35 HT_ (v := ?_) (a' := ?_) rfl rfl (by kernel_rfl) (fun _ _ _ h => h) (Or.inl ⟨by rfl, ?_⟩) ?_ ?_
          rotate_left
          · intro w'; go_simp; with_reducible rfl
          rotate_left
          · simp only [Act.put, zDS_q1, zDS_q2, zDS_q3, i64_w, i32_w]; rfl
          refine zDS_u 37 103 zDS_m36 HT_ (v := ?_) (a' := ?_) rfl rfl (by kernel_rfl) (fun _ _ _ h => h) (Or.inl ⟨by rfl, ?_⟩) ?_ ?_
          rotate_left
          · intro w'; go_simp; with_reducible rfl
          rotate_left
          · simp only [Act.put, zDS_q1, zDS_q2, zDS_q3, i64_w, i32_w]; rfl
          refine take_ (i := 35) (N := some 101) (v := ?_) (a' := ?_) zDS_m37 rfl rfl (take_ofW HT_.out HW_.out (by kernel_rfl)) (fun _ _ _ h => h) (Or.inl ⟨by rfl, ?_⟩) hHeld ?_ ?_
          rotate_left
          ·
           rintro w' ⟨s0, s1, s2, s3, s4, s5⟩
           go_simp
           with_reducible rfl
          rotate_left
          · simp only [Act.put, zDS_q1, zDS_q2, zDS_q3, i64_w, i32_w]; rfl
          refine take_ (i := 38) (N := some 104) (v := ?_) (a' := ?_) zDS_m38 rfl rfl (take_ofW HT_.out HW_.out (by kernel_rfl)) (fun _ _ _ h => h) (Or.inl ⟨by rfl, ?_⟩) hHeld ?_ ?_
          rotate_left
          ·
           rintro w' ⟨s0, s1, s2, s3, s4, s5⟩
           go_simp
           with_reducible rfl
          rotate_left
          · simp only [Act.put, zDS_q1, zDS_q2, zDS_q3, i64_w, i32_w]; rfl
          refine one_ (i := 36) (N := some 102) zDS_m39 rfl rfl (one_of HT_.out (by kernel_rfl)) (by decide) (fun K hK => ?_)
          refine goes_ Tryd.func11 (by kernel_rfl) rfl #[.int .i64 a0_0] (by rfl) rfl rfl (by (try simp only [List.map_toArray, List.map_cons, List.map_nil]); first | done | rfl | (simp only [List.length_drop, List.length_take]; rfl)) ?_
          with_reducible refine (day_Leap.calls a0_0 t179 _ A31.out).mono ?_
          rintro e w' ⟨rfl, ⟨nd, rfl⟩⟩
          refine ⟨_, rfl, ?_⟩
          refine hK.out _ _ ⟨(blk_cell BK168.out 0).trans rfl, (blk_cell BK168.out 1).trans rfl, (blk_cell BK168.out 2).trans rfl, (blk_cell BK158.out 0).trans rfl, (blk_cell BK158.out 1).trans rfl, (blk_cell BK158.out 2).trans rfl⟩ (fun hHeld => ?_)
          clear hK K
          refine norm_ (a' := ?_) ?_ ?_
          rotate_left
          ·
           show Act.put _ (some 102) _ = _
           simp only [Act.put, zDS_q1, zDS_q2, zDS_q3, i64_w, i32_w]
           rfl
          refine one_ (i := 39) (N := some 105) zDS_m40 rfl rfl (one_of HT_.out (by kernel_rfl)) (by decide) (fun K hK => ?_)
          refine goes_ Tryd.func21 (by kernel_rfl) rfl #[.int .i64 a0_0] (by rfl) rfl rfl (by (try simp only [List.map_toArray, List.map_cons, List.map_nil]); first | done | rfl | (simp only [List.length_drop, List.length_take]; rfl)) ?_
          with_reducible refine (pledgeref1_Leap.calls a0_0 t180 _ A32.out).mono ?_
          rintro e w' ⟨rfl, ⟨nd, rfl⟩⟩
          refine ⟨_, rfl, ?_⟩
          refine hK.out _ _ ⟨(blk_cell BK168.out 0).trans rfl, (blk_cell BK168.out 1).trans rfl, (blk_cell BK168.out 2).trans rfl, (blk_cell BK158.out 0).trans rfl, (blk_cell BK158.out 1).trans rfl, (blk_cell BK158.out 2).trans rfl⟩ (fun hHeld => ?_)
          clear hK K
          refine norm_ (a' := ?_) ?_ ?_
          rotate_left
          ·
           show Act.put _ (some 105) _ = _
           simp only [Act.put, zDS_q1, zDS_q2, zDS_q3, i64_w, i32_w]
           rfl
          refine zDS_u 40 106 zDS_m41 HT_ (v := ?_) (a' := ?_) rfl rfl (by kernel_rfl) (fun _ _ _ h => h) (Or.inl ⟨by rfl, ?_⟩) ?_ ?_
          rotate_left
          · intro w'; go_simp; with_reducible rfl
          rotate_left
          · simp only [Act.put, zDS_q1, zDS_q2, zDS_q3, i64_w, i32_w]; rfl
          refine zDS_u 41 107 zDS_m42 HT_ (v := ?_) (a' := ?_) rfl rfl (by kernel_rfl) (fun _ _ _ h => h) (Or.inl ⟨by rfl, ?_⟩) ?_ ?_
          rotate_left
          · intro w'; go_simp; with_reducible rfl
          rotate_left
          · simp only [Act.put, zDS_q1, zDS_q2, zDS_q3, i64_w, i32_w]; rfl
          refine zDS_u 42 108 zDS_m43 HT_ (v := ?_) (a' := ?_) rfl rfl (by kernel_rfl) (fun _ _ _ h => h) (Or.inl ⟨by rfl, ?_⟩) ?_ ?_
          rotate_left
          · intro w'; go_simp; with_reducible rfl
          rotate_left
          · simp only [Act.put, zDS_q1, zDS_q2, zDS_q3, i64_w, i32_w]; rfl
          refine zDS_u 43 109 zDS_m44 HT_ (v := undef) (a' := ?_) rfl rfl (by kernel_rfl) (fun _ _ _ h => h) (Or.inr ⟨by rfl, rfl⟩) ?_ ?_
          rotate_left
          · simp only [Act.put, zDS_q1, zDS_q2, zDS_q3, i64_w, i32_w]; rfl
          refine zDS_u 44 110 zDS_m45 HT_ (v := undef) (a' := ?_) rfl rfl (by kernel_rfl) (fun _ _ _ h => h) (Or.inr ⟨by rfl, rfl⟩) ?_ ?_
          rotate_left
          · simp only [Act.put, zDS_q1, zDS_q2, zDS_q3, i64_w, i32_w]; rfl
          refine zDS_u 45 111 zDS_m46 HT_ (v := undef) (a' := ?_) rfl rfl (by kernel_rfl) (fun _ _ _ h => h) (Or.inr ⟨by rfl, rfl⟩) ?_ ?_
          rotate_left
          · simp only [Act.put, zDS_q1, zDS_q2, zDS_q3, i64_w, i32_w]; rfl
          refine zDS_u 46 112 zDS_m47 HT_ (v := undef) (a' := ?_) rfl rfl (by kernel_rfl) (fun _ _ _ h => h) (Or.inr ⟨by rfl, rfl⟩) ?_ ?_
          rotate_left
          · simp only [Act.put, zDS_q1, zDS_q2, zDS_q3, i64_w, i32_w]; rfl
          refine zDS_u 47 113 zDS_m48 HT_ (v := undef) (a' := ?_) rfl rfl (by kernel_rfl) (fun _ _ _ h => h) (Or.inr ⟨by rfl, rfl⟩) ?_ ?_
          rotate_left
          · simp only [Act.put, zDS_q1, zDS_q2, zDS_q3, i64_w, i32_w]; rfl
          refine zDS_u 48 114 zDS_m49 HT_ (v := ?_) (a' := ?_) rfl rfl (by kernel_rfl) (fun _ _ _ h => h) (Or.inl ⟨by rfl, ?_⟩) ?_ ?_
          rotate_left
          · intro w'; go_simp; with_reducible rfl
          rotate_left
          · simp only [Act.put, zDS_q1, zDS_q2, zDS_q3, i64_w, i32_w]; rfl
          refine zDS_u 49 115 zDS_m50 HT_ (v := ?_) (a' := ?_) rfl rfl (by kernel_rfl) (fun _ _ _ h => h) (Or.inl ⟨by rfl, ?_⟩) ?_ ?_
          rotate_left
          · intro w'; go_simp; with_reducible rfl
          rotate_left
          · simp only [Act.put, zDS_q1, zDS_q2, zDS_q3, i64_w, i32_w]; rfl
          refine zDS_u 50 116 zDS_m51 HT_ (v := undef) (a' := ?_) rfl rfl (by kernel_rfl) (fun _ _ _ h => h) (Or.inr ⟨by rfl, rfl⟩) ?_ ?_
          rotate_left
          · simp only [Act.put, zDS_q1, zDS_q2, zDS_q3, i64_w, i32_w]; rfl
          refine zDS_u 51 117 zDS_m52 HT_ (v := undef) (a' := ?_) rfl rfl (by kernel_rfl) (fun _ _ _ h => h) (Or.inr ⟨by rfl, rfl⟩) ?_ ?_
          rotate_left
          · simp only [Act.put, zDS_q1, zDS_q2, zDS_q3, i64_w, i32_w]; rfl
          refine zDS_u 52 118 zDS_m53 HT_ (v := undef) (a' := ?_) rfl rfl (by kernel_rfl) (fun _ _ _ h => h) (Or.inr ⟨by rfl, rfl⟩) ?_ ?_
          rotate_left
          · simp only [Act.put, zDS_q1, zDS_q2, zDS_q3, i64_w, i32_w]; rfl
          refine zDS_u 53 119 zDS_m54 HT_ (v := undef) (a' := ?_) rfl rfl (by kernel_rfl) (fun _ _ _ h => h) (Or.inr ⟨by rfl, rfl⟩) ?_ ?_
          rotate_left
          · simp only [Act.put, zDS_q1, zDS_q2, zDS_q3, i64_w, i32_w]; rfl
          refine zDS_u 54 120 zDS_m55 HT_ (v := undef) (a' := ?_) rfl rfl (by kernel_rfl) (fun _ _ _ h => h) (Or.inr ⟨by rfl, rfl⟩) ?_ ?_
          rotate_left
          · simp only [Act.put, zDS_q1, zDS_q2, zDS_q3, i64_w, i32_w]; rfl
          refine zDS_u 55 121 zDS_m56 HT_ (v := ?_) (a' := ?_) rfl rfl (by kernel_rfl) (fun _ _ _ h => h) (Or.inl ⟨by rfl, ?_⟩) ?_ ?_
          rotate_left
          · intro w'; go_simp; with_reducible rfl
          rotate_left
          · simp only [Act.put, zDS_q1, zDS_q2, zDS_q3, i64_w, i32_w]; rfl
          refine done_ (done_of HT_.out (by kernel_rfl)) ?_
          try go_wp2
          go_meet
          case rel => exact ⟨_, (true), (by first | rfl | (simp; done) | (simp [*]; done)), H', ⟨by first | omega | exact Nat.le_refl _⟩, ⟨by (with_reducible repeat (first | refine blk_drewN ?_ _ | refine blk_drew ?_ | refine blk_alloc ?_ _)); exact BK158.out⟩, ⟨by (with_reducible repeat (first | refine blk_drewN ?_ _ | refine blk_drew ?_ | refine blk_alloc ?_ _)); exact BK168.out⟩, ⟨by repeat (first | (with_reducible first | exact HB.out | apply below_alloc | apply pw_below_drewN | apply below_drew1 | refine below_set ?_ GE158.out | refine below_set ?_ GE168.out) | exact HB.out)⟩⟩
         ·
          rw [if_neg c33] at H
          have c33b0 : (t179 != t180) = false := by simpa using c33
          (try (have c33b1 : decide (t179 = t180) = true := by simpa using c33))
          (try (have c33b2 : (t179 == t180) = true := by simpa using c33))
          clear c33
          replace H := Option.bind_eq_some_iff.mp H
          obtain ⟨t181, A380, H⟩ := H
          replace H : ((pledgeref1_Weekday.f a1).bind fun t182 => (if t181 = t182 then ((day_Bucket.f k a1).bind fun t183 => ((pledgeref1_Bucket.f a1).bind fun t184 => (pledgelaw4_DaySays.j0 k a2 a3 true t173 t174 t175 t176 (t183 != t184)))) else (pledgelaw4_DaySays.j0 k a2 a3 true t173 t174 t175 t176 true))) = some r := H
          have A38 := Aside0.mk A380
          clear A380
          replace H := Option.bind_eq_some_iff.mp H
          obtain ⟨t182, A390, H⟩ := H
          replace H : (if t181 = t182 then ((day_Bucket.f k a1).bind fun t183 => ((pledgeref1_Bucket.f a1).bind fun t184 => (pledgelaw4_DaySays.j0 k a2 a3 true t173 t174 t175 t176 (t183 != t184)))) else (pledgelaw4_DaySays.j0 k a2 a3 true t173 t174 t175 t176 true)) = some r := H
          have A39 := Aside0.mk A390
          clear A390
          by_cases c40 : t181 = t182
          ·
           rw [if_pos c40] at H
           have c40b0 : (t181 == t182) = true := beq_iff_eq.mpr c40
           have c40b1 : (t181 != t182) = false := bne_eq_false_iff_eq.mpr c40
           clear c40
           replace H := Option.bind_eq_some_iff.mp H
           obtain ⟨t183, A410, H⟩ := H
           replace H : ((pledgeref1_Bucket.f a1).bind fun t184 => (pledgelaw4_DaySays.j0 k a2 a3 true t173 t174 t175 t176 (t183 != t184))) = some r := H
           have A41 := Aside0.mk A410
           clear A410
           replace H := Option.bind_eq_some_iff.mp H
           obtain ⟨t184, A420, H⟩ := H
           replace H : (pledgelaw4_DaySays.j0 k a2 a3 true t173 t174 t175 t176 (t183 != t184)) = some r := H
           have A42 := Aside0.mk A420
           clear A420
           have H' := Aside0.mk H
           clear H
           try go_wp2
           have n0_ : Aside0 ((((w20.setCell ⟨gb168, 0, none⟩ (.int .i64 t164)).setCell ⟨gb168, 1, none⟩ (.int .i64 t165)).setCell ⟨gb168, 2, none⟩ (.int .i64 t166)).heap[gb158]? = some (.cells #[.int .i64 a0_0, .int .i64 a0_1, .int .i64 a0_2] 32 (0, 0))) := ⟨by (with_reducible repeat (first | refine blk_drewN ?_ _ | refine blk_drew ?_ | refine blk_alloc ?_ _)); refine blk_far ?_ NB158_168.out _; (with_reducible repeat (first | refine blk_drewN ?_ _ | refine blk_drew ?_ | refine blk_alloc ?_ _)); refine blk_far ?_ NB158_168.out _; (with_reducible repeat (first | refine blk_drewN ?_ _ | refine blk_drew ?_ | refine blk_alloc ?_ _)); refine blk_far ?_ NB158_168.out _; (with_reducible repeat (first | refine blk_drewN ?_ _ | refine blk_drew ?_ | refine blk_alloc ?_ _)); exact BK158.out⟩
           have n1_ : Aside0 ((((w20.setCell ⟨gb168, 0, none⟩ (.int .i64 t164)).setCell ⟨gb168, 1, none⟩ (.int .i64 t165)).setCell ⟨gb168, 2, none⟩ (.int .i64 t166)).heap[gb168]? = some (.cells #[.int .i64 t164, .int .i64 t165, .int .i64 t166] 32 (0, 0))) := ⟨by (with_reducible repeat (first | refine blk_drewN ?_ _ | refine blk_drew ?_ | refine blk_alloc ?_ _)); refine blk_put (cs := #[.int .i64 t164, .int .i64 t165, .int .i64 0]) ?_ 2 _ rfl; (with_reducible repeat (first | refine blk_drewN ?_ _ | refine blk_drew ?_ | refine blk_alloc ?_ _)); refine blk_put (cs := #[.int .i64 t164, .int .i64 0, .int .i64 0]) ?_ 1 _ rfl; (with_reducible repeat (first | refine blk_drewN ?_ _ | refine blk_drew ?_ | refine blk_alloc ?_ _)); refine blk_put (cs := #[.int .i64 0, .int .i64 0, .int .i64 0]) ?_ 0 _ rfl; (with_reducible repeat (first | refine blk_drewN ?_ _ | refine blk_drew ?_ | refine blk_alloc ?_ _)); exact BK168.out⟩
           have n2_ : Aside0 (Below w.heap.size w (((w20.setCell ⟨gb168, 0, none⟩ (.int .i64 t164)).setCell ⟨gb168, 1, none⟩ (.int .i64 t165)).setCell ⟨gb168, 2, none⟩ (.int .i64 t166))) := ⟨by repeat (first | (with_reducible first | exact HB.out | apply below_alloc | apply pw_below_drewN | apply below_drew1 | refine below_set ?_ GE158.out | refine below_set ?_ GE168.out) | exact HB.out)⟩
           (try clear BK158)
           (try clear BK168)
           (try clear HB)
           generalize (((w20.setCell ⟨gb168, 0, none⟩ (.int .i64 t164)).setCell ⟨gb168, 1, none⟩ (.int .i64 t165)).setCell ⟨gb168, 2, none⟩ (.int .i64 t166)) = w43 at n0_ n1_ n2_ ⊢
           have BK158 := n0_
           have BK168 := n1_
           have HB := n2_
           clear n0_ n1_ n2_
           (try (rw [drewN_self w43]; generalize hq_ : World.drewN w43 _ = w43; have n0_ : Aside0 (w43.heap[gb158]? = some (.cells #[.int .i64 a0_0, .int .i64 a0_1, .int .i64 a0_2] 32 (0, 0))) := ⟨by rw [← hq_]; exact (by (with_reducible repeat (first | refine blk_drewN ?_ _ | refine blk_drew ?_ | refine blk_alloc ?_ _)); exact BK158.out)⟩; have n1_ : Aside0 (w43.heap[gb168]? = some (.cells #[.int .i64 t164, .int .i64 t165, .int .i64 t166] 32 (0, 0))) := ⟨by rw [← hq_]; exact (by (with_reducible repeat (first | refine blk_drewN ?_ _ | refine blk_drew ?_ | refine blk_alloc ?_ _)); exact BK168.out)⟩; have n2_ : Aside0 (Below w.heap.size w w43) := ⟨by rw [← hq_]; exact (by repeat (first | (with_reducible first | exact HB.out | apply below_alloc | apply pw_below_drewN | apply below_drew1 | refine below_set ?_ GE158.out | refine below_set ?_ GE168.out) | exact HB.out))⟩; clear BK158 BK168 HB hq_; have BK158 := n0_; have BK168 := n1_; have HB := n2_; clear n0_ n1_ n2_))
           have n0_ := Aside0.mk (blk_drew BK158.out)
           have n1_ := Aside0.mk (blk_drew BK168.out)
           have n2_ := Aside0.mk (below_drew1 HB.out)
           clear BK158
           clear BK168
           clear HB
           have BK158 := n0_
           have BK168 := n1_
           have HB := n2_
           clear n0_ n1_ n2_
           have CA24 := fun W hG_ => pledgesee_Is.calls t161 t163 true W hG_ A24.out
           try simp only [errW_none, errW_some] at CA24
           refine start_ (n := 56) (S := fun w' => w'.cell? ⟨gb168, 0, none⟩ = some (.int .i64 t164) ∧ w'.cell? ⟨gb168, 1, none⟩ = some (.int .i64 t165) ∧ w'.cell? ⟨gb168, 2, none⟩ = some (.int .i64 t166) ∧ w'.cell? ⟨gb158, 0, none⟩ = some (.int .i64 a0_0) ∧ w'.cell? ⟨gb158, 1, none⟩ = some (.int .i64 a0_1) ∧ w'.cell? ⟨gb158, 2, none⟩ = some (.int .i64 a0_2)) (ds := []) zDS_m0 (by kernel_rfl) rfl rfl ⟨(blk_cell BK168.out 0).trans rfl, (blk_cell BK168.out 1).trans rfl, (blk_cell BK168.out 2).trans rfl, (blk_cell BK158.out 0).trans rfl, (blk_cell BK158.out 1).trans rfl, (blk_cell BK158.out 2).trans rfl⟩ (fun hHeld => ?_); refine with_tabW pledgelaw4_DaySays.tab10 pledgelaw4_DaySays.bits10 (fun HT_ HW_ => ?_)
           generalize w43.drew = w44 at BK158 BK168 HB hHeld ⊢
           refine zDS_u 0 66 zDS_m1 HT_ (v := ?_) (a' := ?_) rfl rfl (by kernel_rfl) (fun _ _ _ h => h) (Or.inl ⟨by rfl, ?_⟩) ?_ ?_
           rotate_left
           · intro w'; go_simp; with_reducible rfl
           rotate_left
           · simp only [Act.put, zDS_q1, zDS_q2, zDS_q3, i64_w, i32_w]; rfl
           refine zDS_u 1 67 zDS_m2 HT_ (v := ?_) (a' := ?_) rfl rfl (by kernel_rfl) (fun _ _ _ h => h) (Or.inl ⟨by rfl, ?_⟩) ?_ ?_
           rotate_left
           · intro w'; go_simp; with_reducible rfl
           rotate_left
           · simp only [Act.put, zDS_q1, zDS_q2, zDS_q3, i64_w, i32_w]; rfl
           refine zDS_u 2 68 zDS_m3 HT_ (v := ?_) (a' := ?_) rfl rfl (by kernel_rfl) (fun _ _ _ h => h) (Or.inl ⟨by rfl, ?_⟩) ?_ ?_
           rotate_left
           · intro w'; go_simp; with_reducible rfl
           rotate_left
           · simp only [Act.put, zDS_q1, zDS_q2, zDS_q3, i64_w, i32_w]; rfl
           refine zDS_u 3 69 zDS_m4 HT_ (v := ?_) (a' := ?_) rfl rfl (by kernel_rfl) (fun _ _ _ h => h) (Or.inl ⟨by rfl, ?_⟩) ?_ ?_
           rotate_left
           · intro w'; go_simp; with_reducible rfl
           rotate_left
           · simp only [Act.put, zDS_q1, zDS_q2, zDS_q3, i64_w, i32_w]; rfl
           refine zDS_u 4 70 zDS_m5 HT_ (v := ?_) (a' := ?_) rfl rfl (by kernel_rfl) (fun _ _ _ h => h) (Or.inl ⟨by rfl, ?_⟩) ?_ ?_
           rotate_left
           · intro w'; go_simp; with_reducible rfl
           rotate_left
           · simp only [Act.put, zDS_q1, zDS_q2, zDS_q3, i64_w, i32_w]; rfl
           refine zDS_u 5 71 zDS_m6 HT_ (v := ?_) (a' := ?_) rfl rfl (by kernel_rfl) (fun _ _ _ h => h) (Or.inl ⟨by rfl, ?_⟩) ?_ ?_
           rotate_left
           · intro w'; go_simp; with_reducible rfl
           rotate_left
           · simp only [Act.put, zDS_q1, zDS_q2, zDS_q3, i64_w, i32_w]; rfl
           refine one_ (i := 6) (N := some 72) zDS_m7 rfl rfl (one_of HT_.out (by kernel_rfl)) (by decide) (fun K hK => ?_)
           refine goes_ Tryd.func14 (by kernel_rfl) rfl #[errW t161, .int .i64 t163] (by rfl) rfl rfl (by (try simp only [List.map_toArray, List.map_cons, List.map_nil]); first | done | rfl | (simp only [List.length_drop, List.length_take]; rfl)) ?_
           with_reducible refine (CA24 _ ?side1).mono ?_
           (case side1 => exact GlobOK.below HG.out (by repeat (first | (with_reducible first | exact HB.out | apply below_alloc | apply pw_below_drewN | apply below_drew1 | refine below_set ?_ GE158.out | refine below_set ?_ GE168.out) | exact HB.out)))
           rintro e w45 ⟨rfl, hb⟩
           refine ⟨_, rfl, ?_⟩
           have n0_ := Aside0.mk (blk_below (g := gb158) (o := .cells #[.int .i64 a0_0, .int .i64 a0_1, .int .i64 a0_2] 32 (0, 0)) (by (with_reducible repeat (first | refine blk_drewN ?_ _ | refine blk_drew ?_ | refine blk_alloc ?_ _)); exact BK158.out) hb)
           have n1_ := Aside0.mk (blk_below (g := gb168) (o := .cells #[.int .i64 t164, .int .i64 t165, .int .i64 t166] 32 (0, 0)) (by (with_reducible repeat (first | refine blk_drewN ?_ _ | refine blk_drew ?_ | refine blk_alloc ?_ _)); exact BK168.out) hb)
           have n2_ := Aside0.mk (below_step (by repeat (first | (with_reducible first | exact HB.out | apply below_alloc | apply pw_below_drewN | apply below_drew1 | refine below_set ?_ GE158.out | refine below_set ?_ GE168.out) | exact HB.out)) hb)
           clear BK158
           clear BK168
           clear HB
           have BK158 := n0_
           have BK168 := n1_
           have HB := n2_
           clear n0_ n1_ n2_
           (try clear hb)
           (try clear hb2)
           (try clear hk)
           (try clear hi)
           have CA29 := fun W hG_ => pledgesee_Is.calls t167 t172 true W hG_ A29.out
           try simp only [errW_none, errW_some] at CA29
           refine hK.out _ _ ⟨(blk_cell BK168.out 0).trans rfl, (blk_cell BK168.out 1).trans rfl, (blk_cell BK168.out 2).trans rfl, (blk_cell BK158.out 0).trans rfl, (blk_cell BK158.out 1).trans rfl, (blk_cell BK158.out 2).trans rfl⟩ (fun hHeld => ?_)
           clear hK K
           refine norm_ (a' := ?_) ?_ ?_
           rotate_left
           ·
            show Act.put _ (some 72) _ = _
            simp only [Act.put, zDS_q1, zDS_q2, zDS_q3, i64_w, i32_w]
            rfl
           refine zDS_u 7 73 zDS_m8 HT_ (v := ?_) (a' := ?_) rfl rfl (by kernel_rfl) (fun _ _ _ h => h) (Or.inl ⟨by rfl, ?_⟩) ?_ ?_
           rotate_left
           · intro w'; go_simp; with_reducible rfl
           rotate_left
           · simp only [Act.put, zDS_q1, zDS_q2, zDS_q3, i64_w, i32_w]; rfl
           refine zDS_u 8 74 zDS_m9 HT_ (v := ?_) (a' := ?_) rfl rfl (by kernel_rfl) (fun _ _ _ h => h) (Or.inl ⟨by rfl, ?_⟩) ?_ ?_
           rotate_left
           · intro w'; go_simp; with_reducible rfl
           rotate_left
           · simp only [Act.put, zDS_q1, zDS_q2, zDS_q3, i64_w, i32_w]; rfl
           refine zDS_u 9 75 zDS_m10 HT_ (v := ?_) (a' := ?_) rfl rfl (by kernel_rfl) (fun _ _ _ h => h) (Or.inl ⟨by rfl, ?_⟩) ?_ ?_
           rotate_left
           · intro w'; go_simp; with_reducible rfl
           rotate_left
           · simp only [Act.put, zDS_q1, zDS_q2, zDS_q3, i64_w, i32_w]; rfl
           refine zDS_u 10 76 zDS_m11 HT_ (v := ?_) (a' := ?_) rfl rfl (by kernel_rfl) (fun _ _ _ h => h) (Or.inl ⟨by rfl, ?_⟩) ?_ ?_
           rotate_left
           · intro w'; go_simp; with_reducible rfl
           rotate_left
           · simp only [Act.put, zDS_q1, zDS_q2, zDS_q3, i64_w, i32_w]; rfl
           refine zDS_u 12 78 zDS_m12 HT_ (v := ?_) (a' := ?_) rfl rfl (by kernel_rfl) (fun _ _ _ h => h) (Or.inl ⟨by rfl, ?_⟩) ?_ ?_
           rotate_left
           · intro w'; go_simp; with_reducible rfl
           rotate_left
           · simp only [Act.put, zDS_q1, zDS_q2, zDS_q3, i64_w, i32_w]; rfl
           refine take_ (i := 11) (N := some 77) (v := ?_) (a' := ?_) zDS_m13 rfl rfl (take_ofW HT_.out HW_.out (by kernel_rfl)) (fun _ _ _ h => h) (Or.inl ⟨by rfl, ?_⟩) hHeld ?_ ?_
           rotate_left
           ·
            rintro w' ⟨s0, s1, s2, s3, s4, s5⟩
            go_simp
            with_reducible rfl
           rotate_left
           · simp only [Act.put, zDS_q1, zDS_q2, zDS_q3, i64_w, i32_w]; rfl
           refine zDS_u 13 79 zDS_m14 HT_ (v := ?_) (a' := ?_) rfl rfl (by kernel_rfl) (fun _ _ _ h => h) (Or.inl ⟨by rfl, ?_⟩) ?_ ?_
           rotate_left
           · intro w'; go_simp; with_reducible rfl
           rotate_left
           · simp only [Act.put, zDS_q1, zDS_q2, zDS_q3, i64_w, i32_w]; rfl
           refine zDS_u 14 80 zDS_m15 HT_ (v := ?_) (a' := ?_) rfl rfl (by kernel_rfl) (fun _ _ _ h => h) (Or.inl ⟨by rfl, ?_⟩) ?_ ?_
           rotate_left
           · intro w'; go_simp; with_reducible rfl
           rotate_left
           · simp only [Act.put, zDS_q1, zDS_q2, zDS_q3, i64_w, i32_w]; rfl
           refine zDS_u 15 81 zDS_m16 HT_ (v := ?_) (a' := ?_) rfl rfl (by kernel_rfl) (fun _ _ _ h => h) (Or.inl ⟨by rfl, ?_⟩) ?_ ?_
           rotate_left
           · intro w'; go_simp; with_reducible rfl
           rotate_left
           · simp only [Act.put, zDS_q1, zDS_q2, zDS_q3, i64_w, i32_w]; rfl
           refine zDS_u 16 82 zDS_m17 HT_ (v := ?_) (a' := ?_) rfl rfl (by kernel_rfl) (fun _ _ _ h => h) (Or.inl ⟨by rfl, ?_⟩) ?_ ?_
           rotate_left
           · intro w'; go_simp; with_reducible rfl
           rotate_left
           · simp only [Act.put, zDS_q1, zDS_q2, zDS_q3, i64_w, i32_w]; rfl
           refine zDS_u 18 84 zDS_m18 HT_ (v := ?_) (a' := ?_) rfl rfl (by kernel_rfl) (fun _ _ _ h => h) (Or.inl ⟨by rfl, ?_⟩) ?_ ?_
           rotate_left
           · intro w'; go_simp; with_reducible rfl
           rotate_left
           · simp only [Act.put, zDS_q1, zDS_q2, zDS_q3, i64_w, i32_w]; rfl
           refine take_ (i := 17) (N := some 83) (v := ?_) (a' := ?_) zDS_m19 rfl rfl (take_ofW HT_.out HW_.out (by kernel_rfl)) (fun _ _ _ h => h) (Or.inl ⟨by rfl, ?_⟩) hHeld ?_ ?_
           rotate_left
           ·
            rintro w' ⟨s0, s1, s2, s3, s4, s5⟩
            go_simp
            with_reducible rfl
           rotate_left
           · simp only [Act.put, zDS_q1, zDS_q2, zDS_q3, i64_w, i32_w]; rfl
           refine zDS_u 19 85 zDS_m20 HT_ (v := ?_) (a' := ?_) rfl rfl (by kernel_rfl) (fun _ _ _ h => h) (Or.inl ⟨by rfl, ?_⟩) ?_ ?_
           rotate_left
           · intro w'; go_simp; with_reducible rfl
           rotate_left
           · simp only [Act.put, zDS_q1, zDS_q2, zDS_q3, i64_w, i32_w]; rfl
           refine zDS_u 20 86 zDS_m21 HT_ (v := ?_) (a' := ?_) rfl rfl (by kernel_rfl) (fun _ _ _ h => h) (Or.inl ⟨by rfl, ?_⟩) ?_ ?_
           rotate_left
           · intro w'; go_simp; with_reducible rfl
           rotate_left
           · simp only [Act.put, zDS_q1, zDS_q2, zDS_q3, i64_w, i32_w]; rfl
           refine zDS_u 21 87 zDS_m22 HT_ (v := ?_) (a' := ?_) rfl rfl (by kernel_rfl) (fun _ _ _ h => h) (Or.inl ⟨by rfl, ?_⟩) ?_ ?_
           rotate_left
           · intro w'; go_simp; with_reducible rfl
           rotate_left
           · simp only [Act.put, zDS_q1, zDS_q2, zDS_q3, i64_w, i32_w]; rfl
           refine zDS_u 22 88 zDS_m23 HT_ (v := ?_) (a' := ?_) rfl rfl (by kernel_rfl) (fun _ _ _ h => h) (Or.inl ⟨by rfl, ?_⟩) ?_ ?_
           rotate_left
           · intro w'; go_simp; with_reducible rfl
           rotate_left
           · simp only [Act.put, zDS_q1, zDS_q2, zDS_q3, i64_w, i32_w]; rfl
           refine zDS_u 24 90 zDS_m24 HT_ (v := ?_) (a' := ?_) rfl rfl (by kernel_rfl) (fun _ _ _ h => h) (Or.inl ⟨by rfl, ?_⟩) ?_ ?_
           rotate_left
           · intro w'; go_simp; with_reducible rfl
           rotate_left
           · simp only [Act.put, zDS_q1, zDS_q2, zDS_q3, i64_w, i32_w]; rfl
           refine take_ (i := 23) (N := some 89) (v := ?_) (a' := ?_) zDS_m25 rfl rfl (take_ofW HT_.out HW_.out (by kernel_rfl)) (fun _ _ _ h => h) (Or.inl ⟨by rfl, ?_⟩) hHeld ?_ ?_
           rotate_left
           ·
            rintro w' ⟨s0, s1, s2, s3, s4, s5⟩
            go_simp
            with_reducible rfl
           rotate_left
           · simp only [Act.put, zDS_q1, zDS_q2, zDS_q3, i64_w, i32_w]; rfl
           refine zDS_u 25 91 zDS_m26 HT_ (v := ?_) (a' := ?_) rfl rfl (by kernel_rfl) (fun _ _ _ h => h) (Or.inl ⟨by rfl, ?_⟩) ?_ ?_
           rotate_left
           · intro w'; go_simp; with_reducible rfl
           rotate_left
           · simp only [Act.put, zDS_q1, zDS_q2, zDS_q3, i64_w, i32_w]; rfl
           refine zDS_u 26 92 zDS_m27 HT_ (v := ?_) (a' := ?_) rfl rfl (by kernel_rfl) (fun _ _ _ h => h) (Or.inl ⟨by rfl, ?_⟩) ?_ ?_
           rotate_left
           · intro w'; go_simp; with_reducible rfl
           rotate_left
           · simp only [Act.put, zDS_q1, zDS_q2, zDS_q3, i64_w, i32_w]; rfl
           refine zDS_u 27 93 zDS_m28 HT_ (v := ?_) (a' := ?_) rfl rfl (by kernel_rfl) (fun _ _ _ h => h) (Or.inl ⟨by rfl, ?_⟩) ?_ ?_
           rotate_left
           · intro w'; go_simp; with_reducible rfl
           rotate_left
           · simp only [Act.put, zDS_q1, zDS_q2, zDS_q3, i64_w, i32_w]; rfl
           refine zDS_u 28 94 zDS_m29 HT_ (v := ?_) (a' := ?_) rfl rfl (by kernel_rfl) (fun _ _ _ h => h) (Or.inl ⟨by rfl, ?_⟩) ?_ ?_
           rotate_left
           · intro w'; go_simp; with_reducible rfl
           rotate_left
           · simp only [Act.put, zDS_q1, zDS_q2, zDS_q3, i64_w, i32_w]; rfl
           refine zDS_u 29 95 zDS_m30 HT_ (v := ?_) (a' := ?_) rfl rfl (by kernel_rfl) (fun _ _ _ h => h) (Or.inl ⟨by rfl, ?_⟩) ?_ ?_
           rotate_left
           · intro w'; go_simp; with_reducible rfl
           rotate_left
           · simp only [Act.put, zDS_q1, zDS_q2, zDS_q3, i64_w, i32_w]; rfl
           refine one_ (i := 30) (N := some 96) zDS_m31 rfl rfl (one_of HT_.out (by kernel_rfl)) (by decide) (fun K hK => ?_)
           refine goes_ Tryd.func14 (by kernel_rfl) rfl #[errW t167, .int .i64 t172] (by rfl) rfl rfl (by (try simp only [List.map_toArray, List.map_cons, List.map_nil]); first | done | rfl | (simp only [List.length_drop, List.length_take]; rfl)) ?_
           with_reducible refine (CA29 _ ?side1).mono ?_
           (case side1 => exact GlobOK.below HG.out (by repeat (first | (with_reducible first | exact HB.out | apply below_alloc | apply pw_below_drewN | apply below_drew1 | refine below_set ?_ GE158.out | refine below_set ?_ GE168.out) | exact HB.out)))
           rintro e w46 ⟨rfl, hb⟩
           refine ⟨_, rfl, ?_⟩
           have n0_ := Aside0.mk (blk_below (g := gb158) (o := .cells #[.int .i64 a0_0, .int .i64 a0_1, .int .i64 a0_2] 32 (0, 0)) (by (with_reducible repeat (first | refine blk_drewN ?_ _ | refine blk_drew ?_ | refine blk_alloc ?_ _)); exact BK158.out) hb)
           have n1_ := Aside0.mk (blk_below (g := gb168) (o := .cells #[.int .i64 t164, .int .i64 t165, .int .i64 t166] 32 (0, 0)) (by (with_reducible repeat (first | refine blk_drewN ?_ _ | refine blk_drew ?_ | refine blk_alloc ?_ _)); exact BK168.out) hb)
           have n2_ := Aside0.mk (below_step (by repeat (first | (with_reducible first | exact HB.out | apply below_alloc | apply pw_below_drewN | apply below_drew1 | refine below_set ?_ GE158.out | refine below_set ?_ GE168.out) | exact HB.out)) hb)
           clear BK158
           clear BK168
           clear HB
           have BK158 := n0_
           have BK168 := n1_
           have HB := n2_
           clear n0_ n1_ n2_
           (try clear hb)
           (try clear hb2)
           (try clear hk)
           (try clear hi)
           refine hK.out _ _ ⟨(blk_cell BK168.out 0).trans rfl, (blk_cell BK168.out 1).trans rfl, (blk_cell BK168.out 2).trans rfl, (blk_cell BK158.out 0).trans rfl, (blk_cell BK158.out 1).trans rfl, (blk_cell BK158.out 2).trans rfl⟩ (fun hHeld => ?_)
           clear hK K
           refine norm_ (a' := ?_) ?_ ?_
           rotate_left
           ·
            show Act.put _ (some 96) _ = _
            simp only [Act.put, zDS_q1, zDS_q2, zDS_q3, i64_w, i32_w]
            rfl
           refine zDS_u 31 97 zDS_m32 HT_ (v := ?_) (a' := ?_) rfl rfl (by kernel_rfl) (fun _ _ _ h => h) (Or.inl ⟨by rfl, ?_⟩) ?_ ?_
           rotate_left
           · intro w'; go_simp; with_reducible rfl
           rotate_left
           · simp only [Act.put, zDS_q1, zDS_q2, zDS_q3, i64_w, i32_w]; rfl
           refine zDS_u 32 98 zDS_m33 HT_ (v := ?_) (a' := ?_) rfl rfl (by kernel_rfl) (fun _ _ _ h => h) (Or.inl ⟨by rfl, ?_⟩) ?_ ?_
           rotate_left
           · intro w'; go_simp; with_reducible rfl
           rotate_left
           · simp only [Act.put, zDS_q1, zDS_q2, zDS_q3, i64_w, i32_w]; rfl
           refine zDS_u 33 99 zDS_m34 HT_ (v := ?_) (a' := ?_) rfl rfl (by kernel_rfl) (fun _ _ _ h => h) (Or.inl ⟨by rfl, ?_⟩) ?_ ?_
           rotate_left
           · intro w'; go_simp; with_reducible rfl
           rotate_left
           · simp only [Act.put, zDS_q1, zDS_q2, zDS_q3, i64_w, i32_w]; rfl
           refine zDS_u 34 100 zDS_m35 HT_ (v := ?_) (a' := ?_) rfl rfl (by kernel_rfl) (fun _ _ _ h => h) (Or.inl ⟨by rfl, ?_⟩) ?_ ?_
           rotate_left
           · intro w'; go_simp; with_reducible rfl
           rotate_left
           · simp only [Act.put, zDS_q1, zDS_q2, zDS_q3, i64_w, i32_w]; rfl
           refine zDS_u 37 103 zDS_m36 HT_ (v := ?_) (a' := ?_) rfl rfl (by kernel_rfl) (fun _ _ _ h => h) (Or.inl ⟨by rfl, ?_⟩) ?_ ?_
           rotate_left
           · intro w'; go_simp; with_reducible rfl
           rotate_left
           · simp only [Act.put, zDS_q1, zDS_q2, zDS_q3, i64_w, i32_w]; rfl
           refine take_ (i := 35) (N := some 101) (v := ?_) (a' := ?_) zDS_m37 rfl rfl (take_ofW HT_.out HW_.out (by kernel_rfl)) (fun _ _ _ h => h) (Or.inl ⟨by rfl, ?_⟩) hHeld ?_ ?_
           rotate_left
           ·
            rintro w' ⟨s0, s1, s2, s3, s4, s5⟩
            go_simp
            with_reducible rfl
           rotate_left
           · simp only [Act.put, zDS_q1, zDS_q2, zDS_q3, i64_w, i32_w]; rfl
           refine take_ (i := 38) (N := some 104) (v := ?_) (a' := ?_) zDS_m38 rfl rfl (take_ofW HT_.out HW_.out (by kernel_rfl)) (fun _ _ _ h => h) (Or.inl ⟨by rfl, ?_⟩) hHeld ?_ ?_
           rotate_left
           ·
            rintro w' ⟨s0, s1, s2, s3, s4, s5⟩
            go_simp
            with_reducible rfl
           rotate_left
           · simp only [Act.put, zDS_q1, zDS_q2, zDS_q3, i64_w, i32_w]; rfl
           refine one_ (i := 36) (N := some 102) zDS_m39 rfl rfl (one_of HT_.out (by kernel_rfl)) (by decide) (fun K hK => ?_)
           refine goes_ Tryd.func11 (by kernel_rfl) rfl #[.int .i64 a0_0] (by rfl) rfl rfl (by (try simp only [List.map_toArray, List.map_cons, List.map_nil]); first | done | rfl | (simp only [List.length_drop, List.length_take]; rfl)) ?_
           with_reducible refine (day_Leap.calls a0_0 t179 _ A31.out).mono ?_
           rintro e w' ⟨rfl, ⟨nd, rfl⟩⟩
           refine ⟨_, rfl, ?_⟩
           refine hK.out _ _ ⟨(blk_cell BK168.out 0).trans rfl, (blk_cell BK168.out 1).trans rfl, (blk_cell BK168.out 2).trans rfl, (blk_cell BK158.out 0).trans rfl, (blk_cell BK158.out 1).trans rfl, (blk_cell BK158.out 2).trans rfl⟩ (fun hHeld => ?_)
           clear hK K
           refine norm_ (a' := ?_) ?_ ?_
           rotate_left
           ·
            show Act.put _ (some 102) _ = _
            simp only [Act.put, zDS_q1, zDS_q2, zDS_q3, i64_w, i32_w]
            rfl
           refine one_ (i := 39) (N := some 105) zDS_m40 rfl rfl (one_of HT_.out (by kernel_rfl)) (by decide) (fun K hK => ?_)
           refine goes_ Tryd.func21 (by kernel_rfl) rfl #[.int .i64 a0_0] (by rfl) rfl rfl (by (try simp only [List.map_toArray, List.map_cons, List.map_nil]); first | done | rfl | (simp only [List.length_drop, List.length_take]; rfl)) ?_
           with_reducible refine (pledgeref1_Leap.calls a0_0 t180 _ A32.out).mono ?_
           rintro e w' ⟨rfl, ⟨nd, rfl⟩⟩
           refine ⟨_, rfl, ?_⟩
           refine hK.out _ _ ⟨(blk_cell BK168.out 0).trans rfl, (blk_cell BK168.out 1).trans rfl, (blk_cell BK168.out 2).trans rfl, (blk_cell BK158.out 0).trans rfl, (blk_cell BK158.out 1).trans rfl, (blk_cell BK158.out 2).trans rfl⟩ (fun hHeld => ?_)
           clear hK K
           refine norm_ (a' := ?_) ?_ ?_
           rotate_left
           ·
            show Act.put _ (some 105) _ = _
            simp only [Act.put, zDS_q1, zDS_q2, zDS_q3, i64_w, i32_w]
            rfl
           refine zDS_u 40 106 zDS_m41 HT_ (v := ?_) (a' := ?_) rfl rfl (by kernel_rfl) (fun _ _ _ h => h) (Or.inl ⟨by rfl, ?_⟩) ?_ ?_
           rotate_left
           · intro w'; go_simp; with_reducible rfl
           rotate_left
           · simp only [Act.put, zDS_q1, zDS_q2, zDS_q3, i64_w, i32_w]; rfl
           refine zDS_u 41 107 zDS_m42 HT_ (v := ?_) (a' := ?_) rfl rfl (by kernel_rfl) (fun _ _ _ h => h) (Or.inl ⟨by rfl, ?_⟩) ?_ ?_
           rotate_left
           · intro w'; go_simp; with_reducible rfl
           rotate_left
           · simp only [Act.put, zDS_q1, zDS_q2, zDS_q3, i64_w, i32_w]; rfl
           refine zDS_u 42 108 zDS_m43 HT_ (v := ?_) (a' := ?_) rfl rfl (by kernel_rfl) (fun _ _ _ h => h) (Or.inl ⟨by rfl, ?_⟩) ?_ ?_
           rotate_left
           · intro w'; go_simp; with_reducible rfl
           rotate_left
           · simp only [Act.put, zDS_q1, zDS_q2, zDS_q3, i64_w, i32_w]; rfl
           refine zDS_u 43 109 zDS_m44 HT_ (v := ?_) (a' := ?_) rfl rfl (by kernel_rfl) (fun _ _ _ h => h) (Or.inl ⟨by rfl, ?_⟩) ?_ ?_
           rotate_left
           · intro w'; go_simp; with_reducible rfl
           rotate_left
           · simp only [Act.put, zDS_q1, zDS_q2, zDS_q3, i64_w, i32_w]; rfl
           refine zDS_u 45 111 zDS_m57 HT_ (v := ?_) (a' := ?_) rfl rfl (by kernel_rfl) (fun _ _ _ h => h) (Or.inl ⟨by rfl, ?_⟩) ?_ ?_
           rotate_left
           · intro w'; go_simp; with_reducible rfl
           rotate_left
           · simp only [Act.put, zDS_q1, zDS_q2, zDS_q3, i64_w, i32_w]; rfl
           refine one_ (i := 44) (N := some 110) zDS_m46 rfl rfl (one_of HT_.out (by kernel_rfl)) (by decide) (fun K hK => ?_)
           refine goes_ Tryd.func12 (by kernel_rfl) rfl #[.int .i64 a1] (by rfl) rfl rfl (by (try simp only [List.map_toArray, List.map_cons, List.map_nil]); first | done | rfl | (simp only [List.length_drop, List.length_take]; rfl)) ?_
           with_reducible refine (day_Weekday.calls a1 t181 _ A38.out).mono ?_
           rintro e w' ⟨rfl, ⟨nd, rfl⟩⟩
           refine ⟨_, rfl, ?_⟩
           refine hK.out _ _ ⟨(blk_cell BK168.out 0).trans rfl, (blk_cell BK168.out 1).trans rfl, (blk_cell BK168.out 2).trans rfl, (blk_cell BK158.out 0).trans rfl, (blk_cell BK158.out 1).trans rfl, (blk_cell BK158.out 2).trans rfl⟩ (fun hHeld => ?_)
           clear hK K
           refine norm_ (a' := ?_) ?_ ?_
           rotate_left
           ·
            show Act.put _ (some 110) _ = _
            simp only [Act.put, zDS_q1, zDS_q2, zDS_q3, i64_w, i32_w]
            rfl
           refine one_ (i := 46) (N := some 112) zDS_m47 rfl rfl (one_of HT_.out (by kernel_rfl)) (by decide) (fun K hK => ?_)
           refine goes_ Tryd.func22 (by kernel_rfl) rfl #[.int .i64 a1] (by rfl) rfl rfl (by (try simp only [List.map_toArray, List.map_cons, List.map_nil]); first | done | rfl | (simp only [List.length_drop, List.length_take]; rfl)) ?_
           with_reducible refine (pledgeref1_Weekday.calls a1 t182 _ A39.out).mono ?_
           rintro e w' ⟨rfl, ⟨nd, rfl⟩⟩
           refine ⟨_, rfl, ?_⟩
           refine hK.out _ _ ⟨(blk_cell BK168.out 0).trans rfl, (blk_cell BK168.out 1).trans rfl, (blk_cell BK168.out 2).trans rfl, (blk_cell BK158.out 0).trans rfl, (blk_cell BK158.out 1).trans rfl, (blk_cell BK158.out 2).trans rfl⟩ (fun hHeld => ?_)
           clear hK K
           refine norm_ (a' := ?_) ?_ ?_
           rotate_left
           ·
            show Act.put _ (some 112) _ = _
            simp only [Act.put, zDS_q1, zDS_q2, zDS_q3, i64_w, i32_w]
            rfl
           refine zDS_u 47 113 zDS_m48 HT_ (v := ?_) (a' := ?_) rfl rfl (by kernel_rfl) (fun _ _ _ h => h) (Or.inl ⟨by rfl, ?_⟩) ?_ ?_
           rotate_left
           · intro w'; go_simp; with_reducible rfl
           rotate_left
           · simp only [Act.put, zDS_q1, zDS_q2, zDS_q3, i64_w, i32_w]; rfl
           refine zDS_u 48 114 zDS_m49 HT_ (v := ?_) (a' := ?_) rfl rfl (by kernel_rfl) (fun _ _ _ h => h) (Or.inl ⟨by rfl, ?_⟩) ?_ ?_
           rotate_left
           · intro w'; go_simp; with_reducible rfl
           rotate_left
           · simp only [Act.put, zDS_q1, zDS_q2, zDS_q3, i64_w, i32_w]; rfl
           refine zDS_u 49 115 zDS_m50 HT_ (v := ?_) (a' := ?_) rfl rfl (by kernel_rfl) (fun _ _ _ h => h) (Or.inl ⟨by rfl, ?_⟩) ?_ ?_
           rotate_left
           · intro w'; go_simp; with_reducible rfl
           rotate_left
           · simp only [Act.put, zDS_q1, zDS_q2, zDS_q3, i64_w, i32_w]; rfl
           refine zDS_u 50 116 zDS_m51 HT_ (v := ?_) (a' := ?_) rfl rfl (by kernel_rfl) (fun _ _ _ h => h) (Or.inl ⟨by rfl, ?_⟩) ?_ ?_
           rotate_left
           · intro w'; go_simp; with_reducible rfl
           rotate_left
           · simp only [Act.put, zDS_q1, zDS_q2, zDS_q3, i64_w, i32_w]; rfl
           refine zDS_u 52 118 zDS_m58 HT_ (v := ?_) (a' := ?_) rfl rfl (by kernel_rfl) (fun _ _ _ h => h) (Or.inl ⟨by rfl, ?_⟩) ?_ ?_
           rotate_left
           · intro w'; go_simp; with_reducible rfl
           rotate_left
           · simp only [Act.put, zDS_q1, zDS_q2, zDS_q3, i64_w, i32_w]; rfl
           refine one_ (i := 51) (N := some 117) zDS_m53 rfl rfl (one_of HT_.out (by kernel_rfl)) (by decide) (fun K hK => ?_)
           refine goes_ Tryd.func16 (by kernel_rfl) rfl #[.int .i64 a1] (by rfl) rfl rfl (by (try simp only [List.map_toArray, List.map_cons, List.map_nil]); first | done | rfl | (simp only [List.length_drop, List.length_take]; rfl)) ?_
           with_reducible refine (day_Bucket.calls k a1 t183 _ A41.out).mono ?_
           rintro e w47 ⟨rfl, hb⟩
           refine ⟨_, rfl, ?_⟩
           have n0_ := Aside0.mk (blk_below (g := gb158) (o := .cells #[.int .i64 a0_0, .int .i64 a0_1, .int .i64 a0_2] 32 (0, 0)) (by (with_reducible repeat (first | refine blk_drewN ?_ _ | refine blk_drew ?_ | refine blk_alloc ?_ _)); exact BK158.out) hb)
           have n1_ := Aside0.mk (blk_below (g := gb168) (o := .cells #[.int .i64 t164, .int .i64 t165, .int .i64 t166] 32 (0, 0)) (by (with_reducible repeat (first | refine blk_drewN ?_ _ | refine blk_drew ?_ | refine blk_alloc ?_ _)); exact BK168.out) hb)
           have n2_ := Aside0.mk (below_step (by repeat (first | (with_reducible first | exact HB.out | apply below_alloc | apply pw_below_drewN | apply below_drew1 | refine below_set ?_ GE158.out | refine below_set ?_ GE168.out) | exact HB.out)) hb)
           clear BK158
           clear BK168
           clear HB
           have BK158 := n0_
           have BK168 := n1_
           have HB := n2_
           clear n0_ n1_ n2_
           (try clear hb)
           (try clear hb2)
           (try clear hk)
           (try clear hi)
           refine hK.out _ _ ⟨(blk_cell BK168.out 0).trans rfl, (blk_cell BK168.out 1).trans rfl, (blk_cell BK168.out 2).trans rfl, (blk_cell BK158.out 0).trans rfl, (blk_cell BK158.out 1).trans rfl, (blk_cell BK158.out 2).trans rfl⟩ (fun hHeld => ?_)
           clear hK K
           refine norm_ (a' := ?_) ?_ ?_
           rotate_left
           ·
            show Act.put _ (some 117) _ = _
            simp only [Act.put, zDS_q1, zDS_q2, zDS_q3, i64_w, i32_w]
            rfl
           refine one_ (i := 53) (N := some 119) zDS_m54 rfl rfl (one_of HT_.out (by kernel_rfl)) (by decide) (fun K hK => ?_)
           refine goes_ Tryd.func23 (by kernel_rfl) rfl #[.int .i64 a1] (by rfl) rfl rfl (by (try simp only [List.map_toArray, List.map_cons, List.map_nil]); first | done | rfl | (simp only [List.length_drop, List.length_take]; rfl)) ?_
           with_reducible refine (pledgeref1_Bucket.calls a1 t184 _ A42.out).mono ?_
           rintro e w' ⟨rfl, ⟨nd, rfl⟩⟩
           refine ⟨_, rfl, ?_⟩
           refine hK.out _ _ ⟨(blk_cell BK168.out 0).trans rfl, (blk_cell BK168.out 1).trans rfl, (blk_cell BK168.out 2).trans rfl, (blk_cell BK158.out 0).trans rfl, (blk_cell BK158.out 1).trans rfl, (blk_cell BK158.out 2).trans rfl⟩ (fun hHeld => ?_)
           clear hK K
           refine norm_ (a' := ?_) ?_ ?_
           rotate_left
           ·
            show Act.put _ (some 119) _ = _
            simp only [Act.put, zDS_q1, zDS_q2, zDS_q3, i64_w, i32_w]
            rfl
           refine zDS_u 54 120 zDS_m55 HT_ (v := ?_) (a' := ?_) rfl rfl (by kernel_rfl) (fun _ _ _ h => h) (Or.inl ⟨by rfl, ?_⟩) ?_ ?_
           rotate_left
           · intro w'; go_simp; with_reducible rfl
           rotate_left
           · simp only [Act.put, zDS_q1, zDS_q2, zDS_q3, i64_w, i32_w]; rfl
           refine zDS_u 55 121 zDS_m56 HT_ (v := ?_) (a' := ?_) rfl rfl (by kernel_rfl) (fun _ _ _ h => h) (Or.inl ⟨by rfl, ?_⟩) ?_ ?_
           rotate_left
           · intro w'; go_simp; with_reducible rfl
           rotate_left
           · simp only [Act.put, zDS_q1, zDS_q2, zDS_q3, i64_w, i32_w]; rfl
           refine done_ (done_of HT_.out (by kernel_rfl)) ?_
           try go_wp2
           go_meet
           case rel => exact ⟨_, ((t183 != t184)), (by first | rfl | (simp; done) | (simp [*]; done)), H', ⟨by first | omega | exact Nat.le_refl _⟩, ⟨by (with_reducible repeat (first | refine blk_drewN ?_ _ | refine blk_drew ?_ | refine blk_alloc ?_ _)); exact BK158.out⟩, ⟨by (with_reducible repeat (first | refine blk_drewN ?_ _ | refine blk_drew ?_ | refine blk_alloc ?_ _)); exact BK168.out⟩, ⟨by repeat (first | (with_reducible first | exact HB.out | apply below_alloc | apply pw_below_drewN | apply below_drew1 | refine below_set ?_ GE158.out | refine below_set ?_ GE168.out) | exact HB.out)⟩⟩
          ·
           rw [if_neg c40] at H
           have c40b0 : (t181 == t182) = false := beq_eq_false_iff_ne.mpr c40
           have c40b1 : (t181 != t182) = true := bne_iff_ne.mpr c40
           have H' := Aside0.mk H
           clear H
           try go_wp2
           have n0_ : Aside0 ((((w20.setCell ⟨gb168, 0, none⟩ (.int .i64 t164)).setCell ⟨gb168, 1, none⟩ (.int .i64 t165)).setCell ⟨gb168, 2, none⟩ (.int .i64 t166)).heap[gb158]? = some (.cells #[.int .i64 a0_0, .int .i64 a0_1, .int .i64 a0_2] 32 (0, 0))) := ⟨by (with_reducible repeat (first | refine blk_drewN ?_ _ | refine blk_drew ?_ | refine blk_alloc ?_ _)); refine blk_far ?_ NB158_168.out _; (with_reducible repeat (first | refine blk_drewN ?_ _ | refine blk_drew ?_ | refine blk_alloc ?_ _)); refine blk_far ?_ NB158_168.out _; (with_reducible repeat (first | refine blk_drewN ?_ _ | refine blk_drew ?_ | refine blk_alloc ?_ _)); refine blk_far ?_ NB158_168.out _; (with_reducible repeat (first | refine blk_drewN ?_ _ | refine blk_drew ?_ | refine blk_alloc ?_ _)); exact BK158.out⟩
           have n1_ : Aside0 ((((w20.setCell ⟨gb168, 0, none⟩ (.int .i64 t164)).setCell ⟨gb168, 1, none⟩ (.int .i64 t165)).setCell ⟨gb168, 2, none⟩ (.int .i64 t166)).heap[gb168]? = some (.cells #[.int .i64 t164, .int .i64 t165, .int .i64 t166] 32 (0, 0))) := ⟨by (with_reducible repeat (first | refine blk_drewN ?_ _ | refine blk_drew ?_ | refine blk_alloc ?_ _)); refine blk_put (cs := #[.int .i64 t164, .int .i64 t165, .int .i64 0]) ?_ 2 _ rfl; (with_reducible repeat (first | refine blk_drewN ?_ _ | refine blk_drew ?_ | refine blk_alloc ?_ _)); refine blk_put (cs := #[.int .i64 t164, .int .i64 0, .int .i64 0]) ?_ 1 _ rfl; (with_reducible repeat (first | refine blk_drewN ?_ _ | refine blk_drew ?_ | refine blk_alloc ?_ _)); refine blk_put (cs := #[.int .i64 0, .int .i64 0, .int .i64 0]) ?_ 0 _ rfl; (with_reducible repeat (first | refine blk_drewN ?_ _ | refine blk_drew ?_ | refine blk_alloc ?_ _)); exact BK168.out⟩
           have n2_ : Aside0 (Below w.heap.size w (((w20.setCell ⟨gb168, 0, none⟩ (.int .i64 t164)).setCell ⟨gb168, 1, none⟩ (.int .i64 t165)).setCell ⟨gb168, 2, none⟩ (.int .i64 t166))) := ⟨by repeat (first | (with_reducible first | exact HB.out | apply below_alloc | apply pw_below_drewN | apply below_drew1 | refine below_set ?_ GE158.out | refine below_set ?_ GE168.out) | exact HB.out)⟩
           (try clear BK158)
           (try clear BK168)
           (try clear HB)
           generalize (((w20.setCell ⟨gb168, 0, none⟩ (.int .i64 t164)).setCell ⟨gb168, 1, none⟩ (.int .i64 t165)).setCell ⟨gb168, 2, none⟩ (.int .i64 t166)) = w48 at n0_ n1_ n2_ ⊢
           have BK158 := n0_
           have BK168 := n1_
           have HB := n2_
           clear n0_ n1_ n2_
           (try (rw [drewN_self w48]; generalize hq_ : World.drewN w48 _ = w48; have n0_ : Aside0 (w48.heap[gb158]? = some (.cells #[.int .i64 a0_0, .int .i64 a0_1, .int .i64 a0_2] 32 (0, 0))) := ⟨by rw [← hq_]; exact (by (with_reducible repeat (first | refine blk_drewN ?_ _ | refine blk_drew ?_ | refine blk_alloc ?_ _)); exact BK158.out)⟩; have n1_ : Aside0 (w48.heap[gb168]? = some (.cells #[.int .i64 t164, .int .i64 t165, .int .i64 t166] 32 (0, 0))) := ⟨by rw [← hq_]; exact (by (with_reducible repeat (first | refine blk_drewN ?_ _ | refine blk_drew ?_ | refine blk_alloc ?_ _)); exact BK168.out)⟩; have n2_ : Aside0 (Below w.heap.size w w48) := ⟨by rw [← hq_]; exact (by repeat (first | (with_reducible first | exact HB.out | apply below_alloc | apply pw_below_drewN | apply below_drew1 | refine below_set ?_ GE158.out | refine below_set ?_ GE168.out) | exact HB.out))⟩; clear BK158 BK168 HB hq_; have BK158 := n0_; have BK168 := n1_; have HB := n2_; clear n0_ n1_ n2_))
           have n0_ := Aside0.mk (blk_drew BK158.out)
           have n1_ := Aside0.mk (blk_drew BK168.out)
           have n2_ := Aside0.mk (below_drew1 HB.out)
           clear BK158
           clear BK168
           clear HB
           have BK158 := n0_
           have BK168 := n1_
           have HB := n2_
           clear n0_ n1_ n2_
           have CA24 := fun W hG_ => pledgesee_Is.calls t161 t163 true W hG_ A24.out
           try simp only [errW_none, errW_some] at CA24
           refine start_ (n := 56) (S := fun w' => w'.cell? ⟨gb168, 0, none⟩ = some (.int .i64 t164) ∧ w'.cell? ⟨gb168, 1, none⟩ = some (.int .i64 t165) ∧ w'.cell? ⟨gb168, 2, none⟩ = some (.int .i64 t166) ∧ w'.cell? ⟨gb158, 0, none⟩ = some (.int .i64 a0_0) ∧ w'.cell? ⟨gb158, 1, none⟩ = some (.int .i64 a0_1) ∧ w'.cell? ⟨gb158, 2, none⟩ = some (.int .i64 a0_2)) (ds := []) zDS_m0 (by kernel_rfl) rfl rfl ⟨(blk_cell BK168.out 0).trans rfl, (blk_cell BK168.out 1).trans rfl, (blk_cell BK168.out 2).trans rfl, (blk_cell BK158.out 0).trans rfl, (blk_cell BK158.out 1).trans rfl, (blk_cell BK158.out 2).trans rfl⟩ (fun hHeld => ?_); refine with_tabW pledgelaw4_DaySays.tab10 pledgelaw4_DaySays.bits10 (fun HT_ HW_ => ?_)
           generalize w48.drew = w49 at BK158 BK168 HB hHeld ⊢
           refine zDS_u 0 66 zDS_m1 HT_ (v := ?_) (a' := ?_) rfl rfl (by kernel_rfl) (fun _ _ _ h => h) (Or.inl ⟨by rfl, ?_⟩) ?_ ?_
           rotate_left
           · intro w'; go_simp; with_reducible rfl
           rotate_left
           · simp only [Act.put, zDS_q1, zDS_q2, zDS_q3, i64_w, i32_w]; rfl
           refine zDS_u 1 67 zDS_m2 HT_ (v := ?_) (a' := ?_) rfl rfl (by kernel_rfl) (fun _ _ _ h => h) (Or.inl ⟨by rfl, ?_⟩) ?_ ?_
           rotate_left
           · intro w'; go_simp; with_reducible rfl
           rotate_left
           · simp only [Act.put, zDS_q1, zDS_q2, zDS_q3, i64_w, i32_w]; rfl
           refine zDS_u 2 68 zDS_m3 HT_ (v := ?_) (a' := ?_) rfl rfl (by kernel_rfl) (fun _ _ _ h => h) (Or.inl ⟨by rfl, ?_⟩) ?_ ?_
           rotate_left
           · intro w'; go_simp; with_reducible rfl
           rotate_left
           · simp only [Act.put, zDS_q1, zDS_q2, zDS_q3, i64_w, i32_w]; rfl
           refine zDS_u 3 69 zDS_m4 HT_ (v := ?_) (a' := ?_) rfl rfl (by kernel_rfl) (fun _ _ _ h => h) (Or.inl ⟨by rfl, ?_⟩) ?_ ?_
           rotate_left
           · intro w'; go_simp; with_reducible rfl
           rotate_left
           · simp only [Act.put, zDS_q1, zDS_q2, zDS_q3, i64_w, i32_w]; rfl
           refine zDS_u 4 70 zDS_m5 HT_ (v := ?_) (a' := ?_) rfl rfl (by kernel_rfl) (fun _ _ _ h => h) (Or.inl ⟨by rfl, ?_⟩) ?_ ?_
           rotate_left
           · intro w'; go_simp; with_reducible rfl
           rotate_left
           · simp only [Act.put, zDS_q1, zDS_q2, zDS_q3, i64_w, i32_w]; rfl
           refine zDS_u 5 71 zDS_m6 HT_ (v := ?_) (a' := ?_) rfl rfl (by kernel_rfl) (fun _ _ _ h => h) (Or.inl ⟨by rfl, ?_⟩) ?_ ?_
           rotate_left
           · intro w'; go_simp; with_reducible rfl
           rotate_left
           · simp only [Act.put, zDS_q1, zDS_q2, zDS_q3, i64_w, i32_w]; rfl
           refine one_ (i := 6) (N := some 72) zDS_m7 rfl rfl (one_of HT_.out (by kernel_rfl)) (by decide) (fun K hK => ?_)
           refine goes_ Tryd.func14 (by kernel_rfl) rfl #[errW t161, .int .i64 t163] (by rfl) rfl rfl (by (try simp only [List.map_toArray, List.map_cons, List.map_nil]); first | done | rfl | (simp only [List.length_drop, List.length_take]; rfl)) ?_
           with_reducible refine (CA24 _ ?side1).mono ?_
           (case side1 => exact GlobOK.below HG.out (by repeat (first | (with_reducible first | exact HB.out | apply below_alloc | apply pw_below_drewN | apply below_drew1 | refine below_set ?_ GE158.out | refine below_set ?_ GE168.out) | exact HB.out)))
           rintro e w50 ⟨rfl, hb⟩
           refine ⟨_, rfl, ?_⟩
           have n0_ := Aside0.mk (blk_below (g := gb158) (o := .cells #[.int .i64 a0_0, .int .i64 a0_1, .int .i64 a0_2] 32 (0, 0)) (by (with_reducible repeat (first | refine blk_drewN ?_ _ | refine blk_drew ?_ | refine blk_alloc ?_ _)); exact BK158.out) hb)
           have n1_ := Aside0.mk (blk_below (g := gb168) (o := .cells #[.int .i64 t164, .int .i64 t165, .int .i64 t166] 32 (0, 0)) (by (with_reducible repeat (first | refine blk_drewN ?_ _ | refine blk_drew ?_ | refine blk_alloc ?_ _)); exact BK168.out) hb)
           have n2_ := Aside0.mk (below_step (by repeat (first | (with_reducible first | exact HB.out | apply below_alloc | apply pw_below_drewN | apply below_drew1 | refine below_set ?_ GE158.out | refine below_set ?_ GE168.out) | exact HB.out)) hb)
           clear BK158
           clear BK168
           clear HB
           have BK158 := n0_
           have BK168 := n1_
           have HB := n2_
           clear n0_ n1_ n2_
           (try clear hb)
           (try clear hb2)
           (try clear hk)
           (try clear hi)
           have CA29 := fun W hG_ => pledgesee_Is.calls t167 t172 true W hG_ A29.out
           try simp only [errW_none, errW_some] at CA29
           refine hK.out _ _ ⟨(blk_cell BK168.out 0).trans rfl, (blk_cell BK168.out 1).trans rfl, (blk_cell BK168.out 2).trans rfl, (blk_cell BK158.out 0).trans rfl, (blk_cell BK158.out 1).trans rfl, (blk_cell BK158.out 2).trans rfl⟩ (fun hHeld => ?_)
           clear hK K
           refine norm_ (a' := ?_) ?_ ?_
           rotate_left
           ·
            show Act.put _ (some 72) _ = _
            simp only [Act.put, zDS_q1, zDS_q2, zDS_q3, i64_w, i32_w]
            rfl
           refine zDS_u 7 73 zDS_m8 HT_ (v := ?_) (a' := ?_) rfl rfl (by kernel_rfl) (fun _ _ _ h => h) (Or.inl ⟨by rfl, ?_⟩) ?_ ?_
           rotate_left
           · intro w'; go_simp; with_reducible rfl
           rotate_left
           · simp only [Act.put, zDS_q1, zDS_q2, zDS_q3, i64_w, i32_w]; rfl
           refine zDS_u 8 74 zDS_m9 HT_ (v := ?_) (a' := ?_) rfl rfl (by kernel_rfl) (fun _ _ _ h => h) (Or.inl ⟨by rfl, ?_⟩) ?_ ?_
           rotate_left
           · intro w'; go_simp; with_reducible rfl
           rotate_left
           · simp only [Act.put, zDS_q1, zDS_q2, zDS_q3, i64_w, i32_w]; rfl
           refine zDS_u 9 75 zDS_m10 HT_ (v := ?_) (a' := ?_) rfl rfl (by kernel_rfl) (fun _ _ _ h => h) (Or.inl ⟨by rfl, ?_⟩) ?_ ?_
           rotate_left
           · intro w'; go_simp; with_reducible rfl
           rotate_left
           · simp only [Act.put, zDS_q1, zDS_q2, zDS_q3, i64_w, i32_w]; rfl
           refine zDS_u 10 76 zDS_m11 HT_ (v := ?_) (a' := ?_) rfl rfl (by kernel_rfl) (fun _ _ _ h => h) (Or.inl ⟨by rfl, ?_⟩) ?_ ?_
           rotate_left
           · intro w'; go_simp; with_reducible rfl
           rotate_left
           · simp only [Act.put, zDS_q1, zDS_q2, zDS_q3, i64_w, i32_w]; rfl
           refine zDS_u 12 78 zDS_m12 HT_ (v := ?_) (a' := ?_) rfl rfl (by kernel_rfl) (fun _ _ _ h => h) (Or.inl ⟨by rfl, ?_⟩) ?_ ?_
           rotate_left
           · intro w'; go_simp; with_reducible rfl
           rotate_left
           · simp only [Act.put, zDS_q1, zDS_q2, zDS_q3, i64_w, i32_w]; rfl
           refine take_ (i := 11) (N := some 77) (v := ?_) (a' := ?_) zDS_m13 rfl rfl (take_ofW HT_.out HW_.out (by kernel_rfl)) (fun _ _ _ h => h) (Or.inl ⟨by rfl, ?_⟩) hHeld ?_ ?_
           rotate_left
           ·
            rintro w' ⟨s0, s1, s2, s3, s4, s5⟩
            go_simp
            with_reducible rfl
           rotate_left
           · simp only [Act.put, zDS_q1, zDS_q2, zDS_q3, i64_w, i32_w]; rfl
           refine zDS_u 13 79 zDS_m14 HT_ (v := ?_) (a' := ?_) rfl rfl (by kernel_rfl) (fun _ _ _ h => h) (Or.inl ⟨by rfl, ?_⟩) ?_ ?_
           rotate_left
           · intro w'; go_simp; with_reducible rfl
           rotate_left
           · simp only [Act.put, zDS_q1, zDS_q2, zDS_q3, i64_w, i32_w]; rfl
           refine zDS_u 14 80 zDS_m15 HT_ (v := ?_) (a' := ?_) rfl rfl (by kernel_rfl) (fun _ _ _ h => h) (Or.inl ⟨by rfl, ?_⟩) ?_ ?_
           rotate_left
           · intro w'; go_simp; with_reducible rfl
           rotate_left
           · simp only [Act.put, zDS_q1, zDS_q2, zDS_q3, i64_w, i32_w]; rfl
           refine zDS_u 15 81 zDS_m16 HT_ (v := ?_) (a' := ?_) rfl rfl (by kernel_rfl) (fun _ _ _ h => h) (Or.inl ⟨by rfl, ?_⟩) ?_ ?_
           rotate_left
           · intro w'; go_simp; with_reducible rfl
           rotate_left
           · simp only [Act.put, zDS_q1, zDS_q2, zDS_q3, i64_w, i32_w]; rfl
           refine zDS_u 16 82 zDS_m17 HT_ (v := ?_) (a' := ?_) rfl rfl (by kernel_rfl) (fun _ _ _ h => h) (Or.inl ⟨by rfl, ?_⟩) ?_ ?_
           rotate_left
           · intro w'; go_simp; with_reducible rfl
           rotate_left
           · simp only [Act.put, zDS_q1, zDS_q2, zDS_q3, i64_w, i32_w]; rfl
           refine zDS_u 18 84 zDS_m18 HT_ (v := ?_) (a' := ?_) rfl rfl (by kernel_rfl) (fun _ _ _ h => h) (Or.inl ⟨by rfl, ?_⟩) ?_ ?_
           rotate_left
           · intro w'; go_simp; with_reducible rfl
           rotate_left
           · simp only [Act.put, zDS_q1, zDS_q2, zDS_q3, i64_w, i32_w]; rfl
           refine take_ (i := 17) (N := some 83) (v := ?_) (a' := ?_) zDS_m19 rfl rfl (take_ofW HT_.out HW_.out (by kernel_rfl)) (fun _ _ _ h => h) (Or.inl ⟨by rfl, ?_⟩) hHeld ?_ ?_
           rotate_left
           ·
            rintro w' ⟨s0, s1, s2, s3, s4, s5⟩
            go_simp
            with_reducible rfl
           rotate_left
           · simp only [Act.put, zDS_q1, zDS_q2, zDS_q3, i64_w, i32_w]; rfl
           refine zDS_u 19 85 zDS_m20 HT_ (v := ?_) (a' := ?_) rfl rfl (by kernel_rfl) (fun _ _ _ h => h) (Or.inl ⟨by rfl, ?_⟩) ?_ ?_
           rotate_left
           · intro w'; go_simp; with_reducible rfl
           rotate_left
           · simp only [Act.put, zDS_q1, zDS_q2, zDS_q3, i64_w, i32_w]; rfl
           refine zDS_u 20 86 zDS_m21 HT_ (v := ?_) (a' := ?_) rfl rfl (by kernel_rfl) (fun _ _ _ h => h) (Or.inl ⟨by rfl, ?_⟩) ?_ ?_
           rotate_left
           · intro w'; go_simp; with_reducible rfl
           rotate_left
           · simp only [Act.put, zDS_q1, zDS_q2, zDS_q3, i64_w, i32_w]; rfl
           refine zDS_u 21 87 zDS_m22 HT_ (v := ?_) (a' := ?_) rfl rfl (by kernel_rfl) (fun _ _ _ h => h) (Or.inl ⟨by rfl, ?_⟩) ?_ ?_
           rotate_left
           · intro w'; go_simp; with_reducible rfl
           rotate_left
           · simp only [Act.put, zDS_q1, zDS_q2, zDS_q3, i64_w, i32_w]; rfl
           refine zDS_u 22 88 zDS_m23 HT_ (v := ?_) (a' := ?_) rfl rfl (by kernel_rfl) (fun _ _ _ h => h) (Or.inl ⟨by rfl, ?_⟩) ?_ ?_
           rotate_left
           · intro w'; go_simp; with_reducible rfl
           rotate_left
           · simp only [Act.put, zDS_q1, zDS_q2, zDS_q3, i64_w, i32_w]; rfl
           refine zDS_u 24 90 zDS_m24 HT_ (v := ?_) (a' := ?_) rfl rfl (by kernel_rfl) (fun _ _ _ h => h) (Or.inl ⟨by rfl, ?_⟩) ?_ ?_
           rotate_left
           · intro w'; go_simp; with_reducible rfl
           rotate_left
           · simp only [Act.put, zDS_q1, zDS_q2, zDS_q3, i64_w, i32_w]; rfl
           refine take_ (i := 23) (N := some 89) (v := ?_) (a' := ?_) zDS_m25 rfl rfl (take_ofW HT_.out HW_.out (by kernel_rfl)) (fun _ _ _ h => h) (Or.inl ⟨by rfl, ?_⟩) hHeld ?_ ?_
           rotate_left
           ·
            rintro w' ⟨s0, s1, s2, s3, s4, s5⟩
            go_simp
            with_reducible rfl
           rotate_left
           · simp only [Act.put, zDS_q1, zDS_q2, zDS_q3, i64_w, i32_w]; rfl
           refine zDS_u 25 91 zDS_m26 HT_ (v := ?_) (a' := ?_) rfl rfl (by kernel_rfl) (fun _ _ _ h => h) (Or.inl ⟨by rfl, ?_⟩) ?_ ?_
           rotate_left
           · intro w'; go_simp; with_reducible rfl
           rotate_left
           · simp only [Act.put, zDS_q1, zDS_q2, zDS_q3, i64_w, i32_w]; rfl
           refine zDS_u 26 92 zDS_m27 HT_ (v := ?_) (a' := ?_) rfl rfl (by kernel_rfl) (fun _ _ _ h => h) (Or.inl ⟨by rfl, ?_⟩) ?_ ?_
           rotate_left
           · intro w'; go_simp; with_reducible rfl
           rotate_left
           · simp only [Act.put, zDS_q1, zDS_q2, zDS_q3, i64_w, i32_w]; rfl
           refine zDS_u 27 93 zDS_m28 HT_ (v := ?_) (a' := ?_) rfl rfl (by kernel_rfl) (fun _ _ _ h => h) (Or.inl ⟨by rfl, ?_⟩) ?_ ?_
           rotate_left
           · intro w'; go_simp; with_reducible rfl
           rotate_left
           · simp only [Act.put, zDS_q1, zDS_q2, zDS_q3, i64_w, i32_w]; rfl
           refine zDS_u 28 94 zDS_m29 HT_ (v := ?_) (a' := ?_) rfl rfl (by kernel_rfl) (fun _ _ _ h => h) (Or.inl ⟨by rfl, ?_⟩) ?_ ?_
           rotate_left
           · intro w'; go_simp; with_reducible rfl
           rotate_left
           · simp only [Act.put, zDS_q1, zDS_q2, zDS_q3, i64_w, i32_w]; rfl
           refine zDS_u 29 95 zDS_m30 HT_ (v := ?_) (a' := ?_) rfl rfl (by kernel_rfl) (fun _ _ _ h => h) (Or.inl ⟨by rfl, ?_⟩) ?_ ?_
           rotate_left
           · intro w'; go_simp; with_reducible rfl
           rotate_left
           · simp only [Act.put, zDS_q1, zDS_q2, zDS_q3, i64_w, i32_w]; rfl
           refine one_ (i := 30) (N := some 96) zDS_m31 rfl rfl (one_of HT_.out (by kernel_rfl)) (by decide) (fun K hK => ?_)
           refine goes_ Tryd.func14 (by kernel_rfl) rfl #[errW t167, .int .i64 t172] (by rfl) rfl rfl (by (try simp only [List.map_toArray, List.map_cons, List.map_nil]); first | done | rfl | (simp only [List.length_drop, List.length_take]; rfl)) ?_
           with_reducible refine (CA29 _ ?side1).mono ?_
           (case side1 => exact GlobOK.below HG.out (by repeat (first | (with_reducible first | exact HB.out | apply below_alloc | apply pw_below_drewN | apply below_drew1 | refine below_set ?_ GE158.out | refine below_set ?_ GE168.out) | exact HB.out)))
           rintro e w51 ⟨rfl, hb⟩
           refine ⟨_, rfl, ?_⟩
           have n0_ := Aside0.mk (blk_below (g := gb158) (o := .cells #[.int .i64 a0_0, .int .i64 a0_1, .int .i64 a0_2] 32 (0, 0)) (by (with_reducible repeat (first | refine blk_drewN ?_ _ | refine blk_drew ?_ | refine blk_alloc ?_ _)); exact BK158.out) hb)
           have n1_ := Aside0.mk (blk_below (g := gb168) (o := .cells #[.int .i64 t164, .int .i64 t165, .int .i64 t166] 32 (0, 0)) (by (with_reducible repeat (first | refine blk_drewN ?_ _ | refine blk_drew ?_ | refine blk_alloc ?_ _)); exact BK168.out) hb)
           have n2_ := Aside0.mk (below_step (by repeat (first | (with_reducible first | exact HB.out | apply below_alloc | apply pw_below_drewN | apply below_drew1 | refine below_set ?_ GE158.out | refine below_set ?_ GE168.out) | exact HB.out)) hb)
           clear BK158
           clear BK168
           clear HB
           have BK158 := n0_
           have BK168 := n1_
           have HB := n2_
           clear n0_ n1_ n2_
           (try clear hb)
           (try clear hb2)
           (try clear hk)
           (try clear hi)
           refine hK.out _ _ ⟨(blk_cell BK168.out 0).trans rfl, (blk_cell BK168.out 1).trans rfl, (blk_cell BK168.out 2).trans rfl, (blk_cell BK158.out 0).trans rfl, (blk_cell BK158.out 1).trans rfl, (blk_cell BK158.out 2).trans rfl⟩ (fun hHeld => ?_)
           clear hK K
           refine norm_ (a' := ?_) ?_ ?_
           rotate_left
           ·
            show Act.put _ (some 96) _ = _
            simp only [Act.put, zDS_q1, zDS_q2, zDS_q3, i64_w, i32_w]
            rfl
           refine zDS_u 31 97 zDS_m32 HT_ (v := ?_) (a' := ?_) rfl rfl (by kernel_rfl) (fun _ _ _ h => h) (Or.inl ⟨by rfl, ?_⟩) ?_ ?_
           rotate_left
           · intro w'; go_simp; with_reducible rfl
           rotate_left
           · simp only [Act.put, zDS_q1, zDS_q2, zDS_q3, i64_w, i32_w]; rfl
           refine zDS_u 32 98 zDS_m33 HT_ (v := ?_) (a' := ?_) rfl rfl (by kernel_rfl) (fun _ _ _ h => h) (Or.inl ⟨by rfl, ?_⟩) ?_ ?_
           rotate_left
           · intro w'; go_simp; with_reducible rfl
           rotate_left
           · simp only [Act.put, zDS_q1, zDS_q2, zDS_q3, i64_w, i32_w]; rfl
           refine zDS_u 33 99 zDS_m34 HT_ (v := ?_) (a' := ?_) rfl rfl (by kernel_rfl) (fun _ _ _ h => h) (Or.inl ⟨by rfl, ?_⟩) ?_ ?_
           rotate_left
           · intro w'; go_simp; with_reducible rfl
           rotate_left
           · simp only [Act.put, zDS_q1, zDS_q2, zDS_q3, i64_w, i32_w]; rfl
           refine zDS_u 34 100 zDS_m35 HT_ (v := ?_) (a' := ?_) rfl rfl (by kernel_rfl) (fun _ _ _ h => h) (Or.inl ⟨by rfl, ?_⟩) ?_ ?_
           rotate_left
           · intro w'; go_simp; with_reducible rfl
           rotate_left
           · simp only [Act.put, zDS_q1, zDS_q2, zDS_q3, i64_w, i32_w]; rfl
           refine zDS_u 37 103 zDS_m36 HT_ (v := ?_) (a' := ?_) rfl rfl (by kernel_rfl) (fun _ _ _ h => h) (Or.inl ⟨by rfl, ?_⟩) ?_ ?_
           rotate_left
           · intro w'; go_simp; with_reducible rfl
           rotate_left
           · simp only [Act.put, zDS_q1, zDS_q2, zDS_q3, i64_w, i32_w]; rfl
           refine take_ (i := 35) (N := some 101) (v := ?_) (a' := ?_) zDS_m37 rfl rfl (take_ofW HT_.out HW_.out (by kernel_rfl)) (fun _ _ _ h => h) (Or.inl ⟨by rfl, ?_⟩) hHeld ?_ ?_
           rotate_left
           ·
            rintro w' ⟨s0, s1, s2, s3, s4, s5⟩
            go_simp
            with_reducible rfl
           rotate_left
           · simp only [Act.put, zDS_q1, zDS_q2, zDS_q3, i64_w, i32_w]; rfl
           refine take_ (i := 38) (N := some 104) (v := ?_) (a' := ?_) zDS_m38 rfl rfl (take_ofW HT_.out HW_.out (by kernel_rfl)) (fun _ _ _ h => h) (Or.inl ⟨by rfl, ?_⟩) hHeld ?_ ?_
           rotate_left
           ·
            rintro w' ⟨s0, s1, s2, s3, s4, s5⟩
            go_simp
            with_reducible rfl
           rotate_left
           · simp only [Act.put, zDS_q1, zDS_q2, zDS_q3, i64_w, i32_w]; rfl
           refine one_ (i := 36) (N := some 102) zDS_m39 rfl rfl (one_of HT_.out (by kernel_rfl)) (by decide) (fun K hK => ?_)
           refine goes_ Tryd.func11 (by kernel_rfl) rfl #[.int .i64 a0_0] (by rfl) rfl rfl (by (try simp only [List.map_toArray, List.map_cons, List.map_nil]); first | done | rfl | (simp only [List.length_drop, List.length_take]; rfl)) ?_
           with_reducible refine (day_Leap.calls a0_0 t179 _ A31.out).mono ?_
           rintro e w' ⟨rfl, ⟨nd, rfl⟩⟩
           refine ⟨_, rfl, ?_⟩
           refine hK.out _ _ ⟨(blk_cell BK168.out 0).trans rfl, (blk_cell BK168.out 1).trans rfl, (blk_cell BK168.out 2).trans rfl, (blk_cell BK158.out 0).trans rfl, (blk_cell BK158.out 1).trans rfl, (blk_cell BK158.out 2).trans rfl⟩ (fun hHeld => ?_)
           clear hK K
           refine norm_ (a' := ?_) ?_ ?_
           rotate_left
           ·
            show Act.put _ (some 102) _ = _
            simp only [Act.put, zDS_q1, zDS_q2, zDS_q3, i64_w, i32_w]
            rfl
           refine one_ (i := 39) (N := some 105) zDS_m40 rfl rfl (one_of HT_.out (by kernel_rfl)) (by decide) (fun K hK => ?_)
           refine goes_ Tryd.func21 (by kernel_rfl) rfl #[.int .i64 a0_0] (by rfl) rfl rfl (by (try simp only [List.map_toArray, List.map_cons, List.map_nil]); first | done | rfl | (simp only [List.length_drop, List.length_take]; rfl)) ?_
           with_reducible refine (pledgeref1_Leap.calls a0_0 t180 _ A32.out).mono ?_
           rintro e w' ⟨rfl, ⟨nd, rfl⟩⟩
           refine ⟨_, rfl, ?_⟩
           refine hK.out _ _ ⟨(blk_cell BK168.out 0).trans rfl, (blk_cell BK168.out 1).trans rfl, (blk_cell BK168.out 2).trans rfl, (blk_cell BK158.out 0).trans rfl, (blk_cell BK158.out 1).trans rfl, (blk_cell BK158.out 2).trans rfl⟩ (fun hHeld => ?_)
           clear hK K
           refine norm_ (a' := ?_) ?_ ?_
           rotate_left
           ·
            show Act.put _ (some 105) _ = _
            simp only [Act.put, zDS_q1, zDS_q2, zDS_q3, i64_w, i32_w]
            rfl
           refine zDS_u 40 106 zDS_m41 HT_ (v := ?_) (a' := ?_) rfl rfl (by kernel_rfl) (fun _ _ _ h => h) (Or.inl ⟨by rfl, ?_⟩) ?_ ?_
           rotate_left
           · intro w'; go_simp; with_reducible rfl
           rotate_left
           · simp only [Act.put, zDS_q1, zDS_q2, zDS_q3, i64_w, i32_w]; rfl
           refine zDS_u 41 107 zDS_m42 HT_ (v := ?_) (a' := ?_) rfl rfl (by kernel_rfl) (fun _ _ _ h => h) (Or.inl ⟨by rfl, ?_⟩) ?_ ?_
           rotate_left
           · intro w'; go_simp; with_reducible rfl
           rotate_left
           · simp only [Act.put, zDS_q1, zDS_q2, zDS_q3, i64_w, i32_w]; rfl
           refine zDS_u 42 108 zDS_m43 HT_ (v := ?_) (a' := ?_) rfl rfl (by kernel_rfl) (fun _ _ _ h => h) (Or.inl ⟨by rfl, ?_⟩) ?_ ?_
           rotate_left
           · intro w'; go_simp; with_reducible rfl
           rotate_left
           · simp only [Act.put, zDS_q1, zDS_q2, zDS_q3, i64_w, i32_w]; rfl
           refine zDS_u 43 109 zDS_m44 HT_ (v := ?_) (a' := ?_) rfl rfl (by kernel_rfl) (fun _ _ _ h => h) (Or.inl ⟨by rfl, ?_⟩) ?_ ?_
           rotate_left
           · intro w'; go_simp; with_reducible rfl
           rotate_left
           · simp only [Act.put, zDS_q1, zDS_q2, zDS_q3, i64_w, i32_w]; rfl
           refine zDS_u 45 111 zDS_m57 HT_ (v := ?_) (a' := ?_) rfl rfl (by kernel_rfl) (fun _ _ _ h => h) (Or.inl ⟨by rfl, ?_⟩) ?_ ?_
           rotate_left
           · intro w'; go_simp; with_reducible rfl
           rotate_left
           · simp only [Act.put, zDS_q1, zDS_q2, zDS_q3, i64_w, i32_w]; rfl
           refine one_ (i := 44) (N := some 110) zDS_m46 rfl rfl (one_of HT_.out (by kernel_rfl)) (by decide) (fun K hK => ?_)
           refine goes_ Tryd.func12 (by kernel_rfl) rfl #[.int .i64 a1] (by rfl) rfl rfl (by (try simp only [List.map_toArray, List.map_cons, List.map_nil]); first | done | rfl | (simp only [List.length_drop, List.length_take]; rfl)) ?_
           with_reducible refine (day_Weekday.calls a1 t181 _ A38.out).mono ?_
           rintro e w' ⟨rfl, ⟨nd, rfl⟩⟩
           refine ⟨_, rfl, ?_⟩
           refine hK.out _ _ ⟨(blk_cell BK168.out 0).trans rfl, (blk_cell BK168.out 1).trans rfl, (blk_cell BK168.out 2).trans rfl, (blk_cell BK158.out 0).trans rfl, (blk_cell BK158.out 1).trans rfl, (blk_cell BK158.out 2).trans rfl⟩ (fun hHeld => ?_)
           clear hK K
           refine norm_ (a' := ?_) ?_ ?_
           rotate_left
           ·
            show Act.put _ (some 110) _ = _
            simp only [Act.put, zDS_q1, zDS_q2, zDS_q3, i64_w, i32_w]
            rfl
           refine one_ (i := 46) (N := some 112) zDS_m47 rfl rfl (one_of HT_.out (by kernel_rfl)) (by decide) (fun K hK => ?_)
           refine goes_ Tryd.func22 (by kernel_rfl) rfl #[.int .i64 a1] (by rfl) rfl rfl (by (try simp only [List.map_toArray, List.map_cons, List.map_nil]); first | done | rfl | (simp only [List.length_drop, List.length_take]; rfl)) ?_
           with_reducible refine (pledgeref1_Weekday.calls a1 t182 _ A39.out).mono ?_
           rintro e w' ⟨rfl, ⟨nd, rfl⟩⟩
           refine ⟨_, rfl, ?_⟩
           refine hK.out _ _ ⟨(blk_cell BK168.out 0).trans rfl, (blk_cell BK168.out 1).trans rfl, (blk_cell BK168.out 2).trans rfl, (blk_cell BK158.out 0).trans rfl, (blk_cell BK158.out 1).trans rfl, (blk_cell BK158.out 2).trans rfl⟩ (fun hHeld => ?_)
           clear hK K
           refine norm_ (a' := ?_) ?_ ?_
           rotate_left
           ·
            show Act.put _ (some 112) _ = _
            simp only [Act.put, zDS_q1, zDS_q2, zDS_q3, i64_w, i32_w]
            rfl
           refine zDS_u 47 113 zDS_m48 HT_ (v := ?_) (a' := ?_) rfl rfl (by kernel_rfl) (fun _ _ _ h => h) (Or.inl ⟨by rfl, ?_⟩) ?_ ?_
           rotate_left
           · intro w'; go_simp; with_reducible rfl
           rotate_left
           · simp only [Act.put, zDS_q1, zDS_q2, zDS_q3, i64_w, i32_w]; rfl
           refine zDS_u 48 114 zDS_m49 HT_ (v := ?_) (a' := ?_) rfl rfl (by kernel_rfl) (fun _ _ _ h => h) (Or.inl ⟨by rfl, ?_⟩) ?_ ?_
           rotate_left
           · intro w'; go_simp; with_reducible rfl
           rotate_left
           · simp only [Act.put, zDS_q1, zDS_q2, zDS_q3, i64_w, i32_w]; rfl
           refine zDS_u 49 115 zDS_m50 HT_ (v := ?_) (a' := ?_) rfl rfl (by kernel_rfl) (fun _ _ _ h => h) (Or.inl ⟨by rfl, ?_⟩) ?_ ?_
           rotate_left
           · intro w'; go_simp; with_reducible rfl
           rotate_left
           · simp only [Act.put, zDS_q1, zDS_q2, zDS_q3, i64_w, i32_w]; rfl
           refine zDS_u 50 116 zDS_m51 HT_ (v := undef) (a' := ?_) rfl rfl (by kernel_rfl) (fun _ _ _ h => h) (Or.inr ⟨by rfl, rfl⟩) ?_ ?_
           rotate_left
           · simp only [Act.put, zDS_q1, zDS_q2, zDS_q3, i64_w, i32_w]; rfl
           refine zDS_u 51 117 zDS_m52 HT_ (v := undef) (a' := ?_) rfl rfl (by kernel_rfl) (fun _ _ _ h => h) (Or.inr ⟨by rfl, rfl⟩) ?_ ?_
           rotate_left
           · simp only [Act.put, zDS_q1, zDS_q2, zDS_q3, i64_w, i32_w]; rfl
           refine zDS_u 52 118 zDS_m53 HT_ (v := undef) (a' := ?_) rfl rfl (by kernel_rfl) (fun _ _ _ h => h) (Or.inr ⟨by rfl, rfl⟩) ?_ ?_
           rotate_left
           · simp only [Act.put, zDS_q1, zDS_q2, zDS_q3, i64_w, i32_w]; rfl
           refine zDS_u 53 119 zDS_m54 HT_ (v := undef) (a' := ?_) rfl rfl (by kernel_rfl) (fun _ _ _ h => h) (Or.inr ⟨by rfl, rfl⟩) ?_ ?_
           rotate_left
           · simp only [Act.put, zDS_q1, zDS_q2, zDS_q3, i64_w, i32_w]; rfl
           refine zDS_u 54 120 zDS_m55 HT_ (v := undef) (a' := ?_) rfl rfl (by kernel_rfl) (fun _ _ _ h => h) (Or.inr ⟨by rfl, rfl⟩) ?_ ?_
           rotate_left
           · simp only [Act.put, zDS_q1, zDS_q2, zDS_q3, i64_w, i32_w]; rfl
           refine zDS_u 55 121 zDS_m56 HT_ (v := ?_) (a' := ?_) rfl rfl (by kernel_rfl) (fun _ _ _ h => h) (Or.inl ⟨by rfl, ?_⟩) ?_ ?_
           rotate_left
           · intro w'; go_simp; with_reducible rfl
           rotate_left
           · simp only [Act.put, zDS_q1, zDS_q2, zDS_q3, i64_w, i32_w]; rfl
           refine done_ (done_of HT_.out (by kernel_rfl)) ?_
           try go_wp2
           go_meet
           case rel => exact ⟨_, (true), (by first | rfl | (simp; done) | (simp [*]; done)), H', ⟨by first | omega | exact Nat.le_refl _⟩, ⟨by (with_reducible repeat (first | refine blk_drewN ?_ _ | refine blk_drew ?_ | refine blk_alloc ?_ _)); exact BK158.out⟩, ⟨by (with_reducible repeat (first | refine blk_drewN ?_ _ | refine blk_drew ?_ | refine blk_alloc ?_ _)); exact BK168.out⟩, ⟨by repeat (first | (with_reducible first | exact HB.out | apply below_alloc | apply pw_below_drewN | apply below_drew1 | refine below_set ?_ GE158.out | refine below_set ?_ GE168.out) | exact HB.out)⟩⟩
        ·
         replace c30 := Bool.eq_false_iff.mpr c30
         subst c30
         have H1 : (pledgelaw4_DaySays.j0 k a2 a3 true t173 t174 t175 t176 true) = some r := by rw [if_neg (show ¬ (false = true) by decide)] at H; exact H
         clear H
         have H := H1
         clear H1
         have H' := Aside0.mk H
         clear H
         try go_wp2
         have n0_ : Aside0 ((((w20.setCell ⟨gb168, 0, none⟩ (.int .i64 t164)).setCell ⟨gb168, 1, none⟩ (.int .i64 t165)).setCell ⟨gb168, 2, none⟩ (.int .i64 t166)).heap[gb158]? = some (.cells #[.int .i64 a0_0, .int .i64 a0_1, .int .i64 a0_2] 32 (0, 0))) := ⟨by (with_reducible repeat (first | refine blk_drewN ?_ _ | refine blk_drew ?_ | refine blk_alloc ?_ _)); refine blk_far ?_ NB158_168.out _; (with_reducible repeat (first | refine blk_drewN ?_ _ | refine blk_drew ?_ | refine blk_alloc ?_ _)); refine blk_far ?_ NB158_168.out _; (with_reducible repeat (first | refine blk_drewN ?_ _ | refine blk_drew ?_ | refine blk_alloc ?_ _)); refine blk_far ?_ NB158_168.out _; (with_reducible repeat (first | refine blk_drewN ?_ _ | refine blk_drew ?_ | refine blk_alloc ?_ _)); exact BK158.out⟩
         have n1_ : Aside0 ((((w20.setCell ⟨gb168, 0, none⟩ (.int .i64 t164)).setCell ⟨gb168, 1, none⟩ (.int .i64 t165)).setCell ⟨gb168, 2, none⟩ (.int .i64 t166)).heap[gb168]? = some (.cells #[.int .i64 t164, .int .i64 t165, .int .i64 t166] 32 (0, 0))) := ⟨by (with_reducible repeat (first | refine blk_drewN ?_ _ | refine blk_drew ?_ | refine blk_alloc ?_ _)); refine blk_put (cs := #[.int .i64 t164, .int .i64 t165, .int .i64 0]) ?_ 2 _ rfl; (with_reducible repeat (first | refine blk_drewN ?_ _ | refine blk_drew ?_ | refine blk_alloc ?_ _)); refine blk_put (cs := #[.int .i64 t164, .int .i64 0, .int .i64 0]) ?_ 1 _ rfl; (with_reducible repeat (first | refine blk_drewN ?_ _ | refine blk_drew ?_ | refine blk_alloc ?_ _)); refine blk_put (cs := #[.int .i64 0, .int .i64 0, .int .i64 0]) ?_ 0 _ rfl; (with_reducible repeat (first | refine blk_drewN ?_ _ | refine blk_drew ?_ | refine blk_alloc ?_ _)); exact BK168.out⟩
         have n2_ : Aside0 (Below w.heap.size w (((w20.setCell ⟨gb168, 0, none⟩ (.int .i64 t164)).setCell ⟨gb168, 1, none⟩ (.int .i64 t165)).setCell ⟨gb168, 2, none⟩ (.int .i64 t166))) := ⟨by repeat (first | (with_reducible first | exact HB.out | apply below_alloc | apply pw_below_drewN | apply below_drew1 | refine below_set ?_ GE158.out | refine below_set ?_ GE168.out) | exact HB.out)⟩
         (try clear BK158)
         (try clear BK168)
         (try clear HB)
         generalize (((w20.setCell ⟨gb168, 0, none⟩ (.int .i64 t164)).setCell ⟨gb168, 1, none⟩ (.int .i64 t165)).setCell ⟨gb168, 2, none⟩ (.int .i64 t166)) = w52 at n0_ n1_ n2_ ⊢
         have BK158 := n0_
         have BK168 := n1_
         have HB := n2_
         clear n0_ n1_ n2_
         (try (rw [drewN_self w52]; generalize hq_ : World.drewN w52 _ = w52; have n0_ : Aside0 (w52.heap[gb158]? = some (.cells #[.int .i64 a0_0, .int .i64 a0_1, .int .i64 a0_2] 32 (0, 0))) := ⟨by rw [← hq_]; exact (by (with_reducible repeat (first | refine blk_drewN ?_ _ | refine blk_drew ?_ | refine blk_alloc ?_ _)); exact BK158.out)⟩; have n1_ : Aside0 (w52.heap[gb168]? = some (.cells #[.int .i64 t164, .int .i64 t165, .int .i64 t166] 32 (0, 0))) := ⟨by rw [← hq_]; exact (by (with_reducible repeat (first | refine blk_drewN ?_ _ | refine blk_drew ?_ | refine blk_alloc ?_ _)); exact BK168.out)⟩; have n2_ : Aside0 (Below w.heap.size w w52) := ⟨by rw [← hq_]; exact (by repeat (first | (with_reducible first | exact HB.out | apply below_alloc | apply pw_below_drewN | apply below_drew1 | refine below_set ?_ GE158.out | refine below_set ?_ GE168.out) | exact HB.out))⟩; clear BK158 BK168 HB hq_; have BK158 := n0_; have BK168 := n1_; have HB := n2_; clear n0_ n1_ n2_))
         have n0_ := Aside0.mk (blk_drew BK158.out)
         have n1_ := Aside0.mk (blk_drew BK168.out)
         have n2_ := Aside0.mk (below_drew1 HB.out)
         clear BK158
         clear BK168
         clear HB
         have BK158 := n0_
         have BK168 := n1_
         have HB := n2_
         clear n0_ n1_ n2_
         have CA24 := fun W hG_ => pledgesee_Is.calls t161 t163 true W hG_ A24.out
         try simp only [errW_none, errW_some] at CA24
         refine start_ (n := 56) (S := fun w' => w'.cell? ⟨gb168, 0, none⟩ = some (.int .i64 t164) ∧ w'.cell? ⟨gb168, 1, none⟩ = some (.int .i64 t165) ∧ w'.cell? ⟨gb168, 2, none⟩ = some (.int .i64 t166)) (ds := []) zDS_m0 (by kernel_rfl) rfl rfl ⟨(blk_cell BK168.out 0).trans rfl, (blk_cell BK168.out 1).trans rfl, (blk_cell BK168.out 2).trans rfl⟩ (fun hHeld => ?_); refine with_tabW pledgelaw4_DaySays.tab10 pledgelaw4_DaySays.bits10 (fun HT_ HW_ => ?_)
         generalize w52.drew = w53 at BK158 BK168 HB hHeld ⊢
         refine zDS_u 0 66 zDS_m1 HT_ (v := ?_) (a' := ?_) rfl rfl (by kernel_rfl) (fun _ _ _ h => h) (Or.inl ⟨by rfl, ?_⟩) ?_ ?_
         rotate_left
         · intro w'; go_simp; with_reducible rfl
         rotate_left
         · simp only [Act.put, zDS_q1, zDS_q2, zDS_q3, i64_w, i32_w]; rfl
         refine zDS_u 1 67 zDS_m2 HT_ (v := ?_) (a' := ?_) rfl rfl (by kernel_rfl) (fun _ _ _ h => h) (Or.inl ⟨by rfl, ?_⟩) ?_ ?_
         rotate_left
         · intro w'; go_simp; with_reducible rfl
         rotate_left
         · simp only [Act.put, zDS_q1, zDS_q2, zDS_q3, i64_w, i32_w]; rfl
         refine zDS_u 2 68 zDS_m3 HT_ (v := ?_) (a' := ?_) rfl rfl (by kernel_rfl) (fun _ _ _ h => h) (Or.inl ⟨by rfl, ?_⟩) ?_ ?_
         rotate_left
         · intro w'; go_simp; with_reducible rfl
         rotate_left
         · simp only [Act.put, zDS_q1, zDS_q2, zDS_q3, i64_w, i32_w]; rfl
         refine zDS_u 3 69 zDS_m4 HT_ (v := ?_) (a' := ?_) rfl rfl (by kernel_rfl) (fun _ _ _ h => h) (Or.inl ⟨by rfl, ?_⟩) ?_ ?_
         rotate_left
         · intro w'; go_simp; with_reducible rfl
         rotate_left
         · simp only [Act.put, zDS_q1, zDS_q2, zDS_q3, i64_w, i32_w]; rfl
         refine zDS_u 4 70 zDS_m5 HT_ (v := ?_) (a' := ?_) rfl rfl (by kernel_rfl) (fun _ _ _ h => h) (Or.inl ⟨by rfl, ?_⟩) ?_ ?_
         rotate_left
         · intro w'; go_simp; with_reducible rfl
         rotate_left
         · simp only [Act.put, zDS_q1, zDS_q2, zDS_q3, i64_w, i32_w]; rfl
         refine zDS_u 5 71 zDS_m6 HT_ (v := ?_) (a' := ?_) rfl rfl (by kernel_rfl) (fun _ _ _ h => h) (Or.inl ⟨by rfl, ?_⟩) ?_ ?_
         rotate_left
         · intro w'; go_simp; with_reducible rfl
         rotate_left
         · simp only [Act.put, zDS_q1, zDS_q2, zDS_q3, i64_w, i32_w]; rfl
         refine one_ (i := 6) (N := some 72) zDS_m7 rfl rfl (one_of HT_.out (by kernel_rfl)) (by decide) (fun K hK => ?_)
         refine goes_ Tryd.func14 (by kernel_rfl) rfl #[errW t161, .int .i64 t163] (by rfl) rfl rfl (by (try simp only [List.map_toArray, List.map_cons, List.map_nil]); first | done | rfl | (simp only [List.length_drop, List.length_take]; rfl)) ?_
         with_reducible refine (CA24 _ ?side1).mono ?_
         (case side1 => exact GlobOK.below HG.out (by repeat (first | (with_reducible first | exact HB.out | apply below_alloc | apply pw_below_drewN | apply below_drew1 | refine below_set ?_ GE158.out | refine below_set ?_ GE168.out) | exact HB.out)))
         rintro e w54 ⟨rfl, hb⟩
         refine ⟨_, rfl, ?_⟩
         have n0_ := Aside0.mk (blk_below (g := gb158) (o := .cells #[.int .i64 a0_0, .int .i64 a0_1, .int .i64 a0_2] 32 (0, 0)) (by (with_reducible repeat (first | refine blk_drewN ?_ _ | refine blk_drew ?_ | refine blk_alloc ?_ _)); exact BK158.out) hb)
         have n1_ := Aside0.mk (blk_below (g := gb168) (o := .cells #[.int .i64 t164, .int .i64 t165, .int .i64 t166] 32 (0, 0)) (by (with_reducible repeat (first | refine blk_drewN ?_ _ | refine blk_drew ?_ | refine blk_alloc ?_ _)); exact BK168.out) hb)
         have n2_ := Aside0.mk (below_step (by repeat (first | (with_reducible first | exact HB.out | apply below_alloc | apply pw_below_drewN | apply below_drew1 | refine below_set ?_ GE158.out | refine below_set ?_ GE168.out) | exact HB.out)) hb)
         clear BK158
         clear BK168
         clear HB
         have BK158 := n0_
         have BK168 := n1_
         have HB := n2_
         clear n0_ n1_ n2_
         (try clear hb)
         (try clear hb2)
         (try clear hk)
         (try clear hi)
         have CA29 := fun W hG_ => pledgesee_Is.calls t167 t172 false W hG_ A29.out
         try simp only [errW_none, errW_some] at CA29
         refine hK.out _ _ ⟨(blk_cell BK168.out 0).trans rfl, (blk_cell BK168.out 1).trans rfl, (blk_cell BK168.out 2).trans rfl⟩ (fun hHeld => ?_)
         clear hK K
         refine norm_ (a' := ?_) ?_ ?_
         rotate_left
         ·
          show Act.put _ (some 72) _ = _
          simp only [Act.put, zDS_q1, zDS_q2, zDS_q3, i64_w, i32_w]
          rfl
         refine zDS_u 7 73 zDS_m8 HT_ (v := ?_) (a' := ?_) rfl rfl (by kernel_rfl) (fun _ _ _ h => h) (Or.inl ⟨by rfl, ?_⟩) ?_ ?_
         rotate_left
         · intro w'; go_simp; with_reducible rfl
         rotate_left
         · simp only [Act.put, zDS_q1, zDS_q2, zDS_q3, i64_w, i32_w]; rfl
         refine zDS_u 8 74 zDS_m9 HT_ (v := ?_) (a' := ?_) rfl rfl (by kernel_rfl) (fun _ _ _ h => h) (Or.inl ⟨by rfl, ?_⟩) ?_ ?_
         rotate_left
         · intro w'; go_simp; with_reducible rfl
         rotate_left
         · simp only [Act.put, zDS_q1, zDS_q2, zDS_q3, i64_w, i32_w]; rfl
         refine zDS_u 9 75 zDS_m10 HT_ (v := ?_) (a' := ?_) rfl rfl (by kernel_rfl) (fun _ _ _ h => h) (Or.inl ⟨by rfl, ?_⟩) ?_ ?_
         rotate_left
         · intro w'; go_simp; with_reducible rfl
         rotate_left
         · simp only [Act.put, zDS_q1, zDS_q2, zDS_q3, i64_w, i32_w]; rfl
         refine zDS_u 10 76 zDS_m11 HT_ (v := ?_) (a' := ?_) rfl rfl (by kernel_rfl) (fun _ _ _ h => h) (Or.inl ⟨by rfl, ?_⟩) ?_ ?_
         rotate_left
         · intro w'; go_simp; with_reducible rfl
         rotate_left
         · simp only [Act.put, zDS_q1, zDS_q2, zDS_q3, i64_w, i32_w]; rfl
         refine zDS_u 12 78 zDS_m12 HT_ (v := ?_) (a' := ?_) rfl rfl (by kernel_rfl) (fun _ _ _ h => h) (Or.inl ⟨by rfl, ?_⟩) ?_ ?_
         rotate_left
         · intro w'; go_simp; with_reducible rfl
         rotate_left
         · simp only [Act.put, zDS_q1, zDS_q2, zDS_q3, i64_w, i32_w]; rfl
         refine take_ (i := 11) (N := some 77) (v := ?_) (a' := ?_) zDS_m13 rfl rfl (take_ofW HT_.out HW_.out (by kernel_rfl)) (fun _ _ _ h => h) (Or.inl ⟨by rfl, ?_⟩) hHeld ?_ ?_
         rotate_left
         ·
          rintro w' ⟨s0, s1, s2⟩
          go_simp
          with_reducible rfl
         rotate_left
         · simp only [Act.put, zDS_q1, zDS_q2, zDS_q3, i64_w, i32_w]; rfl
         refine zDS_u 13 79 zDS_m14 HT_ (v := ?_) (a' := ?_) rfl rfl (by kernel_rfl) (fun _ _ _ h => h) (Or.inl ⟨by rfl, ?_⟩) ?_ ?_
         rotate_left
         · intro w'; go_simp; with_reducible rfl
         rotate_left
         · simp only [Act.put, zDS_q1, zDS_q2, zDS_q3, i64_w, i32_w]; rfl
         refine zDS_u 14 80 zDS_m15 HT_ (v := ?_) (a' := ?_) rfl rfl (by kernel_rfl) (fun _ _ _ h => h) (Or.inl ⟨by rfl, ?_⟩) ?_ ?_
         rotate_left
         · intro w'; go_simp; with_reducible rfl
         rotate_left
         · simp only [Act.put, zDS_q1, zDS_q2, zDS_q3, i64_w, i32_w]; rfl
         refine zDS_u 15 81 zDS_m16 HT_ (v := ?_) (a' := ?_) rfl rfl (by kernel_rfl) (fun _ _ _ h => h) (Or.inl ⟨by rfl, ?_⟩) ?_ ?_
         rotate_left
         · intro w'; go_simp; with_reducible rfl
         rotate_left
         · simp only [Act.put, zDS_q1, zDS_q2, zDS_q3, i64_w, i32_w]; rfl
         refine zDS_u 16 82 zDS_m17 HT_ (v := ?_) (a' := ?_) rfl rfl (by kernel_rfl) (fun _ _ _ h => h) (Or.inl ⟨by rfl, ?_⟩) ?_ ?_
         rotate_left
         · intro w'; go_simp; with_reducible rfl
         rotate_left
         · simp only [Act.put, zDS_q1, zDS_q2, zDS_q3, i64_w, i32_w]; rfl
         refine zDS_u 18 84 zDS_m18 HT_ (v := ?_) (a' := ?_) rfl rfl (by kernel_rfl) (fun _ _ _ h => h) (Or.inl ⟨by rfl, ?_⟩) ?_ ?_
         rotate_left
         · intro w'; go_simp; with_reducible rfl
         rotate_left
         · simp only [Act.put, zDS_q1, zDS_q2, zDS_q3, i64_w, i32_w]; rfl
         refine take_ (i := 17) (N := some 83) (v := ?_) (a' := ?_) zDS_m19 rfl rfl (take_ofW HT_.out HW_.out (by kernel_rfl)) (fun _ _ _ h => h) (Or.inl ⟨by rfl, ?_⟩) hHeld ?_ ?_
         rotate_left
         ·
          rintro w' ⟨s0, s1, s2⟩
          go_simp
          with_reducible rfl
         rotate_left
         · simp only [Act.put, zDS_q1, zDS_q2, zDS_q3, i64_w, i32_w]; rfl
         refine zDS_u 19 85 zDS_m20 HT_ (v := ?_) (a' := ?_) rfl rfl (by kernel_rfl) (fun _ _ _ h => h) (Or.inl ⟨by rfl, ?_⟩) ?_ ?_
         rotate_left
         · intro w'; go_simp; with_reducible rfl
         rotate_left
         · simp only [Act.put, zDS_q1, zDS_q2, zDS_q3, i64_w, i32_w]; rfl
         refine zDS_u 20 86 zDS_m21 HT_ (v := ?_) (a' := ?_) rfl rfl (by kernel_rfl) (fun _ _ _ h => h) (Or.inl ⟨by rfl, ?_⟩) ?_ ?_
         rotate_left
         · intro w'; go_simp; with_reducible rfl
         rotate_left
         · simp only [Act.put, zDS_q1, zDS_q2, zDS_q3, i64_w, i32_w]; rfl
         refine zDS_u 21 87 zDS_m22 HT_ (v := ?_) (a' := ?_) rfl rfl (by kernel_rfl) (fun _ _ _ h => h) (Or.inl ⟨by rfl, ?_⟩) ?_ ?_
         rotate_left
         · intro w'; go_simp; with_reducible rfl
         rotate_left
         · simp only [Act.put, zDS_q1, zDS_q2, zDS_q3, i64_w, i32_w]; rfl
         refine zDS_u 22 88 zDS_m23 HT_ (v := ?_) (a' := ?_) rfl rfl (by kernel_rfl) (fun _ _ _ h => h) (Or.inl ⟨by rfl, ?_⟩) ?_ ?_
         rotate_left
         · intro w'; go_simp; with_reducible rfl
         rotate_left
         · simp only [Act.put, zDS_q1, zDS_q2, zDS_q3, i64_w, i32_w]; rfl
         refine zDS_u 24 90 zDS_m24 HT_ (v := ?_) (a' := ?_) rfl rfl (by kernel_rfl) (fun _ _ _ h => h) (Or.inl ⟨by rfl, ?_⟩) ?_ ?_
         rotate_left
         · intro w'; go_simp; with_reducible rfl
         rotate_left
         · simp only [Act.put, zDS_q1, zDS_q2, zDS_q3, i64_w, i32_w]; rfl
         refine take_ (i := 23) (N := some 89) (v := ?_) (a' := ?_) zDS_m25 rfl rfl (take_ofW HT_.out HW_.out (by kernel_rfl)) (fun _ _ _ h => h) (Or.inl ⟨by rfl, ?_⟩) hHeld ?_ ?_
         rotate_left
         ·
          rintro w' ⟨s0, s1, s2⟩
          go_simp
          with_reducible rfl
         rotate_left
         · simp only [Act.put, zDS_q1, zDS_q2, zDS_q3, i64_w, i32_w]; rfl
         refine zDS_u 25 91 zDS_m26 HT_ (v := ?_) (a' := ?_) rfl rfl (by kernel_rfl) (fun _ _ _ h => h) (Or.inl ⟨by rfl, ?_⟩) ?_ ?_
         rotate_left
         · intro w'; go_simp; with_reducible rfl
         rotate_left
         · simp only [Act.put, zDS_q1, zDS_q2, zDS_q3, i64_w, i32_w]; rfl
         refine zDS_u 26 92 zDS_m27 HT_ (v := ?_) (a' := ?_) rfl rfl (by kernel_rfl) (fun _ _ _ h => h) (Or.inl ⟨by rfl, ?_⟩) ?_ ?_
         rotate_left
         · intro w'; go_simp; with_reducible rfl
         rotate_left
         · simp only [Act.put, zDS_q1, zDS_q2, zDS_q3, i64_w, i32_w]; rfl
         refine zDS_u 27 93 zDS_m28 HT_ (v := ?_) (a' := ?_) rfl rfl (by kernel_rfl) (fun _ _ _ h => h) (Or.inl ⟨by rfl, ?_⟩) ?_ ?_
         rotate_left
         · intro w'; go_simp; with_reducible rfl
         rotate_left
         · simp only [Act.put, zDS_q1, zDS_q2, zDS_q3, i64_w, i32_w]; rfl
         refine zDS_u 28 94 zDS_m29 HT_ (v := ?_) (a' := ?_) rfl rfl (by kernel_rfl) (fun _ _ _ h => h) (Or.inl ⟨by rfl, ?_⟩) ?_ ?_
         rotate_left
         · intro w'; go_simp; with_reducible rfl
         rotate_left
         · simp only [Act.put, zDS_q1, zDS_q2, zDS_q3, i64_w, i32_w]; rfl
         refine zDS_u 29 95 zDS_m30 HT_ (v := ?_) (a' := ?_) rfl rfl (by kernel_rfl) (fun _ _ _ h => h) (Or.inl ⟨by rfl, ?_⟩) ?_ ?_
         rotate_left
         · intro w'; go_simp; with_reducible rfl
         rotate_left
         · simp only [Act.put, zDS_q1, zDS_q2, zDS_q3, i64_w, i32_w]; rfl
         refine one_ (i := 30) (N := some 96) zDS_m31 rfl rfl (one_of HT_.out (by kernel_rfl)) (by decide) (fun K hK => ?_)
         refine goes_ Tryd.func14 (by kernel_rfl) rfl #[errW t167, .int .i64 t172] (by rfl) rfl rfl (by (try simp only [List.map_toArray, List.map_cons, List.map_nil]); first | done | rfl | (simp only [List.length_drop, List.length_take]; rfl)) ?_
         with_reducible refine (CA29 _ ?side1).mono ?_
         (case side1 => exact GlobOK.below HG.out (by repeat (first | (with_reducible first | exact HB.out | apply below_alloc | apply pw_below_drewN | apply below_drew1 | refine below_set ?_ GE158.out | refine below_set ?_ GE168.out) | exact HB.out)))
         rintro e w55 ⟨rfl, hb⟩
         refine ⟨_, rfl, ?_⟩
         have n0_ := Aside0.mk (blk_below (g := gb158) (o := .cells #[.int .i64 a0_0, .int .i64 a0_1, .int .i64 a0_2] 32 (0, 0)) (by (with_reducible repeat (first | refine blk_drewN ?_ _ | refine blk_drew ?_ | refine blk_alloc ?_ _)); exact BK158.out) hb)
         have n1_ := Aside0.mk (blk_below (g := gb168) (o := .cells #[.int .i64 t164, .int .i64 t165, .int .i64 t166] 32 (0, 0)) (by (with_reducible repeat (first | refine blk_drewN ?_ _ | refine blk_drew ?_ | refine blk_alloc ?_ _)); exact BK168.out) hb)
         have n2_ := Aside0.mk (below_step (by repeat (first | (with_reducible first | exact HB.out | apply below_alloc | apply pw_below_drewN | apply below_drew1 | refine below_set ?_ GE158.out | refine below_set ?_ GE168.out) | exact HB.out)) hb)
         clear BK158
         clear BK168
         clear HB
         have BK158 := n0_
         have BK168 := n1_
         have HB := n2_
         clear n0_ n1_ n2_
         (try clear hb)
         (try clear hb2)
         (try clear hk)
         (try clear hi)
         refine hK.out _ _ ⟨(blk_cell BK168.out 0).trans rfl, (blk_cell BK168.out 1).trans rfl, (blk_cell BK168.out 2).trans rfl⟩ (fun hHeld => ?_)
         clear hK K
         refine norm_ (a' := ?_) ?_ ?_
         rotate_left
         ·
          show Act.put _ (some 96) _ = _
          simp only [Act.put, zDS_q1, zDS_q2, zDS_q3, i64_w, i32_w]
          rfl
         refine zDS_u 31 97 zDS_m32 HT_ (v := ?_) (a' := ?_) rfl rfl (by kernel_rfl) (fun _ _ _ h => h) (Or.inl ⟨by rfl, ?_⟩) ?_ ?_
         rotate_left
         · intro w'; go_simp; with_reducible rfl
         rotate_left
         · simp only [Act.put, zDS_q1, zDS_q2, zDS_q3, i64_w, i32_w]; rfl
         refine zDS_u 32 98 zDS_m33 HT_ (v := ?_) (a' := ?_) rfl rfl (by kernel_rfl) (fun _ _ _ h => h) (Or.inl ⟨by rfl, ?_⟩) ?_ ?_
         rotate_left
         · intro w'; go_simp; with_reducible rfl
         rotate_left
         · simp only [Act.put, zDS_q1, zDS_q2, zDS_q3, i64_w, i32_w]; rfl
         refine zDS_u 33 99 zDS_m34 HT_ (v := ?_) (a' := ?_) rfl rfl (by kernel_rfl) (fun _ _ _ h => h) (Or.inl ⟨by rfl, ?_⟩) ?_ ?_
         rotate_left
         · intro w'; go_simp; with_reducible rfl
         rotate_left
         · simp only [Act.put, zDS_q1, zDS_q2, zDS_q3, i64_w, i32_w]; rfl
         refine zDS_u 34 100 zDS_m35 HT_ (v := undef) (a' := ?_) rfl rfl (by kernel_rfl) (fun _ _ _ h => h) (Or.inr ⟨by rfl, rfl⟩) ?_ ?_
         rotate_left
         · simp only [Act.put, zDS_q1, zDS_q2, zDS_q3, i64_w, i32_w]; rfl
         refine zDS_u 35 101 zDS_m59 HT_ (v := undef) (a' := ?_) rfl rfl (by kernel_rfl) (fun _ _ _ h => h) (Or.inr ⟨by rfl, rfl⟩) ?_ ?_
         rotate_left
         · simp only [Act.put, zDS_q1, zDS_q2, zDS_q3, i64_w, i32_w]; rfl
         refine zDS_u 36 102 zDS_m60 HT_ (v := undef) (a' := ?_) rfl rfl (by kernel_rfl) (fun _ _ _ h => h) (Or.inr ⟨by rfl, rfl⟩) ?_ ?_
         rotate_left
         · simp only [Act.put, zDS_q1, zDS_q2, zDS_q3, i64_w, i32_w]; rfl
         refine zDS_u 37 103 zDS_m61 HT_ (v := undef) (a' := ?_) rfl rfl (by kernel_rfl) (fun _ _ _ h => h) (Or.inr ⟨by rfl, rfl⟩) ?_ ?_
         rotate_left
         · simp only [Act.put, zDS_q1, zDS_q2, zDS_q3, i64_w, i32_w]; rfl
         refine zDS_u 38 104 zDS_m39 HT_ (v := undef) (a' := ?_) rfl rfl (by kernel_rfl) (fun _ _ _ h => h) (Or.inr ⟨by rfl, rfl⟩) ?_ ?_
         rotate_left
         · simp only [Act.put, zDS_q1, zDS_q2, zDS_q3, i64_w, i32_w]; rfl
         refine zDS_u 39 105 zDS_m40 HT_ (v := undef) (a' := ?_) rfl rfl (by kernel_rfl) (fun _ _ _ h => h) (Or.inr ⟨by rfl, rfl⟩) ?_ ?_
         rotate_left
         · simp only [Act.put, zDS_q1, zDS_q2, zDS_q3, i64_w, i32_w]; rfl
         refine zDS_u 40 106 zDS_m41 HT_ (v := undef) (a' := ?_) rfl rfl (by kernel_rfl) (fun _ _ _ h => h) (Or.inr ⟨by rfl, rfl⟩) ?_ ?_
         rotate_left
         · simp only [Act.put, zDS_q1, zDS_q2, zDS_q3, i64_w, i32_w]; rfl
         refine zDS_u 41 107 zDS_m42 HT_ (v := ?_) (a' := ?_) rfl rfl (by kernel_rfl) (fun _ _ _ h => h) (Or.inl ⟨by rfl, ?_⟩) ?_ ?_
         rotate_left
         · intro w'; go_simp; with_reducible rfl
         rotate_left
         · simp only [Act.put, zDS_q1, zDS_q2, zDS_q3, i64_w, i32_w]; rfl
         refine zDS_u 42 108 zDS_m43 HT_ (v := ?_) (a' := ?_) rfl rfl (by kernel_rfl) (fun _ _ _ h => h) (Or.inl ⟨by rfl, ?_⟩) ?_ ?_
         rotate_left
         · intro w'; go_simp; with_reducible rfl
         rotate_left
         · simp only [Act.put, zDS_q1, zDS_q2, zDS_q3, i64_w, i32_w]; rfl
         refine zDS_u 43 109 zDS_m44 HT_ (v := undef) (a' := ?_) rfl rfl (by kernel_rfl) (fun _ _ _ h => h) (Or.inr ⟨by rfl, rfl⟩) ?_ ?_
         rotate_left
         · simp only [Act.put, zDS_q1, zDS_q2, zDS_q3, i64_w, i32_w]; rfl
         refine zDS_u 44 110 zDS_m45 HT_ (v := undef) (a' := ?_) rfl rfl (by kernel_rfl) (fun _ _ _ h => h) (Or.inr ⟨by rfl, rfl⟩) ?_ ?_
         rotate_left
         · simp only [Act.put, zDS_q1, zDS_q2, zDS_q3, i64_w, i32_w]; rfl
         refine zDS_u 45 111 zDS_m46 HT_ (v := undef) (a' := ?_) rfl rfl (by kernel_rfl) (fun _ _ _ h => h) (Or.inr ⟨by rfl, rfl⟩) ?_ ?_
         rotate_left
         · simp only [Act.put, zDS_q1, zDS_q2, zDS_q3, i64_w, i32_w]; rfl
         refine zDS_u 46 112 zDS_m47 HT_ (v := undef) (a' := ?_) rfl rfl (by kernel_rfl) (fun _ _ _ h => h) (Or.inr ⟨by rfl, rfl⟩) ?_ ?_
         rotate_left
         · simp only [Act.put, zDS_q1, zDS_q2, zDS_q3, i64_w, i32_w]; rfl
         refine zDS_u 47 113 zDS_m48 HT_ (v := undef) (a' := ?_) rfl rfl (by kernel_rfl) (fun _ _ _ h => h) (Or.inr ⟨by rfl, rfl⟩) ?_ ?_
         rotate_left
         · simp only [Act.put, zDS_q1, zDS_q2, zDS_q3, i64_w, i32_w]; rfl
         refine zDS_u 48 114 zDS_m49 HT_ (v := ?_) (a' := ?_) rfl rfl (by kernel_rfl) (fun _ _ _ h => h) (Or.inl ⟨by rfl, ?_⟩) ?_ ?_
         rotate_left
         · intro w'; go_simp; with_reducible rfl
         rotate_left
         · simp only [Act.put, zDS_q1, zDS_q2, zDS_q3, i64_w, i32_w]; rfl
         refine zDS_u 49 115 zDS_m50 HT_ (v := ?_) (a' := ?_) rfl rfl (by kernel_rfl) (fun _ _ _ h => h) (Or.inl ⟨by rfl, ?_⟩) ?_ ?_
         rotate_left
         · intro w'; go_simp; with_reducible rfl
         rotate_left
         · simp only [Act.put, zDS_q1, zDS_q2, zDS_q3, i64_w, i32_w]; rfl
         refine zDS_u 50 116 zDS_m51 HT_ (v := undef) (a' := ?_) rfl rfl (by kernel_rfl) (fun _ _ _ h => h) (Or.inr ⟨by rfl, rfl⟩) ?_ ?_
         rotate_left
         · simp only [Act.put, zDS_q1, zDS_q2, zDS_q3, i64_w, i32_w]; rfl
         refine zDS_u 51 117 zDS_m52 HT_ (v := undef) (a' := ?_) rfl rfl (by kernel_rfl) (fun _ _ _ h => h) (Or.inr ⟨by rfl, rfl⟩) ?_ ?_
         rotate_left
         · simp only [Act.put, zDS_q1, zDS_q2, zDS_q3, i64_w, i32_w]; rfl
         refine zDS_u 52 118 zDS_m53 HT_ (v := undef) (a' := ?_) rfl rfl (by kernel_rfl) (fun _ _ _ h => h) (Or.inr ⟨by rfl, rfl⟩) ?_ ?_
         rotate_left
         · simp only [Act.put, zDS_q1, zDS_q2, zDS_q3, i64_w, i32_w]; rfl
         refine zDS_u 53 119 zDS_m54 HT_ (v := undef) (a' := ?_) rfl rfl (by kernel_rfl) (fun _ _ _ h => h) (Or.inr ⟨by rfl, rfl⟩) ?_ ?_
         rotate_left
         · simp only [Act.put, zDS_q1, zDS_q2, zDS_q3, i64_w, i32_w]; rfl
         refine zDS_u 54 120 zDS_m55 HT_ (v := undef) (a' := ?_) rfl rfl (by kernel_rfl) (fun _ _ _ h => h) (Or.inr ⟨by rfl, rfl⟩) ?_ ?_
         rotate_left
         · simp only [Act.put, zDS_q1, zDS_q2, zDS_q3, i64_w, i32_w]; rfl
         refine zDS_u 55 121 zDS_m56 HT_ (v := ?_) (a' := ?_) rfl rfl (by kernel_rfl) (fun _ _ _ h => h) (Or.inl ⟨by rfl, ?_⟩) ?_ ?_
         rotate_left
         · intro w'; go_simp; with_reducible rfl
         rotate_left
         · simp only [Act.put, zDS_q1, zDS_q2, zDS_q3, i64_w, i32_w]; rfl
         refine done_ (done_of HT_.out (by kernel_rfl)) ?_
         try go_wp2
         go_meet
         case rel => exact ⟨_, (true), (by first | rfl | (simp; done) | (simp [*]; done)), H', ⟨by first | omega | exact Nat.le_refl _⟩, ⟨by (with_reducible repeat (first | refine blk_drewN ?_ _ | refine blk_drew ?_ | refine blk_alloc ?_ _)); exact BK158.out⟩, ⟨by (with_reducible repeat (first | refine blk_drewN ?_ _ | refine blk_drew ?_ | refine blk_alloc ?_ _)); exact BK168.out⟩, ⟨by repeat (first | (with_reducible first | exact HB.out | apply below_alloc | apply pw_below_drewN | apply below_drew1 | refine below_set ?_ GE158.out | refine below_set ?_ GE168.out) | exact HB.out)⟩⟩
       ·
        rw [if_neg c28] at H
        have c28b0 : (t166 == t171) = false := beq_eq_false_iff_ne.mpr c28
        have c28b1 : (t166 != t171) = true := bne_iff_ne.mpr c28
        have H' := Aside0.mk H
        clear H
        try go_wp2
        have n0_ : Aside0 ((((w20.setCell ⟨gb168, 0, none⟩ (.int .i64 t164)).setCell ⟨gb168, 1, none⟩ (.int .i64 t165)).setCell ⟨gb168, 2, none⟩ (.int .i64 t166)).heap[gb158]? = some (.cells #[.int .i64 a0_0, .int .i64 a0_1, .int .i64 a0_2] 32 (0, 0))) := ⟨by (with_reducible repeat (first | refine blk_drewN ?_ _ | refine blk_drew ?_ | refine blk_alloc ?_ _)); refine blk_far ?_ NB158_168.out _; (with_reducible repeat (first | refine blk_drewN ?_ _ | refine blk_drew ?_ | refine blk_alloc ?_ _)); refine blk_far ?_ NB158_168.out _; (with_reducible repeat (first | refine blk_drewN ?_ _ | refine blk_drew ?_ | refine blk_alloc ?_ _)); refine blk_far ?_ NB158_168.out _; (with_reducible repeat (first | refine blk_drewN ?_ _ | refine blk_drew ?_ | refine blk_alloc ?_ _)); exact BK158.out⟩
        have n1_ : Aside0 ((((w20.setCell ⟨gb168, 0, none⟩ (.int .i64 t164)).setCell ⟨gb168, 1, none⟩ (.int .i64 t165)).setCell ⟨gb168, 2, none⟩ (.int .i64 t166)).heap[gb168]? = some (.cells #[.int .i64 t164, .int .i64 t165, .int .i64 t166] 32 (0, 0))) := ⟨by (with_reducible repeat (first | refine blk_drewN ?_ _ | refine blk_drew ?_ | refine blk_alloc ?_ _)); refine blk_put (cs := #[.int .i64 t164, .int .i64 t165, .int .i64 0]) ?_ 2 _ rfl; (with_reducible repeat (first | refine blk_drewN ?_ _ | refine blk_drew ?_ | refine blk_alloc ?_ _)); refine blk_put (cs := #[.int .i64 t164, .int .i64 0, .int .i64 0]) ?_ 1 _ rfl; (with_reducible repeat (first | refine blk_drewN ?_ _ | refine blk_drew ?_ | refine blk_alloc ?_ _)); refine blk_put (cs := #[.int .i64 0, .int .i64 0, .int .i64 0]) ?_ 0 _ rfl; (with_reducible repeat (first | refine blk_drewN ?_ _ | refine blk_drew ?_ | refine blk_alloc ?_ _)); exact BK168.out⟩
        have n2_ : Aside0 (Below w.heap.size w (((w20.setCell ⟨gb168, 0, none⟩ (.int .i64 t164)).setCell ⟨gb168, 1, none⟩ (.int .i64 t165)).setCell ⟨gb168, 2, none⟩ (.int .i64 t166))) := ⟨by repeat (first | (with_reducible first | exact HB.out | apply below_alloc | apply pw_below_drewN | apply below_drew1 | refine below_set ?_ GE158.out | refine below_set ?_ GE168.out) | exact HB.out)⟩
        (try clear BK158)
        (try clear BK168)
        (try clear HB)
        generalize (((w20.setCell ⟨gb168, 0, none⟩ (.int .i64 t164)).setCell ⟨gb168, 1, none⟩ (.int .i64 t165)).setCell ⟨gb168, 2, none⟩ (.int .i64 t166)) = w56 at n0_ n1_ n2_ ⊢
        have BK158 := n0_
        have BK168 := n1_
        have HB := n2_
        clear n0_ n1_ n2_
        (try (rw [drewN_self w56]; generalize hq_ : World.drewN w56 _ = w56; have n0_ : Aside0 (w56.heap[gb158]? = some (.cells #[.int .i64 a0_0, .int .i64 a0_1, .int .i64 a0_2] 32 (0, 0))) := ⟨by rw [← hq_]; exact (by (with_reducible repeat (first | refine blk_drewN ?_ _ | refine blk_drew ?_ | refine blk_alloc ?_ _)); exact BK158.out)⟩; have n1_ : Aside0 (w56.heap[gb168]? = some (.cells #[.int .i64 t164, .int .i64 t165, .int .i64 t166] 32 (0, 0))) := ⟨by rw [← hq_]; exact (by (with_reducible repeat (first | refine blk_drewN ?_ _ | refine blk_drew ?_ | refine blk_alloc ?_ _)); exact BK168.out)⟩; have n2_ : Aside0 (Below w.heap.size w w56) := ⟨by rw [← hq_]; exact (by repeat (first | (with_reducible first | exact HB.out | apply below_alloc | apply pw_below_drewN | apply below_drew1 | refine below_set ?_ GE158.out | refine below_set ?_ GE168.out) | exact HB.out))⟩; clear BK158 BK168 HB hq_; have BK158 := n0_; have BK168 := n1_; have HB := n2_; clear n0_ n1_ n2_))
        have n0_ := Aside0.mk (blk_drew BK158.out)
        have n1_ := Aside0.mk (blk_drew BK168.out)
        have n2_ := Aside0.mk (below_drew1 HB.out)
        clear BK158
        clear BK168
        clear HB
        have BK158 := n0_
        have BK168 := n1_
        have HB := n2_
        clear n0_ n1_ n2_
        have CA24 := fun W hG_ => pledgesee_Is.calls t161 t163 true W hG_ A24.out
        try simp only [errW_none, errW_some] at CA24
        refine start_ (n := 56) (S := fun w' => w'.cell? ⟨gb168, 0, none⟩ = some (.int .i64 t164) ∧ w'.cell? ⟨gb168, 1, none⟩ = some (.int .i64 t165) ∧ w'.cell? ⟨gb168, 2, none⟩ = some (.int .i64 t166)) (ds := []) zDS_m0 (by kernel_rfl) rfl rfl ⟨(blk_cell BK168.out 0).trans rfl, (blk_cell BK168.out 1).trans rfl, (blk_cell BK168.out 2).trans rfl⟩ (fun hHeld => ?_); refine with_tabW pledgelaw4_DaySays.tab10 pledgelaw4_DaySays.bits10 (fun HT_ HW_ => ?_)
        generalize w56.drew = w57 at BK158 BK168 HB hHeld ⊢
        refine zDS_u 0 66 zDS_m1 HT_ (v := ?_) (a' := ?_) rfl rfl (by kernel_rfl) (fun _ _ _ h => h) (Or.inl ⟨by rfl, ?_⟩) ?_ ?_
        rotate_left
        · intro w'; go_simp; with_reducible rfl
        rotate_left
        · simp only [Act.put, zDS_q1, zDS_q2, zDS_q3, i64_w, i32_w]; rfl
        refine zDS_u 1 67 zDS_m2 HT_ (v := ?_) (a' := ?_) rfl rfl (by kernel_rfl) (fun _ _ _ h => h) (Or.inl ⟨by rfl, ?_⟩) ?_ ?_
        rotate_left
        · intro w'; go_simp; with_reducible rfl
        rotate_left
        · simp only [Act.put, zDS_q1, zDS_q2, zDS_q3, i64_w, i32_w]; rfl
        refine zDS_u 2 68 zDS_m3 HT_ (v := ?_) (a' := ?_) rfl rfl (by kernel_rfl) (fun _ _ _ h => h) (Or.inl ⟨by rfl, ?_⟩) ?_ ?_
        rotate_left
        · intro w'; go_simp; with_reducible rfl
        rotate_left
        · simp only [Act.put, zDS_q1, zDS_q2, zDS_q3, i64_w, i32_w]; rfl
        refine zDS_u 3 69 zDS_m4 HT_ (v := ?_) (a' := ?_) rfl rfl (by kernel_rfl) (fun _ _ _ h => h) (Or.inl ⟨by rfl, ?_⟩) ?_ ?_
        rotate_left
        · intro w'; go_simp; with_reducible rfl
        rotate_left
        · simp only [Act.put, zDS_q1, zDS_q2, zDS_q3, i64_w, i32_w]; rfl
        refine zDS_u 4 70 zDS_m5 HT_ (v := ?_) (a' := ?_) rfl rfl (by kernel_rfl) (fun _ _ _ h => h) (Or.inl ⟨by rfl, ?_⟩) ?_ ?_
        rotate_left
        · intro w'; go_simp; with_reducible rfl
        rotate_left
        · simp only [Act.put, zDS_q1, zDS_q2, zDS_q3, i64_w, i32_w]; rfl
        refine zDS_u 5 71 zDS_m6 HT_ (v := ?_) (a' := ?_) rfl rfl (by kernel_rfl) (fun _ _ _ h => h) (Or.inl ⟨by rfl, ?_⟩) ?_ ?_
        rotate_left
        · intro w'; go_simp; with_reducible rfl
        rotate_left
        · simp only [Act.put, zDS_q1, zDS_q2, zDS_q3, i64_w, i32_w]; rfl
        refine one_ (i := 6) (N := some 72) zDS_m7 rfl rfl (one_of HT_.out (by kernel_rfl)) (by decide) (fun K hK => ?_)
        refine goes_ Tryd.func14 (by kernel_rfl) rfl #[errW t161, .int .i64 t163] (by rfl) rfl rfl (by (try simp only [List.map_toArray, List.map_cons, List.map_nil]); first | done | rfl | (simp only [List.length_drop, List.length_take]; rfl)) ?_
        with_reducible refine (CA24 _ ?side1).mono ?_
        (case side1 => exact GlobOK.below HG.out (by repeat (first | (with_reducible first | exact HB.out | apply below_alloc | apply pw_below_drewN | apply below_drew1 | refine below_set ?_ GE158.out | refine below_set ?_ GE168.out) | exact HB.out)))
        rintro e w58 ⟨rfl, hb⟩
        refine ⟨_, rfl, ?_⟩
        have n0_ := Aside0.mk (blk_below (g := gb158) (o := .cells #[.int .i64 a0_0, .int .i64 a0_1, .int .i64 a0_2] 32 (0, 0)) (by (with_reducible repeat (first | refine blk_drewN ?_ _ | refine blk_drew ?_ | refine blk_alloc ?_ _)); exact BK158.out) hb)
        have n1_ := Aside0.mk (blk_below (g := gb168) (o := .cells #[.int .i64 t164, .int .i64 t165, .int .i64 t166] 32 (0, 0)) (by (with_reducible repeat (first | refine blk_drewN ?_ _ | refine blk_drew ?_ | refine blk_alloc ?_ _)); exact BK168.out) hb)
        have n2_ := Aside0.mk (below_step (by repeat (first | (with_reducible first | exact HB.out | apply below_alloc | apply pw_below_drewN | apply below_drew1 | refine below_set ?_ GE158.out | refine below_set ?_ GE168.out) | exact HB.out)) hb)
        clear BK158
        clear BK168
        clear HB
        have BK158 := n0_
        have BK168 := n1_
        have HB := n2_
        clear n0_ n1_ n2_
        (try clear hb)
        (try clear hb2)
        (try clear hk)
        (try clear hi)
        refine hK.out _ _ ⟨(blk_cell BK168.out 0).trans rfl, (blk_cell BK168.out 1).trans rfl, (blk_cell BK168.out 2).trans rfl⟩ (fun hHeld => ?_)
        clear hK K
        refine norm_ (a' := ?_) ?_ ?_
        rotate_left
        ·
         show Act.put _ (some 72) _ = _
         simp only [Act.put, zDS_q1, zDS_q2, zDS_q3, i64_w, i32_w]
         rfl
        refine zDS_u 7 73 zDS_m8 HT_ (v := ?_) (a' := ?_) rfl rfl (by kernel_rfl) (fun _ _ _ h => h) (Or.inl ⟨by rfl, ?_⟩) ?_ ?_
        rotate_left
        · intro w'; go_simp; with_reducible rfl
        rotate_left
        · simp only [Act.put, zDS_q1, zDS_q2, zDS_q3, i64_w, i32_w]; rfl
        refine zDS_u 8 74 zDS_m9 HT_ (v := ?_) (a' := ?_) rfl rfl (by kernel_rfl) (fun _ _ _ h => h) (Or.inl ⟨by rfl, ?_⟩) ?_ ?_
        rotate_left
        · intro w'; go_simp; with_reducible rfl
        rotate_left
        · simp only [Act.put, zDS_q1, zDS_q2, zDS_q3, i64_w, i32_w]; rfl
        refine zDS_u 9 75 zDS_m10 HT_ (v := ?_) (a' := ?_) rfl rfl (by kernel_rfl) (fun _ _ _ h => h) (Or.inl ⟨by rfl, ?_⟩) ?_ ?_
        rotate_left
        · intro w'; go_simp; with_reducible rfl
        rotate_left
        · simp only [Act.put, zDS_q1, zDS_q2, zDS_q3, i64_w, i32_w]; rfl
        refine zDS_u 10 76 zDS_m11 HT_ (v := ?_) (a' := ?_) rfl rfl (by kernel_rfl) (fun _ _ _ h => h) (Or.inl ⟨by rfl, ?_⟩) ?_ ?_
        rotate_left
        · intro w'; go_simp; with_reducible rfl
        rotate_left
        · simp only [Act.put, zDS_q1, zDS_q2, zDS_q3, i64_w, i32_w]; rfl
        refine zDS_u 12 78 zDS_m12 HT_ (v := ?_) (a' := ?_) rfl rfl (by kernel_rfl) (fun _ _ _ h => h) (Or.inl ⟨by rfl, ?_⟩) ?_ ?_
        rotate_left
        · intro w'; go_simp; with_reducible rfl
        rotate_left
        · simp only [Act.put, zDS_q1, zDS_q2, zDS_q3, i64_w, i32_w]; rfl
        refine take_ (i := 11) (N := some 77) (v := ?_) (a' := ?_) zDS_m13 rfl rfl (take_ofW HT_.out HW_.out (by kernel_rfl)) (fun _ _ _ h => h) (Or.inl ⟨by rfl, ?_⟩) hHeld ?_ ?_
        rotate_left
        ·
         rintro w' ⟨s0, s1, s2⟩
         go_simp
         with_reducible rfl
        rotate_left
        · simp only [Act.put, zDS_q1, zDS_q2, zDS_q3, i64_w, i32_w]; rfl
        refine zDS_u 13 79 zDS_m14 HT_ (v := ?_) (a' := ?_) rfl rfl (by kernel_rfl) (fun _ _ _ h => h) (Or.inl ⟨by rfl, ?_⟩) ?_ ?_
        rotate_left
        · intro w'; go_simp; with_reducible rfl
        rotate_left
        · simp only [Act.put, zDS_q1, zDS_q2, zDS_q3, i64_w, i32_w]; rfl
        refine zDS_u 14 80 zDS_m15 HT_ (v := ?_) (a' := ?_) rfl rfl (by kernel_rfl) (fun _ _ _ h => h) (Or.inl ⟨by rfl, ?_⟩) ?_ ?_
        rotate_left
        · intro w'; go_simp; with_reducible rfl
        rotate_left
        · simp only [Act.put, zDS_q1, zDS_q2, zDS_q3, i64_w, i32_w]; rfl
        refine zDS_u 15 81 zDS_m16 HT_ (v := ?_) (a' := ?_) rfl rfl (by kernel_rfl) (fun _ _ _ h => h) (Or.inl ⟨by rfl, ?_⟩) ?_ ?_
        rotate_left
        · intro w'; go_simp; with_reducible rfl
        rotate_left
        · simp only [Act.put, zDS_q1, zDS_q2, zDS_q3, i64_w, i32_w]; rfl
        refine zDS_u 16 82 zDS_m17 HT_ (v := ?_) (a' := ?_) rfl rfl (by kernel_rfl) (fun _ _ _ h => h) (Or.inl ⟨by rfl, ?_⟩) ?_ ?_
        rotate_left
        · intro w'; go_simp; with_reducible rfl
        rotate_left
        · simp only [Act.put, zDS_q1, zDS_q2, zDS_q3, i64_w, i32_w]; rfl
        refine zDS_u 18 84 zDS_m18 HT_ (v := ?_) (a' := ?_) rfl rfl (by kernel_rfl) (fun _ _ _ h => h) (Or.inl ⟨by rfl, ?_⟩) ?_ ?_
        rotate_left
        · intro w'; go_simp; with_reducible rfl
        rotate_left
        · simp only [Act.put, zDS_q1, zDS_q2, zDS_q3, i64_w, i32_w]; rfl
        refine take_ (i := 17) (N := some 83) (v := ?_) (a' := ?_) zDS_m19 rfl rfl (take_ofW HT_.out HW_.out (by kernel_rfl)) (fun _ _ _ h => h) (Or.inl ⟨by rfl, ?_⟩) hHeld ?_ ?_
        rotate_left
        ·
         rintro w' ⟨s0, s1, s2⟩
         go_simp
         with_reducible rfl
        rotate_left
        · simp only [Act.put, zDS_q1, zDS_q2, zDS_q3, i64_w, i32_w]; rfl
        refine zDS_u 19 85 zDS_m20 HT_ (v := ?_) (a' := ?_) rfl rfl (by kernel_rfl) (fun _ _ _ h => h) (Or.inl ⟨by rfl, ?_⟩) ?_ ?_
        rotate_left
        · intro w'; go_simp; with_reducible rfl
        rotate_left
        · simp only [Act.put, zDS_q1, zDS_q2, zDS_q3, i64_w, i32_w]; rfl
        refine zDS_u 20 86 zDS_m21 HT_ (v := ?_) (a' := ?_) rfl rfl (by kernel_rfl) (fun _ _ _ h => h) (Or.inl ⟨by rfl, ?_⟩) ?_ ?_
        rotate_left
        · intro w'; go_simp; with_reducible rfl
        rotate_left
        · simp only [Act.put, zDS_q1, zDS_q2, zDS_q3, i64_w, i32_w]; rfl
        refine zDS_u 21 87 zDS_m22 HT_ (v := ?_) (a' := ?_) rfl rfl (by kernel_rfl) (fun _ _ _ h => h) (Or.inl ⟨by rfl, ?_⟩) ?_ ?_
        rotate_left
        · intro w'; go_simp; with_reducible rfl
        rotate_left
        · simp only [Act.put, zDS_q1, zDS_q2, zDS_q3, i64_w, i32_w]; rfl
        refine zDS_u 22 88 zDS_m23 HT_ (v := ?_) (a' := ?_) rfl rfl (by kernel_rfl) (fun _ _ _ h => h) (Or.inl ⟨by rfl, ?_⟩) ?_ ?_
        rotate_left
        · intro w'; go_simp; with_reducible rfl
        rotate_left
        · simp only [Act.put, zDS_q1, zDS_q2, zDS_q3, i64_w, i32_w]; rfl
        refine zDS_u 24 90 zDS_m24 HT_ (v := ?_) (a' := ?_) rfl rfl (by kernel_rfl) (fun _ _ _ h => h) (Or.inl ⟨by rfl, ?_⟩) ?_ ?_
        rotate_left
        · intro w'; go_simp; with_reducible rfl
        rotate_left
        · simp only [Act.put, zDS_q1, zDS_q2, zDS_q3, i64_w, i32_w]; rfl
        refine take_ (i := 23) (N := some 89) (v := ?_) (a' := ?_) zDS_m25 rfl rfl (take_ofW HT_.out HW_.out (by kernel_rfl)) (fun _ _ _ h => h) (Or.inl ⟨by rfl, ?_⟩) hHeld ?_ ?_
        rotate_left
        ·
         rintro w' ⟨s0, s1, s2⟩
         go_simp
         with_reducible rfl
        rotate_left
        · simp only [Act.put, zDS_q1, zDS_q2, zDS_q3, i64_w, i32_w]; rfl
        refine zDS_u 25 91 zDS_m26 HT_ (v := ?_) (a' := ?_) rfl rfl (by kernel_rfl) (fun _ _ _ h => h) (Or.inl ⟨by rfl, ?_⟩) ?_ ?_
        rotate_left
        · intro w'; go_simp; with_reducible rfl
        rotate_left
        · simp only [Act.put, zDS_q1, zDS_q2, zDS_q3, i64_w, i32_w]; rfl
        refine zDS_u 26 92 zDS_m27 HT_ (v := ?_) (a' := ?_) rfl rfl (by kernel_rfl) (fun _ _ _ h => h) (Or.inl ⟨by rfl, ?_⟩) ?_ ?_
        rotate_left
        · intro w'; go_simp; with_reducible rfl
        rotate_left
        · simp only [Act.put, zDS_q1, zDS_q2, zDS_q3, i64_w, i32_w]; rfl
        refine zDS_u 27 93 zDS_m28 HT_ (v := ?_) (a' := ?_) rfl rfl (by kernel_rfl) (fun _ _ _ h => h) (Or.inl ⟨by rfl, ?_⟩) ?_ ?_
        rotate_left
        · intro w'; go_simp; with_reducible rfl
        rotate_left
        · simp only [Act.put, zDS_q1, zDS_q2, zDS_q3, i64_w, i32_w]; rfl
        refine zDS_u 28 94 zDS_m29 HT_ (v := undef) (a' := ?_) rfl rfl (by kernel_rfl) (fun _ _ _ h => h) (Or.inr ⟨by rfl, rfl⟩) ?_ ?_
        rotate_left
        · simp only [Act.put, zDS_q1, zDS_q2, zDS_q3, i64_w, i32_w]; rfl
        refine zDS_u 29 95 zDS_m30 HT_ (v := undef) (a' := ?_) rfl rfl (by kernel_rfl) (fun _ _ _ h => h) (Or.inr ⟨by rfl, rfl⟩) ?_ ?_
        rotate_left
        · simp only [Act.put, zDS_q1, zDS_q2, zDS_q3, i64_w, i32_w]; rfl
        refine zDS_u 30 96 zDS_m31 HT_ (v := undef) (a' := ?_) rfl rfl (by kernel_rfl) (fun _ _ _ h => h) (Or.inr ⟨by rfl, rfl⟩) ?_ ?_
        rotate_left
        · simp only [Act.put, zDS_q1, zDS_q2, zDS_q3, i64_w, i32_w]; rfl
        refine zDS_u 31 97 zDS_m32 HT_ (v := undef) (a' := ?_) rfl rfl (by kernel_rfl) (fun _ _ _ h => h) (Or.inr ⟨by rfl, rfl⟩) ?_ ?_
        rotate_left
        · simp only [Act.put, zDS_q1, zDS_q2, zDS_q3, i64_w, i32_w]; rfl
        refine zDS_u 32 98 zDS_m33 HT_ (v := ?_) (a' := ?_) rfl rfl (by kernel_rfl) (fun _ _ _ h => h) (Or.inl ⟨by rfl, ?_⟩) ?_ ?_
        rotate_left
        · intro w'; go_simp; with_reducible rfl
        rotate_left
        · simp only [Act.put, zDS_q1, zDS_q2, zDS_q3, i64_w, i32_w]; rfl
        refine zDS_u 33 99 zDS_m34 HT_ (v := ?_) (a' := ?_) rfl rfl (by kernel_rfl) (fun _ _ _ h => h) (Or.inl ⟨by rfl, ?_⟩) ?_ ?_
        rotate_left
        · intro w'; go_simp; with_reducible rfl
        rotate_left
        · simp only [Act.put, zDS_q1, zDS_q2, zDS_q3, i64_w, i32_w]; rfl
        refine zDS_u 34 100 zDS_m35 HT_ (v := undef) (a' := ?_) rfl rfl (by kernel_rfl) (fun _ _ _ h => h) (Or.inr ⟨by rfl, rfl⟩) ?_ ?_
        rotate_left
        · simp only [Act.put, zDS_q1, zDS_q2, zDS_q3, i64_w, i32_w]; rfl
        refine zDS_u 35 101 zDS_m59 HT_ (v := undef) (a' := ?_) rfl rfl (by kernel_rfl) (fun _ _ _ h => h) (Or.inr ⟨by rfl, rfl⟩) ?_ ?_
        rotate_left
        · simp only [Act.put, zDS_q1, zDS_q2, zDS_q3, i64_w, i32_w]; rfl
        refine zDS_u 36 102 zDS_m60 HT_ (v := undef) (a' := ?_) rfl rfl (by kernel_rfl) (fun _ _ _ h => h) (Or.inr ⟨by rfl, rfl⟩) ?_ ?_
        rotate_left
        · simp only [Act.put, zDS_q1, zDS_q2, zDS_q3, i64_w, i32_w]; rfl
        refine zDS_u 37 103 zDS_m61 HT_ (v := undef) (a' := ?_) rfl rfl (by kernel_rfl) (fun _ _ _ h => h) (Or.inr ⟨by rfl, rfl⟩) ?_ ?_
        rotate_left
        · simp only [Act.put, zDS_q1, zDS_q2, zDS_q3, i64_w, i32_w]; rfl
        refine zDS_u 38 104 zDS_m39 HT_ (v := undef) (a' := ?_) rfl rfl (by kernel_rfl) (fun _ _ _ h => h) (Or.inr ⟨by rfl, rfl⟩) ?_ ?_
        rotate_left
        · simp only [Act.put, zDS_q1, zDS_q2, zDS_q3, i64_w, i32_w]; rfl
        refine zDS_u 39 105 zDS_m40 HT_ (v := undef) (a' := ?_) rfl rfl (by kernel_rfl) (fun _ _ _ h => h) (Or.inr ⟨by rfl, rfl⟩) ?_ ?_
        rotate_left
        · simp only [Act.put, zDS_q1, zDS_q2, zDS_q3, i64_w, i32_w]; rfl
        refine zDS_u 40 106 zDS_m41 HT_ (v := undef) (a' := ?_) rfl rfl (by kernel_rfl) (fun _ _ _ h => h) (Or.inr ⟨by rfl, rfl⟩) ?_ ?_
        rotate_left
        · simp only [Act.put, zDS_q1, zDS_q2, zDS_q3, i64_w, i32_w]; rfl
        refine zDS_u 41 107 zDS_m42 HT_ (v := ?_) (a' := ?_) rfl rfl (by kernel_rfl) (fun _ _ _ h => h) (Or.inl ⟨by rfl, ?_⟩) ?_ ?_
        rotate_left
        · intro w'; go_simp; with_reducible rfl
        rotate_left
        · simp only [Act.put, zDS_q1, zDS_q2, zDS_q3, i64_w, i32_w]; rfl
        refine zDS_u 42 108 zDS_m43 HT_ (v := ?_) (a' := ?_) rfl rfl (by kernel_rfl) (fun _ _ _ h => h) (Or.inl ⟨by rfl, ?_⟩) ?_ ?_
        rotate_left
        · intro w'; go_simp; with_reducible rfl
        rotate_left
        · simp only [Act.put, zDS_q1, zDS_q2, zDS_q3, i64_w, i32_w]; rfl
        refine zDS_u 43 109 zDS_m44 HT_ (v := undef) (a' := ?_) rfl rfl (by kernel_rfl) (fun _ _ _ h => h) (Or.inr ⟨by rfl, rfl⟩) ?_ ?_
        rotate_left
        · simp only [Act.put, zDS_q1, zDS_q2, zDS_q3, i64_w, i32_w]; rfl
        refine zDS_u 44 110 zDS_m45 HT_ (v := undef) (a' := ?_) rfl rfl (by kernel_rfl) (fun _ _ _ h => h) (Or.inr ⟨by rfl, rfl⟩) ?_ ?_
        rotate_left
        · simp only [Act.put, zDS_q1, zDS_q2, zDS_q3, i64_w, i32_w]; rfl
        refine zDS_u 45 111 zDS_m46 HT_ (v := undef) (a' := ?_) rfl rfl (by kernel_rfl) (fun _ _ _ h => h) (Or.inr ⟨by rfl, rfl⟩) ?_ ?_
        rotate_left
        · simp only [Act.put, zDS_q1, zDS_q2, zDS_q3, i64_w, i32_w]; rfl
        refine zDS_u 46 112 zDS_m47 HT_ (v := undef) (a' := ?_) rfl rfl (by kernel_rfl) (fun _ _ _ h => h) (Or.inr ⟨by rfl, rfl⟩) ?_ ?_
        rotate_left
        · simp only [Act.put, zDS_q1, zDS_q2, zDS_q3, i64_w, i32_w]; rfl
        refine zDS_u 47 113 zDS_m48 HT_ (v := undef) (a' := ?_) rfl rfl (by kernel_rfl) (fun _ _ _ h => h) (Or.inr ⟨by rfl, rfl⟩) ?_ ?_
        rotate_left
        · simp only [Act.put, zDS_q1, zDS_q2, zDS_q3, i64_w, i32_w]; rfl
        refine zDS_u 48 114 zDS_m49 HT_ (v := ?_) (a' := ?_) rfl rfl (by kernel_rfl) (fun _ _ _ h => h) (Or.inl ⟨by rfl, ?_⟩) ?_ ?_
        rotate_left
        · intro w'; go_simp; with_reducible rfl
        rotate_left
        · simp only [Act.put, zDS_q1, zDS_q2, zDS_q3, i64_w, i32_w]; rfl
        refine zDS_u 49 115 zDS_m50 HT_ (v := ?_) (a' := ?_) rfl rfl (by kernel_rfl) (fun _ _ _ h => h) (Or.inl ⟨by rfl, ?_⟩) ?_ ?_
        rotate_left
        · intro w'; go_simp; with_reducible rfl
        rotate_left
        · simp only [Act.put, zDS_q1, zDS_q2, zDS_q3, i64_w, i32_w]; rfl
        refine zDS_u 50 116 zDS_m51 HT_ (v := undef) (a' := ?_) rfl rfl (by kernel_rfl) (fun _ _ _ h => h) (Or.inr ⟨by rfl, rfl⟩) ?_ ?_
        rotate_left
        · simp only [Act.put, zDS_q1, zDS_q2, zDS_q3, i64_w, i32_w]; rfl
        refine zDS_u 51 117 zDS_m52 HT_ (v := undef) (a' := ?_) rfl rfl (by kernel_rfl) (fun _ _ _ h => h) (Or.inr ⟨by rfl, rfl⟩) ?_ ?_
        rotate_left
        · simp only [Act.put, zDS_q1, zDS_q2, zDS_q3, i64_w, i32_w]; rfl
        refine zDS_u 52 118 zDS_m53 HT_ (v := undef) (a' := ?_) rfl rfl (by kernel_rfl) (fun _ _ _ h => h) (Or.inr ⟨by rfl, rfl⟩) ?_ ?_
        rotate_left
        · simp only [Act.put, zDS_q1, zDS_q2, zDS_q3, i64_w, i32_w]; rfl
        refine zDS_u 53 119 zDS_m54 HT_ (v := undef) (a' := ?_) rfl rfl (by kernel_rfl) (fun _ _ _ h => h) (Or.inr ⟨by rfl, rfl⟩) ?_ ?_
        rotate_left
        · simp only [Act.put, zDS_q1, zDS_q2, zDS_q3, i64_w, i32_w]; rfl
        refine zDS_u 54 120 zDS_m55 HT_ (v := undef) (a' := ?_) rfl rfl (by kernel_rfl) (fun _ _ _ h => h) (Or.inr ⟨by rfl, rfl⟩) ?_ ?_
        rotate_left
        · simp only [Act.put, zDS_q1, zDS_q2, zDS_q3, i64_w, i32_w]; rfl
        refine zDS_u 55 121 zDS_m56 HT_ (v := ?_) (a' := ?_) rfl rfl (by kernel_rfl) (fun _ _ _ h => h) (Or.inl ⟨by rfl, ?_⟩) ?_ ?_
        rotate_left
        · intro w'; go_simp; with_reducible rfl
        rotate_left
        · simp only [Act.put, zDS_q1, zDS_q2, zDS_q3, i64_w, i32_w]; rfl
        refine done_ (done_of HT_.out (by kernel_rfl)) ?_
        try go_wp2
        go_meet
        case rel => exact ⟨_, (true), (by first | rfl | (simp; done) | (simp [*]; done)), H', ⟨by first | omega | exact Nat.le_refl _⟩, ⟨by (with_reducible repeat (first | refine blk_drewN ?_ _ | refine blk_drew ?_ | refine blk_alloc ?_ _)); exact BK158.out⟩, ⟨by (with_reducible repeat (first | refine blk_drewN ?_ _ | refine blk_drew ?_ | refine blk_alloc ?_ _)); exact BK168.out⟩, ⟨by repeat (first | (with_reducible first | exact HB.out | apply below_alloc | apply pw_below_drewN | apply below_drew1 | refine below_set ?_ GE158.out | refine below_set ?_ GE168.out) | exact HB.out)⟩⟩
      ·
       rw [if_neg c27] at H
       have c27b0 : (t165 == t170) = false := beq_eq_false_iff_ne.mpr c27
       have c27b1 : (t165 != t170) = true := bne_iff_ne.mpr c27
       have H' := Aside0.mk H
       clear H
       try go_wp2
       have n0_ : Aside0 ((((w20.setCell ⟨gb168, 0, none⟩ (.int .i64 t164)).setCell ⟨gb168, 1, none⟩ (.int .i64 t165)).setCell ⟨gb168, 2, none⟩ (.int .i64 t166)).heap[gb158]? = some (.cells #[.int .i64 a0_0, .int .i64 a0_1, .int .i64 a0_2] 32 (0, 0))) := ⟨by (with_reducible repeat (first | refine blk_drewN ?_ _ | refine blk_drew ?_ | refine blk_alloc ?_ _)); refine blk_far ?_ NB158_168.out _; (with_reducible repeat (first | refine blk_drewN ?_ _ | refine blk_drew ?_ | refine blk_alloc ?_ _)); refine blk_far ?_ NB158_168.out _; (with_reducible repeat (first | refine blk_drewN ?_ _ | refine blk_drew ?_ | refine blk_alloc ?_ _)); refine blk_far ?_ NB158_168.out _; (with_reducible repeat (first | refine blk_drewN ?_ _ | refine blk_drew ?_ | refine blk_alloc ?_ _)); exact BK158.out⟩
       have n1_ : Aside0 ((((w20.setCell ⟨gb168, 0, none⟩ (.int .i64 t164)).setCell ⟨gb168, 1, none⟩ (.int .i64 t165)).setCell ⟨gb168, 2, none⟩ (.int .i64 t166)).heap[gb168]? = some (.cells #[.int .i64 t164, .int .i64 t165, .int .i64 t166] 32 (0, 0))) := ⟨by (with_reducible repeat (first | refine blk_drewN ?_ _ | refine blk_drew ?_ | refine blk_alloc ?_ _)); refine blk_put (cs := #[.int .i64 t164, .int .i64 t165, .int .i64 0]) ?_ 2 _ rfl; (with_reducible repeat (first | refine blk_drewN ?_ _ | refine blk_drew ?_ | refine blk_alloc ?_ _)); refine blk_put (cs := #[.int .i64 t164, .int .i64 0, .int .i64 0]) ?_ 1 _ rfl; (with_reducible repeat (first | refine blk_drewN ?_ _ | refine blk_drew ?_ | refine blk_alloc ?_ _)); refine blk_put (cs := #[.int .i64 0, .int .i64 0, .int .i64 0]) ?_ 0 _ rfl; (with_reducible repeat (first | refine blk_drewN ?_ _ | refine blk_drew ?_ | refine blk_alloc ?_ _)); exact BK168.out⟩
       have n2_ : Aside0 (Below w.heap.size w (((w20.setCell ⟨gb168, 0, none⟩ (.int .i64 t164)).setCell ⟨gb168, 1, none⟩ (.int .i64 t165)).setCell ⟨gb168, 2, none⟩ (.int .i64 t166))) := ⟨by repeat (first | (with_reducible first | exact HB.out | apply below_alloc | apply pw_below_drewN | apply below_drew1 | refine below_set ?_ GE158.out | refine below_set ?_ GE168.out) | exact HB.out)⟩
       (try clear BK158)
       (try clear BK168)
       (try clear HB)
       generalize (((w20.setCell ⟨gb168, 0, none⟩ (.int .i64 t164)).setCell ⟨gb168, 1, none⟩ (.int .i64 t165)).setCell ⟨gb168, 2, none⟩ (.int .i64 t166)) = w59 at n0_ n1_ n2_ ⊢
       have BK158 := n0_
       have BK168 := n1_
       have HB := n2_
       clear n0_ n1_ n2_
       (try (rw [drewN_self w59]; generalize hq_ : World.drewN w59 _ = w59; have n0_ : Aside0 (w59.heap[gb158]? = some (.cells #[.int .i64 a0_0, .int .i64 a0_1, .int .i64 a0_2] 32 (0, 0))) := ⟨by rw [← hq_]; exact (by (with_reducible repeat (first | refine blk_drewN ?_ _ | refine blk_drew ?_ | refine blk_alloc ?_ _)); exact BK158.out)⟩; have n1_ : Aside0 (w59.heap[gb168]? = some (.cells #[.int .i64 t164, .int .i64 t165, .int .i64 t166] 32 (0, 0))) := ⟨by rw [← hq_]; exact (by (with_reducible repeat (first | refine blk_drewN ?_ _ | refine blk_drew ?_ | refine blk_alloc ?_ _)); exact BK168.out)⟩; have n2_ : Aside0 (Below w.heap.size w w59) := ⟨by rw [← hq_]; exact (by repeat (first | (with_reducible first | exact HB.out | apply below_alloc | apply pw_below_drewN | apply below_drew1 | refine below_set ?_ GE158.out | refine below_set ?_ GE168.out) | exact HB.out))⟩; clear BK158 BK168 HB hq_; have BK158 := n0_; have BK168 := n1_; have HB := n2_; clear n0_ n1_ n2_))
       have n0_ := Aside0.mk (blk_drew BK158.out)
       have n1_ := Aside0.mk (blk_drew BK168.out)
       have n2_ := Aside0.mk (below_drew1 HB.out)
       clear BK158
       clear BK168
       clear HB
       have BK158 := n0_
       have BK168 := n1_
       have HB := n2_
       clear n0_ n1_ n2_
       have CA24 := fun W hG_ => pledgesee_Is.calls t161 t163 true W hG_ A24.out
       try simp only [errW_none, errW_some] at CA24
       refine start_ (n := 56) (S := fun w' => w'.cell? ⟨gb168, 0, none⟩ = some (.int .i64 t164) ∧ w'.cell? ⟨gb168, 1, none⟩ = some (.int .i64 t165) ∧ w'.cell? ⟨gb168, 2, none⟩ = some (.int .i64 t166)) (ds := []) zDS_m0 (by kernel_rfl) rfl rfl ⟨(blk_cell BK168.out 0).trans rfl, (blk_cell BK168.out 1).trans rfl, (blk_cell BK168.out 2).trans rfl⟩ (fun hHeld => ?_); refine with_tabW pledgelaw4_DaySays.tab10 pledgelaw4_DaySays.bits10 (fun HT_ HW_ => ?_)
       generalize w59.drew = w60 at BK158 BK168 HB hHeld ⊢
       refine zDS_u 0 66 zDS_m1 HT_ (v := ?_) (a' := ?_) rfl rfl (by kernel_rfl) (fun _ _ _ h => h) (Or.inl ⟨by rfl, ?_⟩) ?_ ?_
       rotate_left
       · intro w'; go_simp; with_reducible rfl
       rotate_left
       · simp only [Act.put, zDS_q1, zDS_q2, zDS_q3, i64_w, i32_w]; rfl
       refine zDS_u 1 67 zDS_m2 HT_ (v := ?_) (a' := ?_) rfl rfl (by kernel_rfl) (fun _ _ _ h => h) (Or.inl ⟨by rfl, ?_⟩) ?_ ?_
       rotate_left
       · intro w'; go_simp; with_reducible rfl
       rotate_left
       · simp only [Act.put, zDS_q1, zDS_q2, zDS_q3, i64_w, i32_w]; rfl
       refine zDS_u 2 68 zDS_m3 HT_ (v := ?_) (a' := ?_) rfl rfl (by kernel_rfl) (fun _ _ _ h => h) (Or.inl ⟨by rfl, ?_⟩) ?_ ?_
       rotate_left
       · intro w'; go_simp; with_reducible rfl
       rotate_left
       · simp only [Act.put, zDS_q1, zDS_q2, zDS_q3, i64_w, i32_w]; rfl
       refine zDS_u 3 69 zDS_m4 HT_ (v := ?_) (a' := ?_) rfl rfl (by kernel_rfl) (fun _ _ _ h => h) (Or.inl ⟨by rfl, ?_⟩) ?_ ?_
       rotate_left
       · intro w'; go_simp; with_reducible rfl
       rotate_left
       · simp only [Act.put, zDS_q1, zDS_q2, zDS_q3, i64_w, i32_w]; rfl
       refine zDS_u 4 70 zDS_m5 HT_ (v := ?_) (a' := ?_) rfl rfl (by kernel_rfl) (fun _ _ _ h => h) (Or.inl ⟨by rfl, ?_⟩) ?_ ?_
       rotate_left
       · intro w'; go_simp; with_reducible rfl
       rotate_left
       · simp only [Act.put, zDS_q1, zDS_q2, zDS_q3, i64_w, i32_w]; rfl
       refine zDS_u 5 71 zDS_m6 HT_ (v := ?_) (a' := ?_) rfl rfl (by kernel_rfl) (fun _ _ _ h => h) (Or.inl ⟨by rfl, ?_⟩) ?_ ?_
       rotate_left
       · intro w'; go_simp; with_reducible rfl
       rotate_left
       · simp only [Act.put, zDS_q1, zDS_q2, zDS_q3, i64_w, i32_w]; rfl
       refine one_ (i := 6) (N := some 72) zDS_m7 rfl rfl (one_of HT_.out (by kernel_rfl)) (by decide) (fun K hK => ?_)
       refine goes_ Tryd.func14 (by kernel_rfl) rfl #[errW t161, .int .i64 t163] (by rfl) rfl rfl (by (try simp only [List.map_toArray, List.map_cons, List.map_nil]); first | done | rfl | (simp only [List.length_drop, List.length_take]; rfl)) ?_
       with_reducible refine (CA24 _ ?side1).mono ?_
       (case side1 => exact GlobOK.below HG.out (by repeat (first | (with_reducible first | exact HB.out | apply below_alloc | apply pw_below_drewN | apply below_drew1 | refine below_set ?_ GE158.out | refine below_set ?_ GE168.out) | exact HB.out)))
       rintro e w61 ⟨rfl, hb⟩
       refine ⟨_, rfl, ?_⟩
       have n0_ := Aside0.mk (blk_below (g := gb158) (o := .cells #[.int .i64 a0_0, .int .i64 a0_1, .int .i64 a0_2] 32 (0, 0)) (by (with_reducible repeat (first | refine blk_drewN ?_ _ | refine blk_drew ?_ | refine blk_alloc ?_ _)); exact BK158.out) hb)
       have n1_ := Aside0.mk (blk_below (g := gb168) (o := .cells #[.int .i64 t164, .int .i64 t165, .int .i64 t166] 32 (0, 0)) (by (with_reducible repeat (first | refine blk_drewN ?_ _ | refine blk_drew ?_ | refine blk_alloc ?_ _)); exact BK168.out) hb)
       have n2_ := Aside0.mk (below_step (by repeat (first | (with_reducible first | exact HB.out | apply below_alloc | apply pw_below_drewN | apply below_drew1 | refine below_set ?_ GE158.out | refine below_set ?_ GE168.out) | exact HB.out)) hb)
       clear BK158
       clear BK168
       clear HB
       have BK158 := n0_
       have BK168 := n1_
       have HB := n2_
       clear n0_ n1_ n2_
       (try clear hb)
       (try clear hb2)
       (try clear hk)
       (try clear hi)
       refine hK.out _ _ ⟨(blk_cell BK168.out 0).trans rfl, (blk_cell BK168.out 1).trans rfl, (blk_cell BK168.out 2).trans rfl⟩ (fun hHeld => ?_)
       clear hK K
       refine norm_ (a' := ?_) ?_ ?_
       rotate_left
       ·
        show Act.put _ (some 72) _ = _
        simp only [Act.put, zDS_q1, zDS_q2, zDS_q3, i64_w, i32_w]
        rfl
       refine zDS_u 7 73 zDS_m8 HT_ (v := ?_) (a' := ?_) rfl rfl (by kernel_rfl) (fun _ _ _ h => h) (Or.inl ⟨by rfl, ?_⟩) ?_ ?_
       rotate_left
       · intro w'; go_simp; with_reducible rfl
       rotate_left
       · simp only [Act.put, zDS_q1, zDS_q2, zDS_q3, i64_w, i32_w]; rfl
       refine zDS_u 8 74 zDS_m9 HT_ (v := ?_) (a' := ?_) rfl rfl (by kernel_rfl) (fun _ _ _ h => h) (Or.inl ⟨by rfl, ?_⟩) ?_ ?_
       rotate_left
       · intro w'; go_simp; with_reducible rfl
       rotate_left
       · simp only [Act.put, zDS_q1, zDS_q2, zDS_q3, i64_w, i32_w]; rfl
       refine zDS_u 9 75 zDS_m10 HT_ (v := ?_) (a' := ?_) rfl rfl (by kernel_rfl) (fun _ _ _ h => h) (Or.inl ⟨by rfl, ?_⟩) ?_ ?_
       rotate_left
       · intro w'; go_simp; with_reducible rfl
       rotate_left
       · simp only [Act.put, zDS_q1, zDS_q2, zDS_q3, i64_w, i32_w]; rfl
       refine zDS_u 10 76 zDS_m11 HT_ (v := ?_) (a' := ?_) rfl rfl (by kernel_rfl) (fun _ _ _ h => h) (Or.inl ⟨by rfl, ?_⟩) ?_ ?_
       rotate_left
       · intro w'; go_simp; with_reducible rfl
       rotate_left
       · simp only [Act.put, zDS_q1, zDS_q2, zDS_q3, i64_w, i32_w]; rfl
       refine zDS_u 12 78 zDS_m12 HT_ (v := ?_) (a' := ?_) rfl rfl (by kernel_rfl) (fun _ _ _ h => h) (Or.inl ⟨by rfl, ?_⟩) ?_ ?_
       rotate_left
       · intro w'; go_simp; with_reducible rfl
       rotate_left
       · simp only [Act.put, zDS_q1, zDS_q2, zDS_q3, i64_w, i32_w]; rfl
       refine take_ (i := 11) (N := some 77) (v := ?_) (a' := ?_) zDS_m13 rfl rfl (take_ofW HT_.out HW_.out (by kernel_rfl)) (fun _ _ _ h => h) (Or.inl ⟨by rfl, ?_⟩) hHeld ?_ ?_
       rotate_left
       ·
        rintro w' ⟨s0, s1, s2⟩
        go_simp
        with_reducible rfl
       rotate_left
       · simp only [Act.put, zDS_q1, zDS_q2, zDS_q3, i64_w, i32_w]; rfl
       refine zDS_u 13 79 zDS_m14 HT_ (v := ?_) (a' := ?_) rfl rfl (by kernel_rfl) (fun _ _ _ h => h) (Or.inl ⟨by rfl, ?_⟩) ?_ ?_
       rotate_left
       · intro w'; go_simp; with_reducible rfl
       rotate_left
       · simp only [Act.put, zDS_q1, zDS_q2, zDS_q3, i64_w, i32_w]; rfl
       refine zDS_u 14 80 zDS_m15 HT_ (v := ?_) (a' := ?_) rfl rfl (by kernel_rfl) (fun _ _ _ h => h) (Or.inl ⟨by rfl, ?_⟩) ?_ ?_
       rotate_left
       · intro w'; go_simp; with_reducible rfl
       rotate_left
       · simp only [Act.put, zDS_q1, zDS_q2, zDS_q3, i64_w, i32_w]; rfl
       refine zDS_u 15 81 zDS_m16 HT_ (v := ?_) (a' := ?_) rfl rfl (by kernel_rfl) (fun _ _ _ h => h) (Or.inl ⟨by rfl, ?_⟩) ?_ ?_
       rotate_left
       · intro w'; go_simp; with_reducible rfl
       rotate_left
       · simp only [Act.put, zDS_q1, zDS_q2, zDS_q3, i64_w, i32_w]; rfl
       refine zDS_u 16 82 zDS_m17 HT_ (v := ?_) (a' := ?_) rfl rfl (by kernel_rfl) (fun _ _ _ h => h) (Or.inl ⟨by rfl, ?_⟩) ?_ ?_
       rotate_left
       · intro w'; go_simp; with_reducible rfl
       rotate_left
       · simp only [Act.put, zDS_q1, zDS_q2, zDS_q3, i64_w, i32_w]; rfl
       refine zDS_u 18 84 zDS_m18 HT_ (v := ?_) (a' := ?_) rfl rfl (by kernel_rfl) (fun _ _ _ h => h) (Or.inl ⟨by rfl, ?_⟩) ?_ ?_
       rotate_left
       · intro w'; go_simp; with_reducible rfl
       rotate_left
       · simp only [Act.put, zDS_q1, zDS_q2, zDS_q3, i64_w, i32_w]; rfl
       refine take_ (i := 17) (N := some 83) (v := ?_) (a' := ?_) zDS_m19 rfl rfl (take_ofW HT_.out HW_.out (by kernel_rfl)) (fun _ _ _ h => h) (Or.inl ⟨by rfl, ?_⟩) hHeld ?_ ?_
       rotate_left
       ·
        rintro w' ⟨s0, s1, s2⟩
        go_simp
        with_reducible rfl
       rotate_left
       · simp only [Act.put, zDS_q1, zDS_q2, zDS_q3, i64_w, i32_w]; rfl
       refine zDS_u 19 85 zDS_m20 HT_ (v := ?_) (a' := ?_) rfl rfl (by kernel_rfl) (fun _ _ _ h => h) (Or.inl ⟨by rfl, ?_⟩) ?_ ?_
       rotate_left
       · intro w'; go_simp; with_reducible rfl
       rotate_left
       · simp only [Act.put, zDS_q1, zDS_q2, zDS_q3, i64_w, i32_w]; rfl
       refine zDS_u 20 86 zDS_m21 HT_ (v := ?_) (a' := ?_) rfl rfl (by kernel_rfl) (fun _ _ _ h => h) (Or.inl ⟨by rfl, ?_⟩) ?_ ?_
       rotate_left
       · intro w'; go_simp; with_reducible rfl
       rotate_left
       · simp only [Act.put, zDS_q1, zDS_q2, zDS_q3, i64_w, i32_w]; rfl
       refine zDS_u 21 87 zDS_m22 HT_ (v := ?_) (a' := ?_) rfl rfl (by kernel_rfl) (fun _ _ _ h => h) (Or.inl ⟨by rfl, ?_⟩) ?_ ?_
       rotate_left
       · intro w'; go_simp; with_reducible rfl
       rotate_left
       · simp only [Act.put, zDS_q1, zDS_q2, zDS_q3, i64_w, i32_w]; rfl
       refine zDS_u 22 88 zDS_m23 HT_ (v := undef) (a' := ?_) rfl rfl (by kernel_rfl) (fun _ _ _ h => h) (Or.inr ⟨by rfl, rfl⟩) ?_ ?_
       rotate_left
       · simp only [Act.put, zDS_q1, zDS_q2, zDS_q3, i64_w, i32_w]; rfl
       refine zDS_u 23 89 zDS_m62 HT_ (v := undef) (a' := ?_) rfl rfl (by kernel_rfl) (fun _ _ _ h => h) (Or.inr ⟨by rfl, rfl⟩) ?_ ?_
       rotate_left
       · simp only [Act.put, zDS_q1, zDS_q2, zDS_q3, i64_w, i32_w]; rfl
       refine zDS_u 24 90 zDS_m25 HT_ (v := undef) (a' := ?_) rfl rfl (by kernel_rfl) (fun _ _ _ h => h) (Or.inr ⟨by rfl, rfl⟩) ?_ ?_
       rotate_left
       · simp only [Act.put, zDS_q1, zDS_q2, zDS_q3, i64_w, i32_w]; rfl
       refine zDS_u 25 91 zDS_m26 HT_ (v := undef) (a' := ?_) rfl rfl (by kernel_rfl) (fun _ _ _ h => h) (Or.inr ⟨by rfl, rfl⟩) ?_ ?_
       rotate_left
       · simp only [Act.put, zDS_q1, zDS_q2, zDS_q3, i64_w, i32_w]; rfl
       refine zDS_u 26 92 zDS_m27 HT_ (v := ?_) (a' := ?_) rfl rfl (by kernel_rfl) (fun _ _ _ h => h) (Or.inl ⟨by rfl, ?_⟩) ?_ ?_
       rotate_left
       · intro w'; go_simp; with_reducible rfl
       rotate_left
       · simp only [Act.put, zDS_q1, zDS_q2, zDS_q3, i64_w, i32_w]; rfl
       refine zDS_u 27 93 zDS_m28 HT_ (v := ?_) (a' := ?_) rfl rfl (by kernel_rfl) (fun _ _ _ h => h) (Or.inl ⟨by rfl, ?_⟩) ?_ ?_
       rotate_left
       · intro w'; go_simp; with_reducible rfl
       rotate_left
       · simp only [Act.put, zDS_q1, zDS_q2, zDS_q3, i64_w, i32_w]; rfl
       refine zDS_u 28 94 zDS_m29 HT_ (v := undef) (a' := ?_) rfl rfl (by kernel_rfl) (fun _ _ _ h => h) (Or.inr ⟨by rfl, rfl⟩) ?_ ?_
       rotate_left
       · simp only [Act.put, zDS_q1, zDS_q2, zDS_q3, i64_w, i32_w]; rfl
       refine zDS_u 29 95 zDS_m30 HT_ (v := undef) (a' := ?_) rfl rfl (by kernel_rfl) (fun _ _ _ h => h) (Or.inr ⟨by rfl, rfl⟩) ?_ ?_
       rotate_left
       · simp only [Act.put, zDS_q1, zDS_q2, zDS_q3, i64_w, i32_w]; rfl
       refine zDS_u 30 96 zDS_m31 HT_ (v := undef) (a' := ?_) rfl rfl (by kernel_rfl) (fun _ _ _ h => h) (Or.inr ⟨by rfl, rfl⟩) ?_ ?_
       rotate_left
       · simp only [Act.put, zDS_q1, zDS_q2, zDS_q3, i64_w, i32_w]; rfl
       refine zDS_u 31 97 zDS_m32 HT_ (v := undef) (a' := ?_) rfl rfl (by kernel_rfl) (fun _ _ _ h => h) (Or.inr ⟨by rfl, rfl⟩) ?_ ?_
       rotate_left
       · simp only [Act.put, zDS_q1, zDS_q2, zDS_q3, i64_w, i32_w]; rfl
       refine zDS_u 32 98 zDS_m33 HT_ (v := ?_) (a' := ?_) rfl rfl (by kernel_rfl) (fun _ _ _ h => h) (Or.inl ⟨by rfl, ?_⟩) ?_ ?_
       rotate_left
       · intro w'; go_simp; with_reducible rfl
       rotate_left
       · simp only [Act.put, zDS_q1, zDS_q2, zDS_q3, i64_w, i32_w]; rfl
       refine zDS_u 33 99 zDS_m34 HT_ (v := ?_) (a' := ?_) rfl rfl (by kernel_rfl) (fun _ _ _ h => h) (Or.inl ⟨by rfl, ?_⟩) ?_ ?_
       rotate_left
       · intro w'; go_simp; with_reducible rfl
       rotate_left
       · simp only [Act.put, zDS_q1, zDS_q2, zDS_q3, i64_w, i32_w]; rfl
       refine zDS_u 34 100 zDS_m35 HT_ (v := undef) (a' := ?_) rfl rfl (by kernel_rfl) (fun _ _ _ h => h) (Or.inr ⟨by rfl, rfl⟩) ?_ ?_
       rotate_left
       · simp only [Act.put, zDS_q1, zDS_q2, zDS_q3, i64_w, i32_w]; rfl
       refine zDS_u 35 101 zDS_m59 HT_ (v := undef) (a' := ?_) rfl rfl (by kernel_rfl) (fun _ _ _ h => h) (Or.inr ⟨by rfl, rfl⟩) ?_ ?_
       rotate_left
       · simp only [Act.put, zDS_q1, zDS_q2, zDS_q3, i64_w, i32_w]; rfl
       refine zDS_u 36 102 zDS_m60 HT_ (v := undef) (a' := ?_) rfl rfl (by kernel_rfl) (fun _ _ _ h => h) (Or.inr ⟨by rfl, rfl⟩) ?_ ?_
       rotate_left
       · simp only [Act.put, zDS_q1, zDS_q2, zDS_q3, i64_w, i32_w]; rfl
       refine zDS_u 37 103 zDS_m61 HT_ (v := undef) (a' := ?_) rfl rfl (by kernel_rfl) (fun _ _ _ h => h) (Or.inr ⟨by rfl, rfl⟩) ?_ ?_
       rotate_left
       · simp only [Act.put, zDS_q1, zDS_q2, zDS_q3, i64_w, i32_w]; rfl
       refine zDS_u 38 104 zDS_m39 HT_ (v := undef) (a' := ?_) rfl rfl (by kernel_rfl) (fun _ _ _ h => h) (Or.inr ⟨by rfl, rfl⟩) ?_ ?_
       rotate_left
       · simp only [Act.put, zDS_q1, zDS_q2, zDS_q3, i64_w, i32_w]; rfl
       refine zDS_u 39 105 zDS_m40 HT_ (v := undef) (a' := ?_) rfl rfl (by kernel_rfl) (fun _ _ _ h => h) (Or.inr ⟨by rfl, rfl⟩) ?_ ?_
       rotate_left
       · simp only [Act.put, zDS_q1, zDS_q2, zDS_q3, i64_w, i32_w]; rfl
       refine zDS_u 40 106 zDS_m41 HT_ (v := undef) (a' := ?_) rfl rfl (by kernel_rfl) (fun _ _ _ h => h) (Or.inr ⟨by rfl, rfl⟩) ?_ ?_
       rotate_left
       · simp only [Act.put, zDS_q1, zDS_q2, zDS_q3, i64_w, i32_w]; rfl
       refine zDS_u 41 107 zDS_m42 HT_ (v := ?_) (a' := ?_) rfl rfl (by kernel_rfl) (fun _ _ _ h => h) (Or.inl ⟨by rfl, ?_⟩) ?_ ?_
       rotate_left
       · intro w'; go_simp; with_reducible rfl
       rotate_left
       · simp only [Act.put, zDS_q1, zDS_q2, zDS_q3, i64_w, i32_w]; rfl
       refine zDS_u 42 108 zDS_m43 HT_ (v := ?_) (a' := ?_) rfl rfl (by kernel_rfl) (fun _ _ _ h => h) (Or.inl ⟨by rfl, ?_⟩) ?_ ?_
       rotate_left
       · intro w'; go_simp; with_reducible rfl
       rotate_left
       · simp only [Act.put, zDS_q1, zDS_q2, zDS_q3, i64_w, i32_w]; rfl
       refine zDS_u 43 109 zDS_m44 HT_ (v := undef) (a' := ?_) rfl rfl (by kernel_rfl) (fun _ _ _ h => h) (Or.inr ⟨by rfl, rfl⟩) ?_ ?_
       rotate_left
       · simp only [Act.put, zDS_q1, zDS_q2, zDS_q3, i64_w, i32_w]; rfl
       refine zDS_u 44 110 zDS_m45 HT_ (v := undef) (a' := ?_) rfl rfl (by kernel_rfl) (fun _ _ _ h => h) (Or.inr ⟨by rfl, rfl⟩) ?_ ?_
       rotate_left
       · simp only [Act.put, zDS_q1, zDS_q2, zDS_q3, i64_w, i32_w]; rfl
       refine zDS_u 45 111 zDS_m46 HT_ (v := undef) (a' := ?_) rfl rfl (by kernel_rfl) (fun _ _ _ h => h) (Or.inr ⟨by rfl, rfl⟩) ?_ ?_
       rotate_left
       · simp only [Act.put, zDS_q1, zDS_q2, zDS_q3, i64_w, i32_w]; rfl
       refine zDS_u 46 112 zDS_m47 HT_ (v := undef) (a' := ?_) rfl rfl (by kernel_rfl) (fun _ _ _ h => h) (Or.inr ⟨by rfl, rfl⟩) ?_ ?_
       rotate_left
       · simp only [Act.put, zDS_q1, zDS_q2, zDS_q3, i64_w, i32_w]; rfl
       refine zDS_u 47 113 zDS_m48 HT_ (v := undef) (a' := ?_) rfl rfl (by kernel_rfl) (fun _ _ _ h => h) (Or.inr ⟨by rfl, rfl⟩) ?_ ?_
       rotate_left
       · simp only [Act.put, zDS_q1, zDS_q2, zDS_q3, i64_w, i32_w]; rfl
       refine zDS_u 48 114 zDS_m49 HT_ (v := ?_) (a' := ?_) rfl rfl (by kernel_rfl) (fun _ _ _ h => h) (Or.inl ⟨by rfl, ?_⟩) ?_ ?_
       rotate_left
       · intro w'; go_simp; with_reducible rfl
       rotate_left
       · simp only [Act.put, zDS_q1, zDS_q2, zDS_q3, i64_w, i32_w]; rfl
       refine zDS_u 49 115 zDS_m50 HT_ (v := ?_) (a' := ?_) rfl rfl (by kernel_rfl) (fun _ _ _ h => h) (Or.inl ⟨by rfl, ?_⟩) ?_ ?_
       rotate_left
       · intro w'; go_simp; with_reducible rfl
       rotate_left
       · simp only [Act.put, zDS_q1, zDS_q2, zDS_q3, i64_w, i32_w]; rfl
       refine zDS_u 50 116 zDS_m51 HT_ (v := undef) (a' := ?_) rfl rfl (by kernel_rfl) (fun _ _ _ h => h) (Or.inr ⟨by rfl, rfl⟩) ?_ ?_
       rotate_left
       · simp only [Act.put, zDS_q1, zDS_q2, zDS_q3, i64_w, i32_w]; rfl
       refine zDS_u 51 117 zDS_m52 HT_ (v := undef) (a' := ?_) rfl rfl (by kernel_rfl) (fun _ _ _ h => h) (Or.inr ⟨by rfl, rfl⟩) ?_ ?_
       rotate_left
       · simp only [Act.put, zDS_q1, zDS_q2, zDS_q3, i64_w, i32_w]; rfl
       refine zDS_u 52 118 zDS_m53 HT_ (v := undef) (a' := ?_) rfl rfl (by kernel_rfl) (fun _ _ _ h => h) (Or.inr ⟨by rfl, rfl⟩) ?_ ?_
       rotate_left
       · simp only [Act.put, zDS_q1, zDS_q2, zDS_q3, i64_w, i32_w]; rfl
       refine zDS_u 53 119 zDS_m54 HT_ (v := undef) (a' := ?_) rfl rfl (by kernel_rfl) (fun _ _ _ h => h) (Or.inr ⟨by rfl, rfl⟩) ?_ ?_
       rotate_left
       · simp only [Act.put, zDS_q1, zDS_q2, zDS_q3, i64_w, i32_w]; rfl
       refine zDS_u 54 120 zDS_m55 HT_ (v := undef) (a' := ?_) rfl rfl (by kernel_rfl) (fun _ _ _ h => h) (Or.inr ⟨by rfl, rfl⟩) ?_ ?_
       rotate_left
       · simp only [Act.put, zDS_q1, zDS_q2, zDS_q3, i64_w, i32_w]; rfl
       refine zDS_u 55 121 zDS_m56 HT_ (v := ?_) (a' := ?_) rfl rfl (by kernel_rfl) (fun _ _ _ h => h) (Or.inl ⟨by rfl, ?_⟩) ?_ ?_
       rotate_left
       · intro w'; go_simp; with_reducible rfl
       rotate_left
       · simp only [Act.put, zDS_q1, zDS_q2, zDS_q3, i64_w, i32_w]; rfl
       refine done_ (done_of HT_.out (by kernel_rfl)) ?_
       try go_wp2
       go_meet
       case rel => exact ⟨_, (true), (by first | rfl | (simp; done) | (simp [*]; done)), H', ⟨by first | omega | exact Nat.le_refl _⟩, ⟨by (with_reducible repeat (first | refine blk_drewN ?_ _ | refine blk_drew ?_ | refine blk_alloc ?_ _)); exact BK158.out⟩, ⟨by (with_reducible repeat (first | refine blk_drewN ?_ _ | refine blk_drew ?_ | refine blk_alloc ?_ _)); exact BK168.out⟩, ⟨by repeat (first | (with_reducible first | exact HB.out | apply below_alloc | apply pw_below_drewN | apply below_drew1 | refine below_set ?_ GE158.out | refine below_set ?_ GE168.out) | exact HB.out)⟩⟩
     ·
      rw [if_neg c26] at H
      have c26b0 : (t164 == t169) = false := beq_eq_false_iff_ne.mpr c26
      have c26b1 : (t164 != t169) = true := bne_iff_ne.mpr c26
      have H' := Aside0.mk H
      clear H
      try go_wp2
      have n0_ : Aside0 ((((w20.setCell ⟨gb168, 0, none⟩ (.int .i64 t164)).setCell ⟨gb168, 1, none⟩ (.int .i64 t165)).setCell ⟨gb168, 2, none⟩ (.int .i64 t166)).heap[gb158]? = some (.cells #[.int .i64 a0_0, .int .i64 a0_1, .int .i64 a0_2] 32 (0, 0))) := ⟨by (with_reducible repeat (first | refine blk_drewN ?_ _ | refine blk_drew ?_ | refine blk_alloc ?_ _)); refine blk_far ?_ NB158_168.out _; (with_reducible repeat (first | refine blk_drewN ?_ _ | refine blk_drew ?_ | refine blk_alloc ?_ _)); refine blk_far ?_ NB158_168.out _; (with_reducible repeat (first | refine blk_drewN ?_ _ | refine blk_drew ?_ | refine blk_alloc ?_ _)); refine blk_far ?_ NB158_168.out _; (with_reducible repeat (first | refine blk_drewN ?_ _ | refine blk_drew ?_ | refine blk_alloc ?_ _)); exact BK158.out⟩
      have n1_ : Aside0 ((((w20.setCell ⟨gb168, 0, none⟩ (.int .i64 t164)).setCell ⟨gb168, 1, none⟩ (.int .i64 t165)).setCell ⟨gb168, 2, none⟩ (.int .i64 t166)).heap[gb168]? = some (.cells #[.int .i64 t164, .int .i64 t165, .int .i64 t166] 32 (0, 0))) := ⟨by (with_reducible repeat (first | refine blk_drewN ?_ _ | refine blk_drew ?_ | refine blk_alloc ?_ _)); refine blk_put (cs := #[.int .i64 t164, .int .i64 t165, .int .i64 0]) ?_ 2 _ rfl; (with_reducible repeat (first | refine blk_drewN ?_ _ | refine blk_drew ?_ | refine blk_alloc ?_ _)); refine blk_put (cs := #[.int .i64 t164, .int .i64 0, .int .i64 0]) ?_ 1 _ rfl; (with_reducible repeat (first | refine blk_drewN ?_ _ | refine blk_drew ?_ | refine blk_alloc ?_ _)); refine blk_put (cs := #[.int .i64 0, .int .i64 0, .int .i64 0]) ?_ 0 _ rfl; (with_reducible repeat (first | refine blk_drewN ?_ _ | refine blk_drew ?_ | refine blk_alloc ?_ _)); exact BK168.out⟩
      have n2_ : Aside0 (Below w.heap.size w (((w20.setCell ⟨gb168, 0, none⟩ (.int .i64 t164)).setCell ⟨gb168, 1, none⟩ (.int .i64 t165)).setCell ⟨gb168, 2, none⟩ (.int .i64 t166))) := ⟨by repeat (first | (with_reducible first | exact HB.out | apply below_alloc | apply pw_below_drewN | apply below_drew1 | refine below_set ?_ GE158.out | refine below_set ?_ GE168.out) | exact HB.out)⟩
      (try clear BK158)
      (try clear BK168)
      (try clear HB)
      generalize (((w20.setCell ⟨gb168, 0, none⟩ (.int .i64 t164)).setCell ⟨gb168, 1, none⟩ (.int .i64 t165)).setCell ⟨gb168, 2, none⟩ (.int .i64 t166)) = w62 at n0_ n1_ n2_ ⊢
      have BK158 := n0_
      have BK168 := n1_
      have HB := n2_
      clear n0_ n1_ n2_
      (try (rw [drewN_self w62]; generalize hq_ : World.drewN w62 _ = w62; have n0_ : Aside0 (w62.heap[gb158]? = some (.cells #[.int .i64 a0_0, .int .i64 a0_1, .int .i64 a0_2] 32 (0, 0))) := ⟨by rw [← hq_]; exact (by (with_reducible repeat (first | refine blk_drewN ?_ _ | refine blk_drew ?_ | refine blk_alloc ?_ _)); exact BK158.out)⟩; have n1_ : Aside0 (w62.heap[gb168]? = some (.cells #[.int .i64 t164, .int .i64 t165, .int .i64 t166] 32 (0, 0))) := ⟨by rw [← hq_]; exact (by (with_reducible repeat (first | refine blk_drewN ?_ _ | refine blk_drew ?_ | refine blk_alloc ?_ _)); exact BK168.out)⟩; have n2_ : Aside0 (Below w.heap.size w w62) := ⟨by rw [← hq_]; exact (by repeat (first | (with_reducible first | exact HB.out | apply below_alloc | apply pw_below_drewN | apply below_drew1 | refine below_set ?_ GE158.out | refine below_set ?_ GE168.out) | exact HB.out))⟩; clear BK158 BK168 HB hq_; have BK158 := n0_; have BK168 := n1_; have HB := n2_; clear n0_ n1_ n2_))
      have n0_ := Aside0.mk (blk_drew BK158.out)
      have n1_ := Aside0.mk (blk_drew BK168.out)
      have n2_ := Aside0.mk (below_drew1 HB.out)
      clear BK158
      clear BK168
      clear HB
      have BK158 := n0_
      have BK168 := n1_
      have HB := n2_
      clear n0_ n1_ n2_
      have CA24 := fun W hG_ => pledgesee_Is.calls t161 t163 true W hG_ A24.out
      try simp only [errW_none, errW_some] at CA24
      refine start_ (n := 56) (S := fun w' => w'.cell? ⟨gb168, 0, none⟩ = some (.int .i64 t164) ∧ w'.cell? ⟨gb168, 1, none⟩ = some (.int .i64 t165) ∧ w'.cell? ⟨gb168, 2, none⟩ = some (.int .i64 t166)) (ds := []) zDS_m0 (by kernel_rfl) rfl rfl ⟨(blk_cell BK168.out 0).trans rfl, (blk_cell BK168.out 1).trans rfl, (blk_cell BK168.out 2).trans rfl⟩ (fun hHeld => ?_); refine with_tabW pledgelaw4_DaySays.tab10 pledgelaw4_DaySays.bits10 (fun HT_ HW_ => ?_)
      generalize w62.drew = w63 at BK158 BK168 HB hHeld ⊢
      refine zDS_u 0 66 zDS_m1 HT_ (v := ?_) (a' := ?_) rfl rfl (by kernel_rfl) (fun _ _ _ h => h) (Or.inl ⟨by rfl, ?_⟩) ?_ ?_
      rotate_left
      · intro w'; go_simp; with_reducible rfl
      rotate_left
      · simp only [Act.put, zDS_q1, zDS_q2, zDS_q3, i64_w, i32_w]; rfl
      refine zDS_u 1 67 zDS_m2 HT_ (v := ?_) (a' := ?_) rfl rfl (by kernel_rfl) (fun _ _ _ h => h) (Or.inl ⟨by rfl, ?_⟩) ?_ ?_
      rotate_left
      · intro w'; go_simp; with_reducible rfl
      rotate_left
      · simp only [Act.put, zDS_q1, zDS_q2, zDS_q3, i64_w, i32_w]; rfl
      refine zDS_u 2 68 zDS_m3 HT_ (v := ?_) (a' := ?_) rfl rfl (by kernel_rfl) (fun _ _ _ h => h) (Or.inl ⟨by rfl, ?_⟩) ?_ ?_
      rotate_left
      · intro w'; go_simp; with_reducible rfl
      rotate_left
      · simp only [Act.put, zDS_q1, zDS_q2, zDS_q3, i64_w, i32_w]; rfl
      refine zDS_u 3 69 zDS_m4 HT_ (v := ?_) (a' := ?_) rfl rfl (by kernel_rfl) (fun _ _ _ h => h) (Or.inl ⟨by rfl, ?_⟩) ?_ ?_
      rotate_left
      · intro w'; go_simp; with_reducible rfl
      rotate_left
      · simp only [Act.put, zDS_q1, zDS_q2, zDS_q3, i64_w, i32_w]; rfl
      refine zDS_u 4 70 zDS_m5 HT_ (v := ?_) (a' := ?_) rfl rfl (by kernel_rfl) (fun _ _ _ h => h) (Or.inl ⟨by rfl, ?_⟩) ?_ ?_
      rotate_left
      · intro w'; go_simp; with_reducible rfl
      rotate_left
      · simp only [Act.put, zDS_q1, zDS_q2, zDS_q3, i64_w, i32_w]; rfl
      refine zDS_u 5 71 zDS_m6 HT_ (v := ?_) (a' := ?_) rfl rfl (by kernel_rfl) (fun _ _ _ h => h) (Or.inl ⟨by rfl, ?_⟩) ?_ ?_
      rotate_left
      · intro w'; go_simp; with_reducible rfl
      rotate_left
      · simp only [Act.put, zDS_q1, zDS_q2, zDS_q3, i64_w, i32_w]; rfl
      refine one_ (i := 6) (N := some 72) zDS_m7 rfl rfl (one_of HT_.out (by kernel_rfl)) (by decide) (fun K hK => ?_)
      refine goes_ Tryd.func14 (by kernel_rfl) rfl #[errW t161, .int .i64 t163] (by rfl) rfl rfl (by (try simp only [List.map_toArray, List.map_cons, List.map_nil]); first | done | rfl | (simp only [List.length_drop, List.length_take]; rfl)) ?_
      with_reducible refine (CA24 _ ?side1).mono ?_
      (case side1 => exact GlobOK.below HG.out (by repeat (first | (with_reducible first | exact HB.out | apply below_alloc | apply pw_below_drewN | apply below_drew1 | refine below_set ?_ GE158.out | refine below_set ?_ GE168.out) | exact HB.out)))
      rintro e w64 ⟨rfl, hb⟩
      refine ⟨_, rfl, ?_⟩
      have n0_ := Aside0.mk (blk_below (g := gb158) (o := .cells #[.int .i64 a0_0, .int .i64 a0_1, .int .i64 a0_2] 32 (0, 0)) (by (with_reducible repeat (first | refine blk_drewN ?_ _ | refine blk_drew ?_ | refine blk_alloc ?_ _)); exact BK158.out) hb)
      have n1_ := Aside0.mk (blk_below (g := gb168) (o := .cells #[.int .i64 t164, .int .i64 t165, .int .i64 t166] 32 (0, 0)) (by (with_reducible repeat (first | refine blk_drewN ?_ _ | refine blk_drew ?_ | refine blk_alloc ?_ _)); exact BK168.out) hb)
      have n2_ := Aside0.mk (below_step (by repeat (first | (with_reducible first | exact HB.out | apply below_alloc | apply pw_below_drewN | apply below_drew1 | refine below_set ?_ GE158.out | refine below_set ?_ GE168.out) | exact HB.out)) hb)
      clear BK158
      clear BK168
      clear HB
      have BK158 := n0_
      have BK168 := n1_
      have HB := n2_
      clear n0_ n1_ n2_
      (try clear hb)
      (try clear hb2)
      (try clear hk)
      (try clear hi)
      refine hK.out _ _ ⟨(blk_cell BK168.out 0).trans rfl, (blk_cell BK168.out 1).trans rfl, (blk_cell BK168.out 2).trans rfl⟩ (fun hHeld => ?_)
      clear hK K
      refine norm_ (a' := ?_) ?_ ?_
      rotate_left
      ·
       show Act.put _ (some 72) _ = _
       simp only [Act.put, zDS_q1, zDS_q2, zDS_q3, i64_w, i32_w]
       rfl
      refine zDS_u 7 73 zDS_m8 HT_ (v := ?_) (a' := ?_) rfl rfl (by kernel_rfl) (fun _ _ _ h => h) (Or.inl ⟨by rfl, ?_⟩) ?_ ?_
      rotate_left
      · intro w'; go_simp; with_reducible rfl
      rotate_left
      · simp only [Act.put, zDS_q1, zDS_q2, zDS_q3, i64_w, i32_w]; rfl
      refine zDS_u 8 74 zDS_m9 HT_ (v := ?_) (a' := ?_) rfl rfl (by kernel_rfl) (fun _ _ _ h => h) (Or.inl ⟨by rfl, ?_⟩) ?_ ?_
      rotate_left
      · intro w'; go_simp; with_reducible rfl
      rotate_left
      · simp only [Act.put, zDS_q1, zDS_q2, zDS_q3, i64_w, i32_w]; rfl
      refine zDS_u 9 75 zDS_m10 HT_ (v := ?_) (a' := ?_) rfl rfl (by kernel_rfl) (fun _ _ _ h => h) (Or.inl ⟨by rfl, ?_⟩) ?_ ?_
      rotate_left
      · intro w'; go_simp; with_reducible rfl
      rotate_left
      · simp only [Act.put, zDS_q1, zDS_q2, zDS_q3, i64_w, i32_w]; rfl
      refine zDS_u 10 76 zDS_m11 HT_ (v := ?_) (a' := ?_) rfl rfl (by kernel_rfl) (fun _ _ _ h => h) (Or.inl ⟨by rfl, ?_⟩) ?_ ?_
      rotate_left
      · intro w'; go_simp; with_reducible rfl
      rotate_left
      · simp only [Act.put, zDS_q1, zDS_q2, zDS_q3, i64_w, i32_w]; rfl
      refine zDS_u 12 78 zDS_m12 HT_ (v := ?_) (a' := ?_) rfl rfl (by kernel_rfl) (fun _ _ _ h => h) (Or.inl ⟨by rfl, ?_⟩) ?_ ?_
      rotate_left
      · intro w'; go_simp; with_reducible rfl
      rotate_left
      · simp only [Act.put, zDS_q1, zDS_q2, zDS_q3, i64_w, i32_w]; rfl
      refine take_ (i := 11) (N := some 77) (v := ?_) (a' := ?_) zDS_m13 rfl rfl (take_ofW HT_.out HW_.out (by kernel_rfl)) (fun _ _ _ h => h) (Or.inl ⟨by rfl, ?_⟩) hHeld ?_ ?_
      rotate_left
      ·
       rintro w' ⟨s0, s1, s2⟩
       go_simp
       with_reducible rfl
      rotate_left
      · simp only [Act.put, zDS_q1, zDS_q2, zDS_q3, i64_w, i32_w]; rfl
      refine zDS_u 13 79 zDS_m14 HT_ (v := ?_) (a' := ?_) rfl rfl (by kernel_rfl) (fun _ _ _ h => h) (Or.inl ⟨by rfl, ?_⟩) ?_ ?_
      rotate_left
      · intro w'; go_simp; with_reducible rfl
      rotate_left
      · simp only [Act.put, zDS_q1, zDS_q2, zDS_q3, i64_w, i32_w]; rfl
      refine zDS_u 14 80 zDS_m15 HT_ (v := ?_) (a' := ?_) rfl rfl (by kernel_rfl) (fun _ _ _ h => h) (Or.inl ⟨by rfl, ?_⟩) ?_ ?_
      rotate_left
      · intro w'; go_simp; with_reducible rfl
      rotate_left
      · simp only [Act.put, zDS_q1, zDS_q2, zDS_q3, i64_w, i32_w]; rfl
      refine zDS_u 15 81 zDS_m16 HT_ (v := ?_) (a' := ?_) rfl rfl (by kernel_rfl) (fun _ _ _ h => h) (Or.inl ⟨by rfl, ?_⟩) ?_ ?_
      rotate_left
      · intro w'; go_simp; with_reducible rfl
      rotate_left
      · simp only [Act.put, zDS_q1, zDS_q2, zDS_q3, i64_w, i32_w]; rfl
      refine zDS_u 16 82 zDS_m17 HT_ (v := undef) (a' := ?_) rfl rfl (by kernel_rfl) (fun _ _ _ h => h) (Or.inr ⟨by rfl, rfl⟩) ?_ ?_
      rotate_left
      · simp only [Act.put, zDS_q1, zDS_q2, zDS_q3, i64_w, i32_w]; rfl
      refine zDS_u 17 83 zDS_m63 HT_ (v := undef) (a' := ?_) rfl rfl (by kernel_rfl) (fun _ _ _ h => h) (Or.inr ⟨by rfl, rfl⟩) ?_ ?_
      rotate_left
      · simp only [Act.put, zDS_q1, zDS_q2, zDS_q3, i64_w, i32_w]; rfl
      refine zDS_u 18 84 zDS_m19 HT_ (v := undef) (a' := ?_) rfl rfl (by kernel_rfl) (fun _ _ _ h => h) (Or.inr ⟨by rfl, rfl⟩) ?_ ?_
      rotate_left
      · simp only [Act.put, zDS_q1, zDS_q2, zDS_q3, i64_w, i32_w]; rfl
      refine zDS_u 19 85 zDS_m20 HT_ (v := undef) (a' := ?_) rfl rfl (by kernel_rfl) (fun _ _ _ h => h) (Or.inr ⟨by rfl, rfl⟩) ?_ ?_
      rotate_left
      · simp only [Act.put, zDS_q1, zDS_q2, zDS_q3, i64_w, i32_w]; rfl
      refine zDS_u 20 86 zDS_m21 HT_ (v := ?_) (a' := ?_) rfl rfl (by kernel_rfl) (fun _ _ _ h => h) (Or.inl ⟨by rfl, ?_⟩) ?_ ?_
      rotate_left
      · intro w'; go_simp; with_reducible rfl
      rotate_left
      · simp only [Act.put, zDS_q1, zDS_q2, zDS_q3, i64_w, i32_w]; rfl
      refine zDS_u 21 87 zDS_m22 HT_ (v := ?_) (a' := ?_) rfl rfl (by kernel_rfl) (fun _ _ _ h => h) (Or.inl ⟨by rfl, ?_⟩) ?_ ?_
      rotate_left
      · intro w'; go_simp; with_reducible rfl
      rotate_left
      · simp only [Act.put, zDS_q1, zDS_q2, zDS_q3, i64_w, i32_w]; rfl
      refine zDS_u 22 88 zDS_m23 HT_ (v := undef) (a' := ?_) rfl rfl (by kernel_rfl) (fun _ _ _ h => h) (Or.inr ⟨by rfl, rfl⟩) ?_ ?_
      rotate_left
      · simp only [Act.put, zDS_q1, zDS_q2, zDS_q3, i64_w, i32_w]; rfl
      refine zDS_u 23 89 zDS_m62 HT_ (v := undef) (a' := ?_) rfl rfl (by kernel_rfl) (fun _ _ _ h => h) (Or.inr ⟨by rfl, rfl⟩) ?_ ?_
      rotate_left
      · simp only [Act.put, zDS_q1, zDS_q2, zDS_q3, i64_w, i32_w]; rfl
      refine zDS_u 24 90 zDS_m25 HT_ (v := undef) (a' := ?_) rfl rfl (by kernel_rfl) (fun _ _ _ h => h) (Or.inr ⟨by rfl, rfl⟩) ?_ ?_
      rotate_left
      · simp only [Act.put, zDS_q1, zDS_q2, zDS_q3, i64_w, i32_w]; rfl
      refine zDS_u 25 91 zDS_m26 HT_ (v := undef) (a' := ?_) rfl rfl (by kernel_rfl) (fun _ _ _ h => h) (Or.inr ⟨by rfl, rfl⟩) ?_ ?_
      rotate_left
      · simp only [Act.put, zDS_q1, zDS_q2, zDS_q3, i64_w, i32_w]; rfl
      refine zDS_u 26 92 zDS_m27 HT_ (v := ?_) (a' := ?_) rfl rfl (by kernel_rfl) (fun _ _ _ h => h) (Or.inl ⟨by rfl, ?_⟩) ?_ ?_
      rotate_left
      · intro w'; go_simp; with_reducible rfl
      rotate_left
      · simp only [Act.put, zDS_q1, zDS_q2, zDS_q3, i64_w, i32_w]; rfl
      refine zDS_u 27 93 zDS_m28 HT_ (v := ?_) (a' := ?_) rfl rfl (by kernel_rfl) (fun _ _ _ h => h) (Or.inl ⟨by rfl, ?_⟩) ?_ ?_
      rotate_left
      · intro w'; go_simp; with_reducible rfl
      rotate_left
      · simp only [Act.put, zDS_q1, zDS_q2, zDS_q3, i64_w, i32_w]; rfl
      refine zDS_u 28 94 zDS_m29 HT_ (v := undef) (a' := ?_) rfl rfl (by kernel_rfl) (fun _ _ _ h => h) (Or.inr ⟨by rfl, rfl⟩) ?_ ?_
      rotate_left
      · simp only [Act.put, zDS_q1, zDS_q2, zDS_q3, i64_w, i32_w]; rfl
      refine zDS_u 29 95 zDS_m30 HT_ (v := undef) (a' := ?_) rfl rfl (by kernel_rfl) (fun _ _ _ h => h) (Or.inr ⟨by rfl, rfl⟩) ?_ ?_
      rotate_left
      · simp only [Act.put, zDS_q1, zDS_q2, zDS_q3, i64_w, i32_w]; rfl
      refine zDS_u 30 96 zDS_m31 HT_ (v := undef) (a' := ?_) rfl rfl (by kernel_rfl) (fun _ _ _ h => h) (Or.inr ⟨by rfl, rfl⟩) ?_ ?_
      rotate_left
      · simp only [Act.put, zDS_q1, zDS_q2, zDS_q3, i64_w, i32_w]; rfl
      refine zDS_u 31 97 zDS_m32 HT_ (v := undef) (a' := ?_) rfl rfl (by kernel_rfl) (fun _ _ _ h => h) (Or.inr ⟨by rfl, rfl⟩) ?_ ?_
      rotate_left
      · simp only [Act.put, zDS_q1, zDS_q2, zDS_q3, i64_w, i32_w]; rfl
      refine zDS_u 32 98 zDS_m33 HT_ (v := ?_) (a' := ?_) rfl rfl (by kernel_rfl) (fun _ _ _ h => h) (Or.inl ⟨by rfl, ?_⟩) ?_ ?_
      rotate_left
      · intro w'; go_simp; with_reducible rfl
      rotate_left
      · simp only [Act.put, zDS_q1, zDS_q2, zDS_q3, i64_w, i32_w]; rfl
      refine zDS_u 33 99 zDS_m34 HT_ (v := ?_) (a' := ?_) rfl rfl (by kernel_rfl) (fun _ _ _ h => h) (Or.inl ⟨by rfl, ?_⟩) ?_ ?_
      rotate_left
      · intro w'; go_simp; with_reducible rfl
      rotate_left
      · simp only [Act.put, zDS_q1, zDS_q2, zDS_q3, i64_w, i32_w]; rfl
      refine zDS_u 34 100 zDS_m35 HT_ (v := undef) (a' := ?_) rfl rfl (by kernel_rfl) (fun _ _ _ h => h) (Or.inr ⟨by rfl, rfl⟩) ?_ ?_
      rotate_left
      · simp only [Act.put, zDS_q1, zDS_q2, zDS_q3, i64_w, i32_w]; rfl
      refine zDS_u 35 101 zDS_m59 HT_ (v := undef) (a' := ?_) rfl rfl (by kernel_rfl) (fun _ _ _ h => h) (Or.inr ⟨by rfl, rfl⟩) ?_ ?_
      rotate_left
      · simp only [Act.put, zDS_q1, zDS_q2, zDS_q3, i64_w, i32_w]; rfl
      refine zDS_u 36 102 zDS_m60 HT_ (v := undef) (a' := ?_) rfl rfl (by kernel_rfl) (fun _ _ _ h => h) (Or.inr ⟨by rfl, rfl⟩) ?_ ?_
      rotate_left
      · simp only [Act.put, zDS_q1, zDS_q2, zDS_q3, i64_w, i32_w]; rfl
      refine zDS_u 37 103 zDS_m61 HT_ (v := undef) (a' := ?_) rfl rfl (by kernel_rfl) (fun _ _ _ h => h) (Or.inr ⟨by rfl, rfl⟩) ?_ ?_
      rotate_left
      · simp only [Act.put, zDS_q1, zDS_q2, zDS_q3, i64_w, i32_w]; rfl
      refine zDS_u 38 104 zDS_m39 HT_ (v := undef) (a' := ?_) rfl rfl (by kernel_rfl) (fun _ _ _ h => h) (Or.inr ⟨by rfl, rfl⟩) ?_ ?_
      rotate_left
      · simp only [Act.put, zDS_q1, zDS_q2, zDS_q3, i64_w, i32_w]; rfl
      refine zDS_u 39 105 zDS_m40 HT_ (v := undef) (a' := ?_) rfl rfl (by kernel_rfl) (fun _ _ _ h => h) (Or.inr ⟨by rfl, rfl⟩) ?_ ?_
      rotate_left
      · simp only [Act.put, zDS_q1, zDS_q2, zDS_q3, i64_w, i32_w]; rfl
      refine zDS_u 40 106 zDS_m41 HT_ (v := undef) (a' := ?_) rfl rfl (by kernel_rfl) (fun _ _ _ h => h) (Or.inr ⟨by rfl, rfl⟩) ?_ ?_
      rotate_left
      · simp only [Act.put, zDS_q1, zDS_q2, zDS_q3, i64_w, i32_w]; rfl
      refine zDS_u 41 107 zDS_m42 HT_ (v := ?_) (a' := ?_) rfl rfl (by kernel_rfl) (fun _ _ _ h => h) (Or.inl ⟨by rfl, ?_⟩) ?_ ?_
      rotate_left
      · intro w'; go_simp; with_reducible rfl
      rotate_left
      · simp only [Act.put, zDS_q1, zDS_q2, zDS_q3, i64_w, i32_w]; rfl
      refine zDS_u 42 108 zDS_m43 HT_ (v := ?_) (a' := ?_) rfl rfl (by kernel_rfl) (fun _ _ _ h => h) (Or.inl ⟨by rfl, ?_⟩) ?_ ?_
      rotate_left
      · intro w'; go_simp; with_reducible rfl
      rotate_left
      · simp only [Act.put, zDS_q1, zDS_q2, zDS_q3, i64_w, i32_w]; rfl
      refine zDS_u 43 109 zDS_m44 HT_ (v := undef) (a' := ?_) rfl rfl (by kernel_rfl) (fun _ _ _ h => h) (Or.inr ⟨by rfl, rfl⟩) ?_ ?_
      rotate_left
      · simp only [Act.put, zDS_q1, zDS_q2, zDS_q3, i64_w, i32_w]; rfl
      refine zDS_u 44 110 zDS_m45 HT_ (v := undef) (a' := ?_) rfl rfl (by kernel_rfl) (fun _ _ _ h => h) (Or.inr ⟨by rfl, rfl⟩) ?_ ?_
      rotate_left
      · simp only [Act.put, zDS_q1, zDS_q2, zDS_q3, i64_w, i32_w]; rfl
      refine zDS_u 45 111 zDS_m46 HT_ (v := undef) (a' := ?_) rfl rfl (by kernel_rfl) (fun _ _ _ h => h) (Or.inr ⟨by rfl, rfl⟩) ?_ ?_
      rotate_left
      · simp only [Act.put, zDS_q1, zDS_q2, zDS_q3, i64_w, i32_w]; rfl
      refine zDS_u 46 112 zDS_m47 HT_ (v := undef) (a' := ?_) rfl rfl (by kernel_rfl) (fun _ _ _ h => h) (Or.inr ⟨by rfl, rfl⟩) ?_ ?_
      rotate_left
      · simp only [Act.put, zDS_q1, zDS_q2, zDS_q3, i64_w, i32_w]; rfl
      refine zDS_u 47 113 zDS_m48 HT_ (v := undef) (a' := ?_) rfl rfl (by kernel_rfl) (fun _ _ _ h => h) (Or.inr ⟨by rfl, rfl⟩) ?_ ?_
      rotate_left
      · simp only [Act.put, zDS_q1, zDS_q2, zDS_q3, i64_w, i32_w]; rfl
      refine zDS_u 48 114 zDS_m49 HT_ (v := ?_) (a' := ?_) rfl rfl (by kernel_rfl) (fun _ _ _ h => h) (Or.inl ⟨by rfl, ?_⟩) ?_ ?_
      rotate_left
      · intro w'; go_simp; with_reducible rfl
      rotate_left
      · simp only [Act.put, zDS_q1, zDS_q2, zDS_q3, i64_w, i32_w]; rfl
      refine zDS_u 49 115 zDS_m50 HT_ (v := ?_) (a' := ?_) rfl rfl (by kernel_rfl) (fun _ _ _ h => h) (Or.inl ⟨by rfl, ?_⟩) ?_ ?_
      rotate_left
      · intro w'; go_simp; with_reducible rfl
      rotate_left
      · simp only [Act.put, zDS_q1, zDS_q2, zDS_q3, i64_w, i32_w]; rfl
      refine zDS_u 50 116 zDS_m51 HT_ (v := undef) (a' := ?_) rfl rfl (by kernel_rfl) (fun _ _ _ h => h) (Or.inr ⟨by rfl, rfl⟩) ?_ ?_
      rotate_left
      · simp only [Act.put, zDS_q1, zDS_q2, zDS_q3, i64_w, i32_w]; rfl
      refine zDS_u 51 117 zDS_m52 HT_ (v := undef) (a' := ?_) rfl rfl (by kernel_rfl) (fun _ _ _ h => h) (Or.inr ⟨by rfl, rfl⟩) ?_ ?_
      rotate_left
      · simp only [Act.put, zDS_q1, zDS_q2, zDS_q3, i64_w, i32_w]; rfl
      refine zDS_u 52 118 zDS_m53 HT_ (v := undef) (a' := ?_) rfl rfl (by kernel_rfl) (fun _ _ _ h => h) (Or.inr ⟨by rfl, rfl⟩) ?_ ?_
      rotate_left
      · simp only [Act.put, zDS_q1, zDS_q2, zDS_q3, i64_w, i32_w]; rfl
      refine zDS_u 53 119 zDS_m54 HT_ (v := undef) (a' := ?_) rfl rfl (by kernel_rfl) (fun _ _ _ h => h) (Or.inr ⟨by rfl, rfl⟩) ?_ ?_
      rotate_left
      · simp only [Act.put, zDS_q1, zDS_q2, zDS_q3, i64_w, i32_w]; rfl
      refine zDS_u 54 120 zDS_m55 HT_ (v := undef) (a' := ?_) rfl rfl (by kernel_rfl) (fun _ _ _ h => h) (Or.inr ⟨by rfl, rfl⟩) ?_ ?_
      rotate_left
      · simp only [Act.put, zDS_q1, zDS_q2, zDS_q3, i64_w, i32_w]; rfl
      refine zDS_u 55 121 zDS_m56 HT_ (v := ?_) (a' := ?_) rfl rfl (by kernel_rfl) (fun _ _ _ h => h) (Or.inl ⟨by rfl, ?_⟩) ?_ ?_
      rotate_left
      · intro w'; go_simp; with_reducible rfl
      rotate_left
      · simp only [Act.put, zDS_q1, zDS_q2, zDS_q3, i64_w, i32_w]; rfl
      refine done_ (done_of HT_.out (by kernel_rfl)) ?_
      try go_wp2
      go_meet
      case rel => exact ⟨_, (true), (by first | rfl | (simp; done) | (simp [*]; done)), H', ⟨by first | omega | exact Nat.le_refl _⟩, ⟨by (with_reducible repeat (first | refine blk_drewN ?_ _ | refine blk_drew ?_ | refine blk_alloc ?_ _)); exact BK158.out⟩, ⟨by (with_reducible repeat (first | refine blk_drewN ?_ _ | refine blk_drew ?_ | refine blk_alloc ?_ _)); exact BK168.out⟩, ⟨by repeat (first | (with_reducible first | exact HB.out | apply below_alloc | apply pw_below_drewN | apply below_drew1 | refine below_set ?_ GE158.out | refine below_set ?_ GE168.out) | exact HB.out)⟩⟩
    ·
     replace c25 := Bool.eq_false_iff.mpr c25
     subst c25
     have H1 : (pledgelaw4_DaySays.j0 k a2 a3 true t173 t174 t175 t176 true) = some r := by rw [if_neg (show ¬ (false = true) by decide)] at H; exact H
     clear H
     have H := H1
     clear H1
     have H' := Aside0.mk H
     clear H
     try go_wp2
     have n0_ : Aside0 ((((w20.setCell ⟨gb168, 0, none⟩ (.int .i64 t164)).setCell ⟨gb168, 1, none⟩ (.int .i64 t165)).setCell ⟨gb168, 2, none⟩ (.int .i64 t166)).heap[gb158]? = some (.cells #[.int .i64 a0_0, .int .i64 a0_1, .int .i64 a0_2] 32 (0, 0))) := ⟨by (with_reducible repeat (first | refine blk_drewN ?_ _ | refine blk_drew ?_ | refine blk_alloc ?_ _)); refine blk_far ?_ NB158_168.out _; (with_reducible repeat (first | refine blk_drewN ?_ _ | refine blk_drew ?_ | refine blk_alloc ?_ _)); refine blk_far ?_ NB158_168.out _; (with_reducible repeat (first | refine blk_drewN ?_ _ | refine blk_drew ?_ | refine blk_alloc ?_ _)); refine blk_far ?_ NB158_168.out _; (with_reducible repeat (first | refine blk_drewN ?_ _ | refine blk_drew ?_ | refine blk_alloc ?_ _)); exact BK158.out⟩
     have n1_ : Aside0 ((((w20.setCell ⟨gb168, 0, none⟩ (.int .i64 t164)).setCell ⟨gb168, 1, none⟩ (.int .i64 t165)).setCell ⟨gb168, 2, none⟩ (.int .i64 t166)).heap[gb168]? = some (.cells #[.int .i64 t164, .int .i64 t165, .int .i64 t166] 32 (0, 0))) := ⟨by (with_reducible repeat (first | refine blk_drewN ?_ _ | refine blk_drew ?_ | refine blk_alloc ?_ _)); refine blk_put (cs := #[.int .i64 t164, .int .i64 t165, .int .i64 0]) ?_ 2 _ rfl; (with_reducible repeat (first | refine blk_drewN ?_ _ | refine blk_drew ?_ | refine blk_alloc ?_ _)); refine blk_put (cs := #[.int .i64 t164, .int .i64 0, .int .i64 0]) ?_ 1 _ rfl; (with_reducible repeat (first | refine blk_drewN ?_ _ | refine blk_drew ?_ | refine blk_alloc ?_ _)); refine blk_put (cs := #[.int .i64 0, .int .i64 0, .int .i64 0]) ?_ 0 _ rfl; (with_reducible repeat (first | refine blk_drewN ?_ _ | refine blk_drew ?_ | refine blk_alloc ?_ _)); exact BK168.out⟩
     have n2_ : Aside0 (Below w.heap.size w (((w20.setCell ⟨gb168, 0, none⟩ (.int .i64 t164)).setCell ⟨gb168, 1, none⟩ (.int .i64 t165)).setCell ⟨gb168, 2, none⟩ (.int .i64 t166))) := ⟨by repeat (first | (with_reducible first | exact HB.out | apply below_alloc | apply pw_below_drewN | apply below_drew1 | refine below_set ?_ GE158.out | refine below_set ?_ GE168.out) | exact HB.out)⟩
     (try clear BK158)
     (try clear BK168)
     (try clear HB)
     generalize (((w20.setCell ⟨gb168, 0, none⟩ (.int .i64 t164)).setCell ⟨gb168, 1, none⟩ (.int .i64 t165)).setCell ⟨gb168, 2, none⟩ (.int .i64 t166)) = w65 at n0_ n1_ n2_ ⊢
     have BK158 := n0_
     have BK168 := n1_
     have HB := n2_
     clear n0_ n1_ n2_
     (try (rw [drewN_self w65]; generalize hq_ : World.drewN w65 _ = w65; have n0_ : Aside0 (w65.heap[gb158]? = some (.cells #[.int .i64 a0_0, .int .i64 a0_1, .int .i64 a0_2] 32 (0, 0))) := ⟨by rw [← hq_]; exact (by (with_reducible repeat (first | refine blk_drewN ?_ _ | refine blk_drew ?_ | refine blk_alloc ?_ _)); exact BK158.out)⟩; have n1_ : Aside0 (w65.heap[gb168]? = some (.cells #[.int .i64 t164, .int .i64 t165, .int .i64 t166] 32 (0, 0))) := ⟨by rw [← hq_]; exact (by (with_reducible repeat (first | refine blk_drewN ?_ _ | refine blk_drew ?_ | refine blk_alloc ?_ _)); exact BK168.out)⟩; have n2_ : Aside0 (Below w.heap.size w w65) := ⟨by rw [← hq_]; exact (by repeat (first | (with_reducible first | exact HB.out | apply below_alloc | apply pw_below_drewN | apply below_drew1 | refine below_set ?_ GE158.out | refine below_set ?_ GE168.out) | exact HB.out))⟩; clear BK158 BK168 HB hq_; have BK158 := n0_; have BK168 := n1_; have HB := n2_; clear n0_ n1_ n2_))
     have n0_ := Aside0.mk (blk_drew BK158.out)
     have n1_ := Aside0.mk (blk_drew BK168.out)
     have n2_ := Aside0.mk (below_drew1 HB.out)
     clear BK158
     clear BK168
     clear HB
     have BK158 := n0_
     have BK168 := n1_
     have HB := n2_
     clear n0_ n1_ n2_
     have CA24 := fun W hG_ => pledgesee_Is.calls t161 t163 false W hG_ A24.out
     try simp only [errW_none, errW_some] at CA24
     refine start_ (n := 56) (S := fun w' => True) (ds := []) zDS_m0 (by kernel_rfl) rfl rfl trivial (fun hHeld => ?_); refine with_tabW pledgelaw4_DaySays.tab10 pledgelaw4_DaySays.bits10 (fun HT_ HW_ => ?_)
     generalize w65.drew = w66 at BK158 BK168 HB hHeld ⊢
     refine zDS_u 0 66 zDS_m1 HT_ (v := ?_) (a' := ?_) rfl rfl (by kernel_rfl) (fun _ _ _ h => h) (Or.inl ⟨by rfl, ?_⟩) ?_ ?_
     rotate_left
     · intro w'; go_simp; with_reducible rfl
     rotate_left
     · simp only [Act.put, zDS_q1, zDS_q2, zDS_q3, i64_w, i32_w]; rfl
     refine zDS_u 1 67 zDS_m2 HT_ (v := ?_) (a' := ?_) rfl rfl (by kernel_rfl) (fun _ _ _ h => h) (Or.inl ⟨by rfl, ?_⟩) ?_ ?_
     rotate_left
     · intro w'; go_simp; with_reducible rfl
     rotate_left
     · simp only [Act.put, zDS_q1, zDS_q2, zDS_q3, i64_w, i32_w]; rfl
     refine zDS_u 2 68 zDS_m3 HT_ (v := ?_) (a' := ?_) rfl rfl (by kernel_rfl) (fun _ _ _ h => h) (Or.inl ⟨by rfl, ?_⟩) ?_ ?_
     rotate_left
     · intro w'; go_simp; with_reducible rfl
     rotate_left
     · simp only [Act.put, zDS_q1, zDS_q2, zDS_q3, i64_w, i32_w]; rfl
     refine zDS_u 3 69 zDS_m4 HT_ (v := ?_) (a' := ?_) rfl rfl (by kernel_rfl) (fun _ _ _ h => h) (Or.inl ⟨by rfl, ?_⟩) ?_ ?_
     rotate_left
     · intro w'; go_simp; with_reducible rfl
     rotate_left
     · simp only [Act.put, zDS_q1, zDS_q2, zDS_q3, i64_w, i32_w]; rfl
     refine zDS_u 4 70 zDS_m5 HT_ (v := ?_) (a' := ?_) rfl rfl (by kernel_rfl) (fun _ _ _ h => h) (Or.inl ⟨by rfl, ?_⟩) ?_ ?_
     rotate_left
     · intro w'; go_simp; with_reducible rfl
     rotate_left
     · simp only [Act.put, zDS_q1, zDS_q2, zDS_q3, i64_w, i32_w]; rfl
     refine zDS_u 5 71 zDS_m6 HT_ (v := ?_) (a' := ?_) rfl rfl (by kernel_rfl) (fun _ _ _ h => h) (Or.inl ⟨by rfl, ?_⟩) ?_ ?_
     rotate_left
     · intro w'; go_simp; with_reducible rfl
     rotate_left
     · simp only [Act.put, zDS_q1, zDS_q2, zDS_q3, i64_w, i32_w]; rfl
     refine one_ (i := 6) (N := some 72) zDS_m7 rfl rfl (one_of HT_.out (by kernel_rfl)) (by decide) (fun K hK => ?_)
     refine goes_ Tryd.func14 (by kernel_rfl) rfl #[errW t161, .int .i64 t163] (by rfl) rfl rfl (by (try simp only [List.map_toArray, List.map_cons, List.map_nil]); first | done | rfl | (simp only [List.length_drop, List.length_take]; rfl)) ?_
     with_reducible refine (CA24 _ ?side1).mono ?_
     (case side1 => exact GlobOK.below HG.out (by repeat (first | (with_reducible first | exact HB.out | apply below_alloc | apply pw_below_drewN | apply below_drew1 | refine below_set ?_ GE158.out | refine below_set ?_ GE168.out) | exact HB.out)))
     rintro e w67 ⟨rfl, hb⟩
     refine ⟨_, rfl, ?_⟩
     have n0_ := Aside0.mk (blk_below (g := gb158) (o := .cells #[.int .i64 a0_0, .int .i64 a0_1, .int .i64 a0_2] 32 (0, 0)) (by (with_reducible repeat (first | refine blk_drewN ?_ _ | refine blk_drew ?_ | refine blk_alloc ?_ _)); exact BK158.out) hb)
     have n1_ := Aside0.mk (blk_below (g := gb168) (o := .cells #[.int .i64 t164, .int .i64 t165, .int .i64 t166] 32 (0, 0)) (by (with_reducible repeat (first | refine blk_drewN ?_ _ | refine blk_drew ?_ | refine blk_alloc ?_ _)); exact BK168.out) hb)
     have n2_ := Aside0.mk (below_step (by repeat (first | (with_reducible first | exact HB.out | apply below_alloc | apply pw_below_drewN | apply below_drew1 | refine below_set ?_ GE158.out | refine below_set ?_ GE168.out) | exact HB.out)) hb)
     clear BK158
     clear BK168
     clear HB
     have BK158 := n0_
     have BK168 := n1_
     have HB := n2_
     clear n0_ n1_ n2_
     (try clear hb)
     (try clear hb2)
     (try clear hk)
     (try clear hi)
     refine hK.out _ _ trivial (fun hHeld => ?_)
     clear hK K
     refine norm_ (a' := ?_) ?_ ?_
     rotate_left
     ·
      show Act.put _ (some 72) _ = _
      simp only [Act.put, zDS_q1, zDS_q2, zDS_q3, i64_w, i32_w]
      rfl
     refine zDS_u 7 73 zDS_m8 HT_ (v := ?_) (a' := ?_) rfl rfl (by kernel_rfl) (fun _ _ _ h => h) (Or.inl ⟨by rfl, ?_⟩) ?_ ?_
     rotate_left
     · intro w'; go_simp; with_reducible rfl
     rotate_left
     · simp only [Act.put, zDS_q1, zDS_q2, zDS_q3, i64_w, i32_w]; rfl
     refine zDS_u 8 74 zDS_m9 HT_ (v := ?_) (a' := ?_) rfl rfl (by kernel_rfl) (fun _ _ _ h => h) (Or.inl ⟨by rfl, ?_⟩) ?_ ?_
     rotate_left
     · intro w'; go_simp; with_reducible rfl
     rotate_left
     · simp only [Act.put, zDS_q1, zDS_q2, zDS_q3, i64_w, i32_w]; rfl
     refine zDS_u 9 75 zDS_m10 HT_ (v := ?_) (a' := ?_) rfl rfl (by kernel_rfl) (fun _ _ _ h => h) (Or.inl ⟨by rfl, ?_⟩) ?_ ?_
     rotate_left
     · intro w'; go_simp; with_reducible rfl
     rotate_left
     · simp only [Act.put, zDS_q1, zDS_q2, zDS_q3, i64_w, i32_w]; rfl
     refine zDS_u 10 76 zDS_m11 HT_ (v := undef) (a' := ?_) rfl rfl (by kernel_rfl) (fun _ _ _ h => h) (Or.inr ⟨by rfl, rfl⟩) ?_ ?_
     rotate_left
     · simp only [Act.put, zDS_q1, zDS_q2, zDS_q3, i64_w, i32_w]; rfl
     refine zDS_u 11 77 zDS_m64 HT_ (v := undef) (a' := ?_) rfl rfl (by kernel_rfl) (fun _ _ _ h => h) (Or.inr ⟨by rfl, rfl⟩) ?_ ?_
     rotate_left
     · simp only [Act.put, zDS_q1, zDS_q2, zDS_q3, i64_w, i32_w]; rfl
     refine zDS_u 12 78 zDS_m13 HT_ (v := undef) (a' := ?_) rfl rfl (by kernel_rfl) (fun _ _ _ h => h) (Or.inr ⟨by rfl, rfl⟩) ?_ ?_
     rotate_left
     · simp only [Act.put, zDS_q1, zDS_q2, zDS_q3, i64_w, i32_w]; rfl
     refine zDS_u 13 79 zDS_m14 HT_ (v := undef) (a' := ?_) rfl rfl (by kernel_rfl) (fun _ _ _ h => h) (Or.inr ⟨by rfl, rfl⟩) ?_ ?_
     rotate_left
     · simp only [Act.put, zDS_q1, zDS_q2, zDS_q3, i64_w, i32_w]; rfl
     refine zDS_u 14 80 zDS_m15 HT_ (v := ?_) (a' := ?_) rfl rfl (by kernel_rfl) (fun _ _ _ h => h) (Or.inl ⟨by rfl, ?_⟩) ?_ ?_
     rotate_left
     · intro w'; go_simp; with_reducible rfl
     rotate_left
     · simp only [Act.put, zDS_q1, zDS_q2, zDS_q3, i64_w, i32_w]; rfl
     refine zDS_u 15 81 zDS_m16 HT_ (v := ?_) (a' := ?_) rfl rfl (by kernel_rfl) (fun _ _ _ h => h) (Or.inl ⟨by rfl, ?_⟩) ?_ ?_
     rotate_left
     · intro w'; go_simp; with_reducible rfl
     rotate_left
     · simp only [Act.put, zDS_q1, zDS_q2, zDS_q3, i64_w, i32_w]; rfl
     refine zDS_u 16 82 zDS_m17 HT_ (v := undef) (a' := ?_) rfl rfl (by kernel_rfl) (fun _ _ _ h => h) (Or.inr ⟨by rfl, rfl⟩) ?_ ?_
     rotate_left
     · simp only [Act.put, zDS_q1, zDS_q2, zDS_q3, i64_w, i32_w]; rfl
     refine zDS_u 17 83 zDS_m63 HT_ (v := undef) (a' := ?_) rfl rfl (by kernel_rfl) (fun _ _ _ h => h) (Or.inr ⟨by rfl, rfl⟩) ?_ ?_
     rotate_left
     · simp only [Act.put, zDS_q1, zDS_q2, zDS_q3, i64_w, i32_w]; rfl
     refine zDS_u 18 84 zDS_m19 HT_ (v := undef) (a' := ?_) rfl rfl (by kernel_rfl) (fun _ _ _ h => h) (Or.inr ⟨by rfl, rfl⟩) ?_ ?_
     rotate_left
     · simp only [Act.put, zDS_q1, zDS_q2, zDS_q3, i64_w, i32_w]; rfl
     refine zDS_u 19 85 zDS_m20 HT_ (v := undef) (a' := ?_) rfl rfl (by kernel_rfl) (fun _ _ _ h => h) (Or.inr ⟨by rfl, rfl⟩) ?_ ?_
     rotate_left
     · simp only [Act.put, zDS_q1, zDS_q2, zDS_q3, i64_w, i32_w]; rfl
     refine zDS_u 20 86 zDS_m21 HT_ (v := ?_) (a' := ?_) rfl rfl (by kernel_rfl) (fun _ _ _ h => h) (Or.inl ⟨by rfl, ?_⟩) ?_ ?_
     rotate_left
     · intro w'; go_simp; with_reducible rfl
     rotate_left
     · simp only [Act.put, zDS_q1, zDS_q2, zDS_q3, i64_w, i32_w]; rfl
     refine zDS_u 21 87 zDS_m22 HT_ (v := ?_) (a' := ?_) rfl rfl (by kernel_rfl) (fun _ _ _ h => h) (Or.inl ⟨by rfl, ?_⟩) ?_ ?_
     rotate_left
     · intro w'; go_simp; with_reducible rfl
     rotate_left
     · simp only [Act.put, zDS_q1, zDS_q2, zDS_q3, i64_w, i32_w]; rfl
     refine zDS_u 22 88 zDS_m23 HT_ (v := undef) (a' := ?_) rfl rfl (by kernel_rfl) (fun _ _ _ h => h) (Or.inr ⟨by rfl, rfl⟩) ?_ ?_
     rotate_left
     · simp only [Act.put, zDS_q1, zDS_q2, zDS_q3, i64_w, i32_w]; rfl
     refine zDS_u 23 89 zDS_m62 HT_ (v := undef) (a' := ?_) rfl rfl (by kernel_rfl) (fun _ _ _ h => h) (Or.inr ⟨by rfl, rfl⟩) ?_ ?_
     rotate_left
     · simp only [Act.put, zDS_q1, zDS_q2, zDS_q3, i64_w, i32_w]; rfl
     refine zDS_u 24 90 zDS_m25 HT_ (v := undef) (a' := ?_) rfl rfl (by kernel_rfl) (fun _ _ _ h => h) (Or.inr ⟨by rfl, rfl⟩) ?_ ?_
     rotate_left
     · simp only [Act.put, zDS_q1, zDS_q2, zDS_q3, i64_w, i32_w]; rfl
     refine zDS_u 25 91 zDS_m26 HT_ (v := undef) (a' := ?_) rfl rfl (by kernel_rfl) (fun _ _ _ h => h) (Or.inr ⟨by rfl, rfl⟩) ?_ ?_
     rotate_left
     · simp only [Act.put, zDS_q1, zDS_q2, zDS_q3, i64_w, i32_w]; rfl
     refine zDS_u 26 92 zDS_m27 HT_ (v := ?_) (a' := ?_) rfl rfl (by kernel_rfl) (fun _ _ _ h => h) (Or.inl ⟨by rfl, ?_⟩) ?_ ?_
     rotate_left
     · intro w'; go_simp; with_reducible rfl
     rotate_left
     · simp only [Act.put, zDS_q1, zDS_q2, zDS_q3, i64_w, i32_w]; rfl
     refine zDS_u 27 93 zDS_m28 HT_ (v := ?_) (a' := ?_) rfl rfl (by kernel_rfl) (fun _ _ _ h => h) (Or.inl ⟨by rfl, ?_⟩) ?_ ?_
     rotate_left
     · intro w'; go_simp; with_reducible rfl
     rotate_left
     · simp only [Act.put, zDS_q1, zDS_q2, zDS_q3, i64_w, i32_w]; rfl
     refine zDS_u 28 94 zDS_m29 HT_ (v := undef) (a' := ?_) rfl rfl (by kernel_rfl) (fun _ _ _ h => h) (Or.inr ⟨by rfl, rfl⟩) ?_ ?_
     rotate_left
     · simp only [Act.put, zDS_q1, zDS_q2, zDS_q3, i64_w, i32_w]; rfl
     refine zDS_u 29 95 zDS_m30 HT_ (v := undef) (a' := ?_) rfl rfl (by kernel_rfl) (fun _ _ _ h => h) (Or.inr ⟨by rfl, rfl⟩) ?_ ?_
     rotate_left
     · simp only [Act.put, zDS_q1, zDS_q2, zDS_q3, i64_w, i32_w]; rfl
     refine zDS_u 30 96 zDS_m31 HT_ (v := undef) (a' := ?_) rfl rfl (by kernel_rfl) (fun _ _ _ h => h) (Or.inr ⟨by rfl, rfl⟩) ?_ ?_
     rotate_left
     · simp only [Act.put, zDS_q1, zDS_q2, zDS_q3, i64_w, i32_w]; rfl
     refine zDS_u 31 97 zDS_m32 HT_ (v := undef) (a' := ?_) rfl rfl (by kernel_rfl) (fun _ _ _ h => h) (Or.inr ⟨by rfl, rfl⟩) ?_ ?_
     rotate_left
     · simp only [Act.put, zDS_q1, zDS_q2, zDS_q3, i64_w, i32_w]; rfl
     refine zDS_u 32 98 zDS_m33 HT_ (v := ?_) (a' := ?_) rfl rfl (by kernel_rfl) (fun _ _ _ h => h) (Or.inl ⟨by rfl, ?_⟩) ?_ ?_
     rotate_left
     · intro w'; go_simp; with_reducible rfl
     rotate_left
     · simp only [Act.put, zDS_q1, zDS_q2, zDS_q3, i64_w, i32_w]; rfl
     refine zDS_u 33 99 zDS_m34 HT_ (v := ?_) (a' := ?_) rfl rfl (by kernel_rfl) (fun _ _ _ h => h) (Or.inl ⟨by rfl, ?_⟩) ?_ ?_
     rotate_left
     · intro w'; go_simp; with_reducible rfl
     rotate_left
     · simp only [Act.put, zDS_q1, zDS_q2, zDS_q3, i64_w, i32_w]; rfl
     refine zDS_u 34 100 zDS_m35 HT_ (v := undef) (a' := ?_) rfl rfl (by kernel_rfl) (fun _ _ _ h => h) (Or.inr ⟨by rfl, rfl⟩) ?_ ?_
     rotate_left
     · simp only [Act.put, zDS_q1, zDS_q2, zDS_q3, i64_w, i32_w]; rfl
     refine zDS_u 35 101 zDS_m59 HT_ (v := undef) (a' := ?_) rfl rfl (by kernel_rfl) (fun _ _ _ h => h) (Or.inr ⟨by rfl, rfl⟩) ?_ ?_
     rotate_left
     · simp only [Act.put, zDS_q1, zDS_q2, zDS_q3, i64_w, i32_w]; rfl
     refine zDS_u 36 102 zDS_m60 HT_ (v := undef) (a' := ?_) rfl rfl (by kernel_rfl) (fun _ _ _ h => h) (Or.inr ⟨by rfl, rfl⟩) ?_ ?_
     rotate_left
     · simp only [Act.put, zDS_q1, zDS_q2, zDS_q3, i64_w, i32_w]; rfl
     refine zDS_u 37 103 zDS_m61 HT_ (v := undef) (a' := ?_) rfl rfl (by kernel_rfl) (fun _ _ _ h => h) (Or.inr ⟨by rfl, rfl⟩) ?_ ?_
     rotate_left
     · simp only [Act.put, zDS_q1, zDS_q2, zDS_q3, i64_w, i32_w]; rfl
     refine zDS_u 38 104 zDS_m39 HT_ (v := undef) (a' := ?_) rfl rfl (by kernel_rfl) (fun _ _ _ h => h) (Or.inr ⟨by rfl, rfl⟩) ?_ ?_
     rotate_left
     · simp only [Act.put, zDS_q1, zDS_q2, zDS_q3, i64_w, i32_w]; rfl
     refine zDS_u 39 105 zDS_m40 HT_ (v := undef) (a' := ?_) rfl rfl (by kernel_rfl) (fun _ _ _ h => h) (Or.inr ⟨by rfl, rfl⟩) ?_ ?_
     rotate_left
     · simp only [Act.put, zDS_q1, zDS_q2, zDS_q3, i64_w, i32_w]; rfl
     refine zDS_u 40 106 zDS_m41 HT_ (v := undef) (a' := ?_) rfl rfl (by kernel_rfl) (fun _ _ _ h => h) (Or.inr ⟨by rfl, rfl⟩) ?_ ?_
     rotate_left
     · simp only [Act.put, zDS_q1, zDS_q2, zDS_q3, i64_w, i32_w]; rfl
     refine zDS_u 41 107 zDS_m42 HT_ (v := ?_) (a' := ?_) rfl rfl (by kernel_rfl) (fun _ _ _ h => h) (Or.inl ⟨by rfl, ?_⟩) ?_ ?_
     rotate_left
     · intro w'; go_simp; with_reducible rfl
     rotate_left
     · simp only [Act.put, zDS_q1, zDS_q2, zDS_q3, i64_w, i32_w]; rfl
     refine zDS_u 42 108 zDS_m43 HT_ (v := ?_) (a' := ?_) rfl rfl (by kernel_rfl) (fun _ _ _ h => h) (Or.inl ⟨by rfl, ?_⟩) ?_ ?_
     rotate_left
     · intro w'; go_simp; with_reducible rfl
     rotate_left
     · simp only [Act.put, zDS_q1, zDS_q2, zDS_q3, i64_w, i32_w]; rfl
     refine zDS_u 43 109 zDS_m44 HT_ (v := undef) (a' := ?_) rfl rfl (by kernel_rfl) (fun _ _ _ h => h) (Or.inr ⟨by rfl, rfl⟩) ?_ ?_
     rotate_left
     · simp only [Act.put, zDS_q1, zDS_q2, zDS_q3, i64_w, i32_w]; rfl
     refine zDS_u 44 110 zDS_m45 HT_ (v := undef) (a' := ?_) rfl rfl (by kernel_rfl) (fun _ _ _ h => h) (Or.inr ⟨by rfl, rfl⟩) ?_ ?_
     rotate_left
     · simp only [Act.put, zDS_q1, zDS_q2, zDS_q3, i64_w, i32_w]; rfl
     refine zDS_u 45 111 zDS_m46 HT_ (v := undef) (a' := ?_) rfl rfl (by kernel_rfl) (fun _ _ _ h => h) (Or.inr ⟨by rfl, rfl⟩) ?_ ?_
     rotate_left
     · simp only [Act.put, zDS_q1, zDS_q2, zDS_q3, i64_w, i32_w]; rfl
     refine zDS_u 46 112 zDS_m47 HT_ (v := undef) (a' := ?_) rfl rfl (by kernel_rfl) (fun _ _ _ h => h) (Or.inr ⟨by rfl, rfl⟩) ?_ ?_
     rotate_left
     · simp only [Act.put, zDS_q1, zDS_q2, zDS_q3, i64_w, i32_w]; rfl
     refine zDS_u 47 113 zDS_m48 HT_ (v := undef) (a' := ?_) rfl rfl (by kernel_rfl) (fun _ _ _ h => h) (Or.inr ⟨by rfl, rfl⟩) ?_ ?_
     rotate_left
     · simp only [Act.put, zDS_q1, zDS_q2, zDS_q3, i64_w, i32_w]; rfl
     refine zDS_u 48 114 zDS_m49 HT_ (v := ?_) (a' := ?_) rfl rfl (by kernel_rfl) (fun _ _ _ h => h) (Or.inl ⟨by rfl, ?_⟩) ?_ ?_
     rotate_left
     · intro w'; go_simp; with_reducible rfl
     rotate_left
     · simp only [Act.put, zDS_q1, zDS_q2, zDS_q3, i64_w, i32_w]; rfl
     refine zDS_u 49 115 zDS_m50 HT_ (v := ?_) (a' := ?_) rfl rfl (by kernel_rfl) (fun _ _ _ h => h) (Or.inl ⟨by rfl, ?_⟩) ?_ ?_
     rotate_left
     · intro w'; go_simp; with_reducible rfl
     rotate_left
     · simp only [Act.put, zDS_q1, zDS_q2, zDS_q3, i64_w, i32_w]; rfl
     refine zDS_u 50 116 zDS_m51 HT_ (v := undef) (a' := ?_) rfl rfl (by kernel_rfl) (fun _ _ _ h => h) (Or.inr ⟨by rfl, rfl⟩) ?_ ?_
     rotate_left
     · simp only [Act.put, zDS_q1, zDS_q2, zDS_q3, i64_w, i32_w]; rfl
     refine zDS_u 51 117 zDS_m52 HT_ (v := undef) (a' := ?_) rfl rfl (by kernel_rfl) (fun _ _ _ h => h) (Or.inr ⟨by rfl, rfl⟩) ?_ ?_
     rotate_left
     · simp only [Act.put, zDS_q1, zDS_q2, zDS_q3, i64_w, i32_w]; rfl
     refine zDS_u 52 118 zDS_m53 HT_ (v := undef) (a' := ?_) rfl rfl (by kernel_rfl) (fun _ _ _ h => h) (Or.inr ⟨by rfl, rfl⟩) ?_ ?_
     rotate_left
     · simp only [Act.put, zDS_q1, zDS_q2, zDS_q3, i64_w, i32_w]; rfl
     refine zDS_u 53 119 zDS_m54 HT_ (v := undef) (a' := ?_) rfl rfl (by kernel_rfl) (fun _ _ _ h => h) (Or.inr ⟨by rfl, rfl⟩) ?_ ?_
     rotate_left
     · simp only [Act.put, zDS_q1, zDS_q2, zDS_q3, i64_w, i32_w]; rfl
     refine zDS_u 54 120 zDS_m55 HT_ (v := undef) (a' := ?_) rfl rfl (by kernel_rfl) (fun _ _ _ h => h) (Or.inr ⟨by rfl, rfl⟩) ?_ ?_
     rotate_left
     · simp only [Act.put, zDS_q1, zDS_q2, zDS_q3, i64_w, i32_w]; rfl
     refine zDS_u 55 121 zDS_m56 HT_ (v := ?_) (a' := ?_) rfl rfl (by kernel_rfl) (fun _ _ _ h => h) (Or.inl ⟨by rfl, ?_⟩) ?_ ?_
     rotate_left
     · intro w'; go_simp; with_reducible rfl
     rotate_left
     · simp only [Act.put, zDS_q1, zDS_q2, zDS_q3, i64_w, i32_w]; rfl
     refine done_ (done_of HT_.out (by kernel_rfl)) ?_
     try go_wp2
     go_meet
     case rel => exact ⟨_, (true), (by first | rfl | (simp; done) | (simp [*]; done)), H', ⟨by first | omega | exact Nat.le_refl _⟩, ⟨by (with_reducible repeat (first | refine blk_drewN ?_ _ | refine blk_drew ?_ | refine blk_alloc ?_ _)); exact BK158.out⟩, ⟨by (with_reducible repeat (first | refine blk_drewN ?_ _ | refine blk_drew ?_ | refine blk_alloc ?_ _)); exact BK168.out⟩, ⟨by repeat (first | (with_reducible first | exact HB.out | apply below_alloc | apply pw_below_drewN | apply below_drew1 | refine below_set ?_ GE158.out | refine below_set ?_ GE168.out) | exact HB.out)⟩⟩
   ·
    rw [if_neg c23] at H
    have c23b0 : (t160 == t162) = false := beq_eq_false_iff_ne.mpr c23
    have c23b1 : (t160 != t162) = true := bne_iff_ne.mpr c23
    (first | rw [c23b0] | (simp only [i64_w, i32_w]; rw [c23b0]) | skip)
    have H' := Aside0.mk H
    clear H
    try go_wp2
    have n0_ : Aside0 ((((w20.setCell ⟨gb168, 0, none⟩ (.int .i64 t164)).setCell ⟨gb168, 1, none⟩ (.int .i64 t165)).setCell ⟨gb168, 2, none⟩ (.int .i64 t166)).heap[gb158]? = some (.cells #[.int .i64 a0_0, .int .i64 a0_1, .int .i64 a0_2] 32 (0, 0))) := ⟨by (with_reducible repeat (first | refine blk_drewN ?_ _ | refine blk_drew ?_ | refine blk_alloc ?_ _)); refine blk_far ?_ NB158_168.out _; (with_reducible repeat (first | refine blk_drewN ?_ _ | refine blk_drew ?_ | refine blk_alloc ?_ _)); refine blk_far ?_ NB158_168.out _; (with_reducible repeat (first | refine blk_drewN ?_ _ | refine blk_drew ?_ | refine blk_alloc ?_ _)); refine blk_far ?_ NB158_168.out _; (with_reducible repeat (first | refine blk_drewN ?_ _ | refine blk_drew ?_ | refine blk_alloc ?_ _)); exact BK158.out⟩
    have n1_ : Aside0 ((((w20.setCell ⟨gb168, 0, none⟩ (.int .i64 t164)).setCell ⟨gb168, 1, none⟩ (.int .i64 t165)).setCell ⟨gb168, 2, none⟩ (.int .i64 t166)).heap[gb168]? = some (.cells #[.int .i64 t164, .int .i64 t165, .int .i64 t166] 32 (0, 0))) := ⟨by (with_reducible repeat (first | refine blk_drewN ?_ _ | refine blk_drew ?_ | refine blk_alloc ?_ _)); refine blk_put (cs := #[.int .i64 t164, .int .i64 t165, .int .i64 0]) ?_ 2 _ rfl; (with_reducible repeat (first | refine blk_drewN ?_ _ | refine blk_drew ?_ | refine blk_alloc ?_ _)); refine blk_put (cs := #[.int .i64 t164, .int .i64 0, .int .i64 0]) ?_ 1 _ rfl; (with_reducible repeat (first | refine blk_drewN ?_ _ | refine blk_drew ?_ | refine blk_alloc ?_ _)); refine blk_put (cs := #[.int .i64 0, .int .i64 0, .int .i64 0]) ?_ 0 _ rfl; (with_reducible repeat (first | refine blk_drewN ?_ _ | refine blk_drew ?_ | refine blk_alloc ?_ _)); exact BK168.out⟩
    have n2_ : Aside0 (Below w.heap.size w (((w20.setCell ⟨gb168, 0, none⟩ (.int .i64 t164)).setCell ⟨gb168, 1, none⟩ (.int .i64 t165)).setCell ⟨gb168, 2, none⟩ (.int .i64 t166))) := ⟨by repeat (first | (with_reducible first | exact HB.out | apply below_alloc | apply pw_below_drewN | apply below_drew1 | refine below_set ?_ GE158.out | refine below_set ?_ GE168.out) | exact HB.out)⟩
    (try clear BK158)
    (try clear BK168)
    (try clear HB)
    generalize (((w20.setCell ⟨gb168, 0, none⟩ (.int .i64 t164)).setCell ⟨gb168, 1, none⟩ (.int .i64 t165)).setCell ⟨gb168, 2, none⟩ (.int .i64 t166)) = w68 at n0_ n1_ n2_ ⊢
    have BK158 := n0_
    have BK168 := n1_
    have HB := n2_
    clear n0_ n1_ n2_
    (try (rw [drewN_self w68]; generalize hq_ : World.drewN w68 _ = w68; have n0_ : Aside0 (w68.heap[gb158]? = some (.cells #[.int .i64 a0_0, .int .i64 a0_1, .int .i64 a0_2] 32 (0, 0))) := ⟨by rw [← hq_]; exact (by (with_reducible repeat (first | refine blk_drewN ?_ _ | refine blk_drew ?_ | refine blk_alloc ?_ _)); exact BK158.out)⟩; have n1_ : Aside0 (w68.heap[gb168]? = some (.cells #[.int .i64 t164, .int .i64 t165, .int .i64 t166] 32 (0, 0))) := ⟨by rw [← hq_]; exact (by (with_reducible repeat (first | refine blk_drewN ?_ _ | refine blk_drew ?_ | refine blk_alloc ?_ _)); exact BK168.out)⟩; have n2_ : Aside0 (Below w.heap.size w w68) := ⟨by rw [← hq_]; exact (by repeat (first | (with_reducible first | exact HB.out | apply below_alloc | apply pw_below_drewN | apply below_drew1 | refine below_set ?_ GE158.out | refine below_set ?_ GE168.out) | exact HB.out))⟩; clear BK158 BK168 HB hq_; have BK158 := n0_; have BK168 := n1_; have HB := n2_; clear n0_ n1_ n2_))
    have n0_ := Aside0.mk (blk_drew BK158.out)
    have n1_ := Aside0.mk (blk_drew BK168.out)
    have n2_ := Aside0.mk (below_drew1 HB.out)
    clear BK158
    clear BK168
    clear HB
    have BK158 := n0_
    have BK168 := n1_
    have HB := n2_
    clear n0_ n1_ n2_
    refine start_ (n := 56) (S := fun w' => True) (ds := []) zDS_m0 (by kernel_rfl) rfl rfl trivial (fun hHeld => ?_); refine with_tabW pledgelaw4_DaySays.tab10 pledgelaw4_DaySays.bits10 (fun HT_ HW_ => ?_)
    generalize w68.drew = w69 at BK158 BK168 HB hHeld ⊢
    refine zDS_u 0 66 zDS_m1 HT_ (v := ?_) (a' := ?_) rfl rfl (by kernel_rfl) (fun _ _ _ h => h) (Or.inl ⟨by rfl, ?_⟩) ?_ ?_
    rotate_left
    · intro w'; go_simp; with_reducible rfl
    rotate_left
    · simp only [Act.put, zDS_q1, zDS_q2, zDS_q3, i64_w, i32_w]; rfl
    refine zDS_u 1 67 zDS_m2 HT_ (v := ?_) (a' := ?_) rfl rfl (by kernel_rfl) (fun _ _ _ h => h) (Or.inl ⟨by rfl, ?_⟩) ?_ ?_
    rotate_left
    · intro w'; go_simp; with_reducible rfl
    rotate_left
    · simp only [Act.put, zDS_q1, zDS_q2, zDS_q3, i64_w, i32_w]; rfl
    refine zDS_u 2 68 zDS_m3 HT_ (v := ?_) (a' := ?_) rfl rfl (by kernel_rfl) (fun _ _ _ h => h) (Or.inl ⟨by rfl, ?_⟩) ?_ ?_
    rotate_left
    · intro w'; go_simp; with_reducible rfl
    rotate_left
    · simp only [Act.put, zDS_q1, zDS_q2, zDS_q3, i64_w, i32_w]; rfl
    refine zDS_u 3 69 zDS_m4 HT_ (v := ?_) (a' := ?_) rfl rfl (by kernel_rfl) (fun _ _ _ h => h) (Or.inl ⟨by rfl, ?_⟩) ?_ ?_
    rotate_left
    · intro w'; go_simp; with_reducible rfl
    rotate_left
    · simp only [Act.put, zDS_q1, zDS_q2, zDS_q3, i64_w, i32_w]; rfl
    refine zDS_u 4 70 zDS_m5 HT_ (v := undef) (a' := ?_) rfl rfl (by kernel_rfl) (fun _ _ _ h => h) (Or.inr ⟨by rfl, rfl⟩) ?_ ?_
    rotate_left
    · simp only [Act.put, zDS_q1, zDS_q2, zDS_q3, i64_w, i32_w]; rfl
    refine zDS_u 5 71 zDS_m6 HT_ (v := undef) (a' := ?_) rfl rfl (by kernel_rfl) (fun _ _ _ h => h) (Or.inr ⟨by rfl, rfl⟩) ?_ ?_
    rotate_left
    · simp only [Act.put, zDS_q1, zDS_q2, zDS_q3, i64_w, i32_w]; rfl
    refine zDS_u 6 72 zDS_m7 HT_ (v := undef) (a' := ?_) rfl rfl (by kernel_rfl) (fun _ _ _ h => h) (Or.inr ⟨by rfl, rfl⟩) ?_ ?_
    rotate_left
    · simp only [Act.put, zDS_q1, zDS_q2, zDS_q3, i64_w, i32_w]; rfl
    refine zDS_u 7 73 zDS_m8 HT_ (v := undef) (a' := ?_) rfl rfl (by kernel_rfl) (fun _ _ _ h => h) (Or.inr ⟨by rfl, rfl⟩) ?_ ?_
    rotate_left
    · simp only [Act.put, zDS_q1, zDS_q2, zDS_q3, i64_w, i32_w]; rfl
    refine zDS_u 8 74 zDS_m9 HT_ (v := ?_) (a' := ?_) rfl rfl (by kernel_rfl) (fun _ _ _ h => h) (Or.inl ⟨by rfl, ?_⟩) ?_ ?_
    rotate_left
    · intro w'; go_simp; with_reducible rfl
    rotate_left
    · simp only [Act.put, zDS_q1, zDS_q2, zDS_q3, i64_w, i32_w]; rfl
    refine zDS_u 9 75 zDS_m10 HT_ (v := ?_) (a' := ?_) rfl rfl (by kernel_rfl) (fun _ _ _ h => h) (Or.inl ⟨by rfl, ?_⟩) ?_ ?_
    rotate_left
    · intro w'; go_simp; with_reducible rfl
    rotate_left
    · simp only [Act.put, zDS_q1, zDS_q2, zDS_q3, i64_w, i32_w]; rfl
    refine zDS_u 10 76 zDS_m11 HT_ (v := undef) (a' := ?_) rfl rfl (by kernel_rfl) (fun _ _ _ h => h) (Or.inr ⟨by rfl, rfl⟩) ?_ ?_
    rotate_left
    · simp only [Act.put, zDS_q1, zDS_q2, zDS_q3, i64_w, i32_w]; rfl
    refine zDS_u 11 77 zDS_m64 HT_ (v := undef) (a' := ?_) rfl rfl (by kernel_rfl) (fun _ _ _ h => h) (Or.inr ⟨by rfl, rfl⟩) ?_ ?_
    rotate_left
    · simp only [Act.put, zDS_q1, zDS_q2, zDS_q3, i64_w, i32_w]; rfl
    refine zDS_u 12 78 zDS_m13 HT_ (v := undef) (a' := ?_) rfl rfl (by kernel_rfl) (fun _ _ _ h => h) (Or.inr ⟨by rfl, rfl⟩) ?_ ?_
    rotate_left
    · simp only [Act.put, zDS_q1, zDS_q2, zDS_q3, i64_w, i32_w]; rfl
    refine zDS_u 13 79 zDS_m14 HT_ (v := undef) (a' := ?_) rfl rfl (by kernel_rfl) (fun _ _ _ h => h) (Or.inr ⟨by rfl, rfl⟩) ?_ ?_
    rotate_left
    · simp only [Act.put, zDS_q1, zDS_q2, zDS_q3, i64_w, i32_w]; rfl
    refine zDS_u 14 80 zDS_m15 HT_ (v := ?_) (a' := ?_) rfl rfl (by kernel_rfl) (fun _ _ _ h => h) (Or.inl ⟨by rfl, ?_⟩) ?_ ?_
    rotate_left
    · intro w'; go_simp; with_reducible rfl
    rotate_left
    · simp only [Act.put, zDS_q1, zDS_q2, zDS_q3, i64_w, i32_w]; rfl
    refine zDS_u 15 81 zDS_m16 HT_ (v := ?_) (a' := ?_) rfl rfl (by kernel_rfl) (fun _ _ _ h => h) (Or.inl ⟨by rfl, ?_⟩) ?_ ?_
    rotate_left
    · intro w'; go_simp; with_reducible rfl
    rotate_left
    · simp only [Act.put, zDS_q1, zDS_q2, zDS_q3, i64_w, i32_w]; rfl
    refine zDS_u 16 82 zDS_m17 HT_ (v := undef) (a' := ?_) rfl rfl (by kernel_rfl) (fun _ _ _ h => h) (Or.inr ⟨by rfl, rfl⟩) ?_ ?_
    rotate_left
    · simp only [Act.put, zDS_q1, zDS_q2, zDS_q3, i64_w, i32_w]; rfl
    refine zDS_u 17 83 zDS_m63 HT_ (v := undef) (a' := ?_) rfl rfl (by kernel_rfl) (fun _ _ _ h => h) (Or.inr ⟨by rfl, rfl⟩) ?_ ?_
    rotate_left
    · simp only [Act.put, zDS_q1, zDS_q2, zDS_q3, i64_w, i32_w]; rfl
    refine zDS_u 18 84 zDS_m19 HT_ (v := undef) (a' := ?_) rfl rfl (by kernel_rfl) (fun _ _ _ h => h) (Or.inr ⟨by rfl, rfl⟩) ?_ ?_
    rotate_left
    · simp only [Act.put, zDS_q1, zDS_q2, zDS_q3, i64_w, i32_w]; rfl
    refine zDS_u 19 85 zDS_m20 HT_ (v := undef) (a' := ?_) rfl rfl (by kernel_rfl) (fun _ _ _ h => h) (Or.inr ⟨by rfl, rfl⟩) ?_ ?_
    rotate_left
    · simp only [Act.put, zDS_q1, zDS_q2, zDS_q3, i64_w, i32_w]; rfl
    refine zDS_u 20 86 zDS_m21 HT_ (v := ?_) (a' := ?_) rfl rfl (by kernel_rfl) (fun _ _ _ h => h) (Or.inl ⟨by rfl, ?_⟩) ?_ ?_
    rotate_left
    · intro w'; go_simp; with_reducible rfl
    rotate_left
    · simp only [Act.put, zDS_q1, zDS_q2, zDS_q3, i64_w, i32_w]; rfl
    refine zDS_u 21 87 zDS_m22 HT_ (v := ?_) (a' := ?_) rfl rfl (by kernel_rfl) (fun _ _ _ h => h) (Or.inl ⟨by rfl, ?_⟩) ?_ ?_
    rotate_left
    · intro w'; go_simp; with_reducible rfl
    rotate_left
    · simp only [Act.put, zDS_q1, zDS_q2, zDS_q3, i64_w, i32_w]; rfl
    refine zDS_u 22 88 zDS_m23 HT_ (v := undef) (a' := ?_) rfl rfl (by kernel_rfl) (fun _ _ _ h => h) (Or.inr ⟨by rfl, rfl⟩) ?_ ?_
    rotate_left
    · simp only [Act.put, zDS_q1, zDS_q2, zDS_q3, i64_w, i32_w]; rfl
    refine zDS_u 23 89 zDS_m62 HT_ (v := undef) (a' := ?_) rfl rfl (by kernel_rfl) (fun _ _ _ h => h) (Or.inr ⟨by rfl, rfl⟩) ?_ ?_
    rotate_left
    · simp only [Act.put, zDS_q1, zDS_q2, zDS_q3, i64_w, i32_w]; rfl
    refine zDS_u 24 90 zDS_m25 HT_ (v := undef) (a' := ?_) rfl rfl (by kernel_rfl) (fun _ _ _ h => h) (Or.inr ⟨by rfl, rfl⟩) ?_ ?_
    rotate_left
    · simp only [Act.put, zDS_q1, zDS_q2, zDS_q3, i64_w, i32_w]; rfl
    refine zDS_u 25 91 zDS_m26 HT_ (v := undef) (a' := ?_) rfl rfl (by kernel_rfl) (fun _ _ _ h => h) (Or.inr ⟨by rfl, rfl⟩) ?_ ?_
    rotate_left
    · simp only [Act.put, zDS_q1, zDS_q2, zDS_q3, i64_w, i32_w]; rfl
    refine zDS_u 26 92 zDS_m27 HT_ (v := ?_) (a' := ?_) rfl rfl (by kernel_rfl) (fun _ _ _ h => h) (Or.inl ⟨by rfl, ?_⟩) ?_ ?_
    rotate_left
    · intro w'; go_simp; with_reducible rfl
    rotate_left
    · simp only [Act.put, zDS_q1, zDS_q2, zDS_q3, i64_w, i32_w]; rfl
    refine zDS_u 27 93 zDS_m28 HT_ (v := ?_) (a' := ?_) rfl rfl (by kernel_rfl) (fun _ _ _ h => h) (Or.inl ⟨by rfl, ?_⟩) ?_ ?_
    rotate_left
    · intro w'; go_simp; with_reducible rfl
    rotate_left
    · simp only [Act.put, zDS_q1, zDS_q2, zDS_q3, i64_w, i32_w]; rfl
    refine zDS_u 28 94 zDS_m29 HT_ (v := undef) (a' := ?_) rfl rfl (by kernel_rfl) (fun _ _ _ h => h) (Or.inr ⟨by rfl, rfl⟩) ?_ ?_
    rotate_left
    · simp only [Act.put, zDS_q1, zDS_q2, zDS_q3, i64_w, i32_w]; rfl
    refine zDS_u 29 95 zDS_m30 HT_ (v := undef) (a' := ?_) rfl rfl (by kernel_rfl) (fun _ _ _ h => h) (Or.inr ⟨by rfl, rfl⟩) ?_ ?_
    rotate_left
    · simp only [Act.put, zDS_q1, zDS_q2, zDS_q3, i64_w, i32_w]; rfl
    refine zDS_u 30 96 zDS_m31 HT_ (v := undef) (a' := ?_) rfl rfl (by kernel_rfl) (fun _ _ _ h => h) (Or.inr ⟨by rfl, rfl⟩) ?_ ?_
    rotate_left
    · simp only [Act.put, zDS_q1, zDS_q2, zDS_q3, i64_w, i32_w]; rfl
    refine zDS_u 31 97 zDS_m32 HT_ (v := undef) (a' := ?_) rfl rfl (by kernel_rfl) (fun _ _ _ h => h) (Or.inr ⟨by rfl, rfl⟩) ?_ ?_
    rotate_left
    · simp only [Act.put, zDS_q1, zDS_q2, zDS_q3, i64_w, i32_w]; rfl
    refine zDS_u 32 98 zDS_m33 HT_ (v := ?_) (a' := ?_) rfl rfl (by kernel_rfl) (fun _ _ _ h => h) (Or.inl ⟨by rfl, ?_⟩) ?_ ?_
    rotate_left
    · intro w'; go_simp; with_reducible rfl
    rotate_left
    · simp only [Act.put, zDS_q1, zDS_q2, zDS_q3, i64_w, i32_w]; rfl
    refine zDS_u 33 99 zDS_m34 HT_ (v := ?_) (a' := ?_) rfl rfl (by kernel_rfl) (fun _ _ _ h => h) (Or.inl ⟨by rfl, ?_⟩) ?_ ?_
    rotate_left
    · intro w'; go_simp; with_reducible rfl
    rotate_left
    · simp only [Act.put, zDS_q1, zDS_q2, zDS_q3, i64_w, i32_w]; rfl
    refine zDS_u 34 100 zDS_m35 HT_ (v := undef) (a' := ?_) rfl rfl (by kernel_rfl) (fun _ _ _ h => h) (Or.inr ⟨by rfl, rfl⟩) ?_ ?_
    rotate_left
    · simp only [Act.put, zDS_q1, zDS_q2, zDS_q3, i64_w, i32_w]; rfl
    refine zDS_u 35 101 zDS_m59 HT_ (v := undef) (a' := ?_) rfl rfl (by kernel_rfl) (fun _ _ _ h => h) (Or.inr ⟨by rfl, rfl⟩) ?_ ?_
    rotate_left
    · simp only [Act.put, zDS_q1, zDS_q2, zDS_q3, i64_w, i32_w]; rfl
    refine zDS_u 36 102 zDS_m60 HT_ (v := undef) (a' := ?_) rfl rfl (by kernel_rfl) (fun _ _ _ h => h) (Or.inr ⟨by rfl, rfl⟩) ?_ ?_
    rotate_left
    · simp only [Act.put, zDS_q1, zDS_q2, zDS_q3, i64_w, i32_w]; rfl
    refine zDS_u 37 103 zDS_m61 HT_ (v := undef) (a' := ?_) rfl rfl (by kernel_rfl) (fun _ _ _ h => h) (Or.inr ⟨by rfl, rfl⟩) ?_ ?_
    rotate_left
    · simp only [Act.put, zDS_q1, zDS_q2, zDS_q3, i64_w, i32_w]; rfl
    refine zDS_u 38 104 zDS_m39 HT_ (v := undef) (a' := ?_) rfl rfl (by kernel_rfl) (fun _ _ _ h => h) (Or.inr ⟨by rfl, rfl⟩) ?_ ?_
    rotate_left
    · simp only [Act.put, zDS_q1, zDS_q2, zDS_q3, i64_w, i32_w]; rfl
    refine zDS_u 39 105 zDS_m40 HT_ (v := undef) (a' := ?_) rfl rfl (by kernel_rfl) (fun _ _ _ h => h) (Or.inr ⟨by rfl, rfl⟩) ?_ ?_
    rotate_left
    · simp only [Act.put, zDS_q1, zDS_q2, zDS_q3, i64_w, i32_w]; rfl
    refine zDS_u 40 106 zDS_m41 HT_ (v := undef) (a' := ?_) rfl rfl (by kernel_rfl) (fun _ _ _ h => h) (Or.inr ⟨by rfl, rfl⟩) ?_ ?_
    rotate_left
    · simp only [Act.put, zDS_q1, zDS_q2, zDS_q3, i64_w, i32_w]; rfl
    refine zDS_u 41 107 zDS_m42 HT_ (v := ?_) (a' := ?_) rfl rfl (by kernel_rfl) (fun _ _ _ h => h) (Or.inl ⟨by rfl, ?_⟩) ?_ ?_
    rotate_left
    · intro w'; go_simp; with_reducible rfl
    rotate_left
    · simp only [Act.put, zDS_q1, zDS_q2, zDS_q3, i64_w, i32_w]; rfl
    refine zDS_u 42 108 zDS_m43 HT_ (v := ?_) (a' := ?_) rfl rfl (by kernel_rfl) (fun _ _ _ h => h) (Or.inl ⟨by rfl, ?_⟩) ?_ ?_
    rotate_left
    · intro w'; go_simp; with_reducible rfl
    rotate_left
    · simp only [Act.put, zDS_q1, zDS_q2, zDS_q3, i64_w, i32_w]; rfl
    refine zDS_u 43 109 zDS_m44 HT_ (v := undef) (a' := ?_) rfl rfl (by kernel_rfl) (fun _ _ _ h => h) (Or.inr ⟨by rfl, rfl⟩) ?_ ?_
    rotate_left
    · simp only [Act.put, zDS_q1, zDS_q2, zDS_q3, i64_w, i32_w]; rfl
    refine zDS_u 44 110 zDS_m45 HT_ (v := undef) (a' := ?_) rfl rfl (by kernel_rfl) (fun _ _ _ h => h) (Or.inr ⟨by rfl, rfl⟩) ?_ ?_
    rotate_left
    · simp only [Act.put, zDS_q1, zDS_q2, zDS_q3, i64_w, i32_w]; rfl
    refine zDS_u 45 111 zDS_m46 HT_ (v := undef) (a' := ?_) rfl rfl (by kernel_rfl) (fun _ _ _ h => h) (Or.inr ⟨by rfl, rfl⟩) ?_ ?_
    rotate_left
    · simp only [Act.put, zDS_q1, zDS_q2, zDS_q3, i64_w, i32_w]; rfl
    refine zDS_u 46 112 zDS_m47 HT_ (v := undef) (a' := ?_) rfl rfl (by kernel_rfl) (fun _ _ _ h => h) (Or.inr ⟨by rfl, rfl⟩) ?_ ?_
    rotate_left
    · simp only [Act.put, zDS_q1, zDS_q2, zDS_q3, i64_w, i32_w]; rfl
    refine zDS_u 47 113 zDS_m48 HT_ (v := undef) (a' := ?_) rfl rfl (by kernel_rfl) (fun _ _ _ h => h) (Or.inr ⟨by rfl, rfl⟩) ?_ ?_
    rotate_left
    · simp only [Act.put, zDS_q1, zDS_q2, zDS_q3, i64_w, i32_w]; rfl
    refine zDS_u 48 114 zDS_m49 HT_ (v := ?_) (a' := ?_) rfl rfl (by kernel_rfl) (fun _ _ _ h => h) (Or.inl ⟨by rfl, ?_⟩) ?_ ?_
    rotate_left
    · intro w'; go_simp; with_reducible rfl
    rotate_left
    · simp only [Act.put, zDS_q1, zDS_q2, zDS_q3, i64_w, i32_w]; rfl
    refine zDS_u 49 115 zDS_m50 HT_ (v := ?_) (a' := ?_) rfl rfl (by kernel_rfl) (fun _ _ _ h => h) (Or.inl ⟨by rfl, ?_⟩) ?_ ?_
    rotate_left
    · intro w'; go_simp; with_reducible rfl
    rotate_left
    · simp only [Act.put, zDS_q1, zDS_q2, zDS_q3, i64_w, i32_w]; rfl
    refine zDS_u 50 116 zDS_m51 HT_ (v := undef) (a' := ?_) rfl rfl (by kernel_rfl) (fun _ _ _ h => h) (Or.inr ⟨by rfl, rfl⟩) ?_ ?_
    rotate_left
    · simp only [Act.put, zDS_q1, zDS_q2, zDS_q3, i64_w, i32_w]; rfl
    refine zDS_u 51 117 zDS_m52 HT_ (v := undef) (a' := ?_) rfl rfl (by kernel_rfl) (fun _ _ _ h => h) (Or.inr ⟨by rfl, rfl⟩) ?_ ?_
    rotate_left
    · simp only [Act.put, zDS_q1, zDS_q2, zDS_q3, i64_w, i32_w]; rfl
    refine zDS_u 52 118 zDS_m53 HT_ (v := undef) (a' := ?_) rfl rfl (by kernel_rfl) (fun _ _ _ h => h) (Or.inr ⟨by rfl, rfl⟩) ?_ ?_
    rotate_left
    · simp only [Act.put, zDS_q1, zDS_q2, zDS_q3, i64_w, i32_w]; rfl
    refine zDS_u 53 119 zDS_m54 HT_ (v := undef) (a' := ?_) rfl rfl (by kernel_rfl) (fun _ _ _ h => h) (Or.inr ⟨by rfl, rfl⟩) ?_ ?_
    rotate_left
    · simp only [Act.put, zDS_q1, zDS_q2, zDS_q3, i64_w, i32_w]; rfl
    refine zDS_u 54 120 zDS_m55 HT_ (v := undef) (a' := ?_) rfl rfl (by kernel_rfl) (fun _ _ _ h => h) (Or.inr ⟨by rfl, rfl⟩) ?_ ?_
    rotate_left
    · simp only [Act.put, zDS_q1, zDS_q2, zDS_q3, i64_w, i32_w]; rfl
    refine zDS_u 55 121 zDS_m56 HT_ (v := ?_) (a' := ?_) rfl rfl (by kernel_rfl) (fun _ _ _ h => h) (Or.inl ⟨by rfl, ?_⟩) ?_ ?_
    rotate_left
    · intro w'; go_simp; with_reducible rfl
    rotate_left
    · simp only [Act.put, zDS_q1, zDS_q2, zDS_q3, i64_w, i32_w]; rfl
    refine done_ (done_of HT_.out (by kernel_rfl)) ?_
    try go_wp2
    go_meet
    case rel => exact ⟨_, (true), (by first | rfl | (simp; done) | (simp [*]; done)), H', ⟨by first | omega | exact Nat.le_refl _⟩, ⟨by (with_reducible repeat (first | refine blk_drewN ?_ _ | refine blk_drew ?_ | refine blk_alloc ?_ _)); exact BK158.out⟩, ⟨by (with_reducible repeat (first | refine blk_drewN ?_ _ | refine blk_drew ?_ | refine blk_alloc ?_ _)); exact BK168.out⟩, ⟨by repeat (first | (with_reducible first | exact HB.out | apply below_alloc | apply pw_below_drewN | apply below_drew1 | refine below_set ?_ GE158.out | refine below_set ?_ GE168.out) | exact HB.out)⟩⟩
  case rest =>
   clear HC13
   try clear c2
   try clear p2
   try clear c23
   try clear c23b0
   try clear c23b1
   obtain ⟨kq, x121_12, rfl, HA, HJ12, BK158, BK168, HB⟩ := hcut
   cases kq with
   | zero => exact absurd HA.out (by simp [pledgelaw4_DaySays.j0])
   | succ kj12 =>
    have H := HA.out
    clear HA
    simp only [pledgelaw4_DaySays.j0] at H
    by_cases c70 : x121_12 = true
    ·
     subst c70
     have H1 : (some false) = some r := by rw [if_pos rfl] at H; exact H
     clear H
     have H := H1
     clear H1
     obtain rfl := Option.some.inj H
     go_wp2
     go_ret
     exact ⟨by first | rfl | (simp [errW_none, errW_some] <;> rfl) | (simp [*, errW_none, errW_some] <;> rfl), by repeat (first | (with_reducible first | exact HB.out | apply below_alloc | apply pw_below_drewN | apply below_drew1 | refine below_set ?_ GE158.out | refine below_set ?_ GE168.out) | exact HB.out)⟩
    ·
     replace c70 := Bool.eq_false_iff.mpr c70
     subst c70
     have H1 : (if t173 > 1099511627776 then (some true) else (if t173 < (-1099511627776) then (some true) else (if a2 > 1099511627776 then (some true) else (if a3 < (-1099511627776) then (some true) else (if true = true then (if t173 = t175 then (some (t174 == t176)) else (some false)) else (some false)))))) = some r := by rw [if_neg (show ¬ (false = true) by decide)] at H; exact H
     clear H
     have H := H1
     clear H1
     by_cases c71 : t173 > 1099511627776
     ·
      rw [if_pos c71] at H
      have c71b0 : decide (1099511627776 < t173) = true := decide_eq_true c71
      clear c71
      obtain rfl := Option.some.inj H
      go_wp2
      go_ret
      exact ⟨by first | rfl | (simp [errW_none, errW_some] <;> rfl) | (simp [*, errW_none, errW_some] <;> rfl), by repeat (first | (with_reducible first | exact HB.out | apply below_alloc | apply pw_below_drewN | apply below_drew1 | refine below_set ?_ GE158.out | refine below_set ?_ GE168.out) | exact HB.out)⟩
     ·
      rw [if_neg c71] at H
      have c71b0 : decide (1099511627776 < t173) = false := decide_eq_false c71
      clear c71
      by_cases c72 : t173 < (-1099511627776)
      ·
       rw [if_pos c72] at H
       have c72b0 : decide (t173 < (-1099511627776)) = true := decide_eq_true c72
       clear c72
       obtain rfl := Option.some.inj H
       go_wp2
       go_ret
       exact ⟨by first | rfl | (simp [errW_none, errW_some] <;> rfl) | (simp [*, errW_none, errW_some] <;> rfl), by repeat (first | (with_reducible first | exact HB.out | apply below_alloc | apply pw_below_drewN | apply below_drew1 | refine below_set ?_ GE158.out | refine below_set ?_ GE168.out) | exact HB.out)⟩
      ·
       rw [if_neg c72] at H
       have c72b0 : decide (t173 < (-1099511627776)) = false := decide_eq_false c72
       clear c72
       by_cases c73 : a2 > 1099511627776
       ·
        rw [if_pos c73] at H
        have c73b0 : decide (1099511627776 < a2) = true := decide_eq_true c73
        clear c73
        obtain rfl := Option.some.inj H
        go_wp2
        go_ret
        exact ⟨by first | rfl | (simp [errW_none, errW_some] <;> rfl) | (simp [*, errW_none, errW_some] <;> rfl), by repeat (first | (with_reducible first | exact HB.out | apply below_alloc | apply pw_below_drewN | apply below_drew1 | refine below_set ?_ GE158.out | refine below_set ?_ GE168.out) | exact HB.out)⟩
       ·
        rw [if_neg c73] at H
        have c73b0 : decide (1099511627776 < a2) = false := decide_eq_false c73
        clear c73
        by_cases c74 : a3 < (-1099511627776)
        ·
         rw [if_pos c74] at H
         have c74b0 : decide (a3 < (-1099511627776)) = true := decide_eq_true c74
         clear c74
         obtain rfl := Option.some.inj H
         go_wp2
         go_ret
         exact ⟨by first | rfl | (simp [errW_none, errW_some] <;> rfl) | (simp [*, errW_none, errW_some] <;> rfl), by repeat (first | (with_reducible first | exact HB.out | apply below_alloc | apply pw_below_drewN | apply below_drew1 | refine below_set ?_ GE158.out | refine below_set ?_ GE168.out) | exact HB.out)⟩
        ·
         rw [if_neg c74] at H
         have c74b0 : decide (a3 < (-1099511627776)) = false := decide_eq_false c74
         clear c74
         have H1 : (if t173 = t175 then (some (t174 == t176)) else (some false)) = some r := by first | (rw [if_pos rfl] at H; exact H) | (rw [if_pos trivial] at H; exact H)
         clear H
         have H := H1
         clear H1
         by_cases c75 : t173 = t175
         ·
          rw [if_pos c75] at H
          have c75b0 : (t173 == t175) = true := beq_iff_eq.mpr c75
          have c75b1 : (t173 != t175) = false := bne_eq_false_iff_eq.mpr c75
          clear c75
          obtain rfl := Option.some.inj H
          go_wp2
          go_ret
          exact ⟨by first | rfl | (simp [errW_none, errW_some] <;> rfl) | (simp [*, errW_none, errW_some] <;> rfl), by repeat (first | (with_reducible first | exact HB.out | apply below_alloc | apply pw_below_drewN | apply below_drew1 | refine below_set ?_ GE158.out | refine below_set ?_ GE168.out) | exact HB.out)⟩
         ·
          rw [if_neg c75] at H
          have c75b0 : (t173 == t175) = false := beq_eq_false_iff_ne.mpr c75
          have c75b1 : (t173 != t175) = true := bne_iff_ne.mpr c75
          obtain rfl := Option.some.inj H
          go_wp2
          go_ret
          exact ⟨by first | rfl | (simp [errW_none, errW_some] <;> rfl) | (simp [*, errW_none, errW_some] <;> rfl), by repeat (first | (with_reducible first | exact HB.out | apply below_alloc | apply pw_below_drewN | apply below_drew1 | refine below_set ?_ GE158.out | refine below_set ?_ GE168.out) | exact HB.out)⟩
 ·
  replace c6 := Bool.eq_false_iff.mpr c6
  subst c6
  have H1 : (some false) = some r := by rw [if_neg (show ¬ (false = true) by decide)] at H; exact H
  clear H
  have H := H1
  clear H1
  obtain rfl := Option.some.inj H
  go_enter Tryd.func8, Tryd.ntmps8
  go_wp2_with (first | ((with_reducible refine gate_dst (N := 4) rfl ?_); refine box_event ?hg (N := 4) ?hd (cs := #[.int .i64 a0_0, .int .i64 a0_1, .int .i64 a0_2]) (t := 32) ?hr ?_; (case hd => rfl); (case hg => rfl); (case hr => first | (go_simp; done) | (go_simp; rfl)); intro gb158 hg w76 hbox hb; have n0_ := Aside0.mk (below_step (by repeat (first | (with_reducible first | exact HB.out | apply below_alloc | apply pw_below_drewN | apply below_drew1) | exact HB.out)) hb); have n1_ := Aside0.mk (hbox); have n2_ := Aside0.mk ((by rw [hg]; exact (below_size (by repeat (first | (with_reducible first | exact HB.out | apply below_alloc | apply pw_below_drewN | apply below_drew1) | exact HB.out))) : w.heap.size ≤ gb158)); have n3_ := Aside0.mk ((by rw [hg]; exact (below_size (by repeat (first | (with_reducible first | exact HB.out | apply below_alloc | apply pw_below_drewN | apply below_drew1) | exact HB.out))) : w.heap.size ≤ gb158)); clear HB; have HB := n0_; have BK158 := n1_; have GW158 := n2_; have GE158 := n3_; clear n0_ n1_ n2_ n3_; clear hb hbox hg) | ((with_reducible refine gate_callee (f := 9) rfl ?_); refine goesL_ (some 24) rfl rfl Tryd.func9 (by kernel_rfl) rfl #[] rfl (by (try simp only [List.map_toArray, List.map_cons, List.map_nil]); first | done | rfl | (simp only [List.length_drop, List.length_take]; rfl)) ?_; (with_reducible refine (pledgelaw4_first.calls k  false _ ?side1 A5.out).mono ?_); (case side1 => exact GlobOK.below HG.out (by repeat (first | (with_reducible first | exact HB.out | apply below_alloc | apply pw_below_drewN | apply below_drew1 | refine below_set ?_ GE158.out) | exact HB.out))); rintro e w77 ⟨rfl, hb⟩; refine ⟨_, rfl, ?_⟩; have n0_ := Aside0.mk (blk_below (g := gb158) (o := .cells #[.int .i64 a0_0, .int .i64 a0_1, .int .i64 a0_2] 32 (0, 0)) (by (with_reducible repeat (first | refine blk_drewN ?_ _ | refine blk_drew ?_ | refine blk_alloc ?_ _)); exact BK158.out) hb); have n1_ := Aside0.mk (below_step (by repeat (first | (with_reducible first | exact HB.out | apply below_alloc | apply pw_below_drewN | apply below_drew1 | refine below_set ?_ GE158.out) | exact HB.out)) hb); clear BK158; clear HB; have BK158 := n0_; have HB := n1_; clear n0_ n1_; (try clear hb); (try clear hb2); (try clear hk); (try clear hi)))
  go_ret
  exact ⟨by first | rfl | (simp [errW_none, errW_some] <;> rfl) | (simp [*, errW_none, errW_some] <;> rfl), by repeat (first | (with_reducible first | exact HB.out | apply below_alloc | apply pw_below_drewN | apply below_drew1 | refine below_set ?_ GE158.out) | exact HB.out)⟩

/-- The pure statement of pledgelaw4_DaySays: numbers and lists alone. -/
def pledgelaw4_DaySays.Pure : Prop := ∀ (a0_0 : Int) (a0_1 : Int) (a0_2 : Int) (a1 : Int) (a2 : Int) (a3 : Int), Rng .i64 a0_0 → Rng .i64 a0_1 → Rng .i64 a0_2 → Rng .i64 a1 → Rng .i64 a2 → Rng .i64 a3 → ∃ k, pledgelaw4_DaySays.f k a0_0 a0_1 a0_2 a1 a2 a3 = some true

end Go.Proofs.YtobgpafdebiphaaDoor.EDaySays
