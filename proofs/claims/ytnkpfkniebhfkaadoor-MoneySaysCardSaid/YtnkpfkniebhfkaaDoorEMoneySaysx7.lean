/- The functions that the law comes to, as plain functions, and for each a proof that the Go code comes to just these answers. Written by a program of this claim. Conditions: each theorem bears its own. -/
import Derived.Test.YtnkpfkniebhfkaaDoorEMoneySaysx0
import Derived.Test.YtnkpfkniebhfkaaDoorEMoneySaysx3
import Derived.Test.YtnkpfkniebhfkaaDoorEMoneySaysx4
import Derived.Test.YtnkpfkniebhfkaaDoorEMoneySaysx5
import Derived.Test.YtnkpfkniebhfkaaDoorEMoneySaysx6
namespace Go.Proofs.YtnkpfkniebhfkaaDoor.EMoneySays
open Go.RowKit Go.Proofs.YtnkpfkniebhfkaaDoorW.PrintWords Go.Proofs.YtnkpfkniebhfkaaDoorW.PrintLast Go.Proofs.YtnkpfkniebhfkaaDoorW.PrintMore Go.Proofs.YtnkpfkniebhfkaaDoorW.PrintOpen
attribute [local go_sem] max2_int min2_int max_two min_two max_three min_three max_four min_four   -- for this text's walks alone
set_option linter.unusedVariables false
set_option linter.unusedSimpArgs false

/-! ### pledgelaw3_MoneySays: function 7 -/
mutual
def pledgelaw3_MoneySays.j0 : Nat → Int → Int → Int → Bool → List Int → Bool → Bool → Option (Bool)
  | 0, _, _, _, _, _, _, _ => none
  | k + 1, x0, x1, x2, x3, x4, x11, x25 => if x25 = true then (some x11) else ((money_Worth.f k x0 x1).bind fun bt217 => ((pledgeref1_Worth.f k x0 x1).bind fun bt219 => (if bt217.1 = bt219.1 then ((pledgesee_Is.f bt217.2 bt219.2).bind fun t221 => (pledgelaw3_MoneySays.j1 k x0 x1 x2 x3 x4 (!t221))) else (pledgelaw3_MoneySays.j1 k x0 x1 x2 x3 x4 true))))
def pledgelaw3_MoneySays.j1 : Nat → Int → Int → Int → Bool → List Int → Bool → Option (Bool)
  | 0, _, _, _, _, _, _ => none
  | k + 1, x0, x1, x2, x3, x4, x47 => if x47 = true then (some false) else ((money_Base.f k x0 x1).bind fun bt222 => ((pledgeref1_Base.f k x0 x1).bind fun bt224 => (if bt222.1 = bt224.1 then ((pledgesee_Is.f bt222.2 bt224.2).bind fun t226 => (pledgelaw3_MoneySays.j2 k x0 x1 x2 x3 x4 (!t226))) else (pledgelaw3_MoneySays.j2 k x0 x1 x2 x3 x4 true))))
def pledgelaw3_MoneySays.j2 : Nat → Int → Int → Int → Bool → List Int → Bool → Option (Bool)
  | 0, _, _, _, _, _, _ => none
  | k + 1, x0, x1, x2, x3, x4, x68 => if x68 = true then (some false) else ((money_Less.f k x0 x1).bind fun bt227 => ((pledgeref1_Less.f k x0 x1).bind fun bt229 => (if bt229.2 = 103 then (if bt229.1 = 0 then (if bt227.1 = bt229.1 then ((pledgesee_Is.f bt227.2 bt229.2).bind fun t231 => (pledgelaw3_MoneySays.j3 k x0 x1 x2 x3 x4 (!t231))) else (pledgelaw3_MoneySays.j3 k x0 x1 x2 x3 x4 true)) else (pledgelaw3_MoneySays.j3 k x0 x1 x2 x3 x4 true)) else (if bt227.1 = bt229.1 then ((pledgesee_Is.f bt227.2 bt229.2).bind fun t232 => (pledgelaw3_MoneySays.j3 k x0 x1 x2 x3 x4 (!t232))) else (pledgelaw3_MoneySays.j3 k x0 x1 x2 x3 x4 true)))))
def pledgelaw3_MoneySays.j3 : Nat → Int → Int → Int → Bool → List Int → Bool → Option (Bool)
  | 0, _, _, _, _, _, _ => none
  | k + 1, x0, x1, x2, x3, x4, x97 => if x97 = true then (some false) else ((money_Part.f k x0 x1 x3).bind fun bt233 => ((pledgeref1_Part.f k x0 x1 x3).bind fun bt235 => (if bt233.1 = bt235.1 then ((pledgesee_Is.f bt233.2 bt235.2).bind fun t237 => (pledgelaw3_MoneySays.j4 k x0 x1 x2 x4 (!t237))) else (pledgelaw3_MoneySays.j4 k x0 x1 x2 x4 true))))
def pledgelaw3_MoneySays.j4 : Nat → Int → Int → Int → List Int → Bool → Option (Bool)
  | 0, _, _, _, _, _ => none
  | k + 1, x0, x1, x2, x4, x120 => if x120 = true then (some false) else ((money_Interest.f k x0 x1 x2).bind fun bt238 => ((pledgeref1_Interest.f k x0 x1 x2).bind fun bt240 => (if bt238.1 = bt240.1 then ((pledgesee_Is.f bt238.2 bt240.2).bind fun t242 => (pledgelaw3_MoneySays.j5 k x4 (!t242))) else (pledgelaw3_MoneySays.j5 k x4 true))))
def pledgelaw3_MoneySays.j5 : Nat → List Int → Bool → Option (Bool)
  | 0, _, _ => none
  | k + 1, x4, x143 => if x143 = true then (some false) else ((money_Total.f k x4).bind fun bt243 => ((pledgeref1_Total.f k x4).bind fun bt245 => (if bt243.1 = bt245.1 then ((pledgesee_Is.f bt243.2 bt245.2).bind fun t247 => (some t247)) else (some false))))
end
def pledgelaw3_MoneySays.f (k : Nat) (a0 : Int) (a1 : Int) (a2 : Int) (a3 : Bool) (l4 : List Int) : Option (Bool) := (pledgelaw3_first.f k).bind fun t216 => (if t216 = true then (if (l4.length : Int) > 30 then (pledgelaw3_MoneySays.j0 k a0 a1 a2 a3 l4 t216 true) else (pledgelaw3_MoneySays.j0 k a0 a1 a2 a3 l4 t216 (!t216))) else (some false))
theorem pledgelaw3_MoneySays.mono_l : ∀ k, (∀ y0 y1 y2 y3 y4 y5 y6, LeO (pledgelaw3_MoneySays.j0 k y0 y1 y2 y3 y4 y5 y6) (pledgelaw3_MoneySays.j0 (k + 1) y0 y1 y2 y3 y4 y5 y6)) ∧ (∀ y0 y1 y2 y3 y4 y5, LeO (pledgelaw3_MoneySays.j1 k y0 y1 y2 y3 y4 y5) (pledgelaw3_MoneySays.j1 (k + 1) y0 y1 y2 y3 y4 y5)) ∧ (∀ y0 y1 y2 y3 y4 y5, LeO (pledgelaw3_MoneySays.j2 k y0 y1 y2 y3 y4 y5) (pledgelaw3_MoneySays.j2 (k + 1) y0 y1 y2 y3 y4 y5)) ∧ (∀ y0 y1 y2 y3 y4 y5, LeO (pledgelaw3_MoneySays.j3 k y0 y1 y2 y3 y4 y5) (pledgelaw3_MoneySays.j3 (k + 1) y0 y1 y2 y3 y4 y5)) ∧ (∀ y0 y1 y2 y3 y4, LeO (pledgelaw3_MoneySays.j4 k y0 y1 y2 y3 y4) (pledgelaw3_MoneySays.j4 (k + 1) y0 y1 y2 y3 y4)) ∧ (∀ y0 y1, LeO (pledgelaw3_MoneySays.j5 k y0 y1) (pledgelaw3_MoneySays.j5 (k + 1) y0 y1))
  | 0 => ⟨fun _ _ _ _ _ _ _ r h => by simp [pledgelaw3_MoneySays.j0] at h, fun _ _ _ _ _ _ r h => by simp [pledgelaw3_MoneySays.j1] at h, fun _ _ _ _ _ _ r h => by simp [pledgelaw3_MoneySays.j2] at h, fun _ _ _ _ _ _ r h => by simp [pledgelaw3_MoneySays.j3] at h, fun _ _ _ _ _ r h => by simp [pledgelaw3_MoneySays.j4] at h, fun _ _ r h => by simp [pledgelaw3_MoneySays.j5] at h⟩
  | k + 1 => by
    obtain ⟨ih0, ih1, ih2, ih3, ih4, ih5⟩ := pledgelaw3_MoneySays.mono_l k
    refine ⟨?_, ?_, ?_, ?_, ?_, ?_⟩
    · intro y0 y1 y2 y3 y4 y5 y6
      unfold pledgelaw3_MoneySays.j0
      repeat' first
      | (with_reducible exact ih0 _ _ _ _ _ _ _)
      | (with_reducible exact ih1 _ _ _ _ _ _)
      | (with_reducible exact ih2 _ _ _ _ _ _)
      | (with_reducible exact ih3 _ _ _ _ _ _)
      | (with_reducible exact ih4 _ _ _ _ _)
      | (with_reducible exact ih5 _ _)
      | (with_reducible exact money_Base.mono _ _ _)
      | (with_reducible exact money_Interest.mono _ _ _ _)
      | (with_reducible exact money_Less.mono _ _ _)
      | (with_reducible exact money_Part.mono _ _ _ _)
      | (with_reducible exact money_Total.mono _ _)
      | (with_reducible exact money_Worth.mono _ _ _)
      | (with_reducible exact pledgelaw3_first.mono _)
      | (with_reducible exact pledgeref1_Base.mono _ _ _)
      | (with_reducible exact pledgeref1_Interest.mono _ _ _ _)
      | (with_reducible exact pledgeref1_Less.mono _ _ _)
      | (with_reducible exact pledgeref1_Part.mono _ _ _ _)
      | (with_reducible exact pledgeref1_Total.mono _ _)
      | (with_reducible exact pledgeref1_Worth.mono _ _ _)
      | (with_reducible exact LeO.refl _)
      | (with_reducible exact LeO.none _)
      | (with_reducible refine LeO.ite ?_ ?_)
      | (with_reducible refine LeO.bind ?_ (fun _ => ?_))
      | exact ih0 _ _ _ _ _ _ _
      | exact ih1 _ _ _ _ _ _
      | exact ih2 _ _ _ _ _ _
      | exact ih3 _ _ _ _ _ _
      | exact ih4 _ _ _ _ _
      | exact ih5 _ _
      | exact money_Base.mono _ _ _
      | exact money_Interest.mono _ _ _ _
      | exact money_Less.mono _ _ _
      | exact money_Part.mono _ _ _ _
      | exact money_Total.mono _ _
      | exact money_Worth.mono _ _ _
      | exact pledgelaw3_first.mono _
      | exact pledgeref1_Base.mono _ _ _
      | exact pledgeref1_Interest.mono _ _ _ _
      | exact pledgeref1_Less.mono _ _ _
      | exact pledgeref1_Part.mono _ _ _ _
      | exact pledgeref1_Total.mono _ _
      | exact pledgeref1_Worth.mono _ _ _
      | exact LeO.none _
      | refine LeO.ite ?_ ?_
      | refine LeO.bind ?_ (fun _ => ?_)
    · intro y0 y1 y2 y3 y4 y5
      unfold pledgelaw3_MoneySays.j1
      repeat' first
      | (with_reducible exact ih0 _ _ _ _ _ _ _)
      | (with_reducible exact ih1 _ _ _ _ _ _)
      | (with_reducible exact ih2 _ _ _ _ _ _)
      | (with_reducible exact ih3 _ _ _ _ _ _)
      | (with_reducible exact ih4 _ _ _ _ _)
      | (with_reducible exact ih5 _ _)
      | (with_reducible exact money_Base.mono _ _ _)
      | (with_reducible exact money_Interest.mono _ _ _ _)
      | (with_reducible exact money_Less.mono _ _ _)
      | (with_reducible exact money_Part.mono _ _ _ _)
      | (with_reducible exact money_Total.mono _ _)
      | (with_reducible exact money_Worth.mono _ _ _)
      | (with_reducible exact pledgelaw3_first.mono _)
      | (with_reducible exact pledgeref1_Base.mono _ _ _)
      | (with_reducible exact pledgeref1_Interest.mono _ _ _ _)
      | (with_reducible exact pledgeref1_Less.mono _ _ _)
      | (with_reducible exact pledgeref1_Part.mono _ _ _ _)
      | (with_reducible exact pledgeref1_Total.mono _ _)
      | (with_reducible exact pledgeref1_Worth.mono _ _ _)
      | (with_reducible exact LeO.refl _)
      | (with_reducible exact LeO.none _)
      | (with_reducible refine LeO.ite ?_ ?_)
      | (with_reducible refine LeO.bind ?_ (fun _ => ?_))
      | exact ih0 _ _ _ _ _ _ _
      | exact ih1 _ _ _ _ _ _
      | exact ih2 _ _ _ _ _ _
      | exact ih3 _ _ _ _ _ _
      | exact ih4 _ _ _ _ _
      | exact ih5 _ _
      | exact money_Base.mono _ _ _
      | exact money_Interest.mono _ _ _ _
      | exact money_Less.mono _ _ _
      | exact money_Part.mono _ _ _ _
      | exact money_Total.mono _ _
      | exact money_Worth.mono _ _ _
      | exact pledgelaw3_first.mono _
      | exact pledgeref1_Base.mono _ _ _
      | exact pledgeref1_Interest.mono _ _ _ _
      | exact pledgeref1_Less.mono _ _ _
      | exact pledgeref1_Part.mono _ _ _ _
      | exact pledgeref1_Total.mono _ _
      | exact pledgeref1_Worth.mono _ _ _
      | exact LeO.none _
      | refine LeO.ite ?_ ?_
      | refine LeO.bind ?_ (fun _ => ?_)
    · intro y0 y1 y2 y3 y4 y5
      unfold pledgelaw3_MoneySays.j2
      repeat' first
      | (with_reducible exact ih0 _ _ _ _ _ _ _)
      | (with_reducible exact ih1 _ _ _ _ _ _)
      | (with_reducible exact ih2 _ _ _ _ _ _)
      | (with_reducible exact ih3 _ _ _ _ _ _)
      | (with_reducible exact ih4 _ _ _ _ _)
      | (with_reducible exact ih5 _ _)
      | (with_reducible exact money_Base.mono _ _ _)
      | (with_reducible exact money_Interest.mono _ _ _ _)
      | (with_reducible exact money_Less.mono _ _ _)
      | (with_reducible exact money_Part.mono _ _ _ _)
      | (with_reducible exact money_Total.mono _ _)
      | (with_reducible exact money_Worth.mono _ _ _)
      | (with_reducible exact pledgelaw3_first.mono _)
      | (with_reducible exact pledgeref1_Base.mono _ _ _)
      | (with_reducible exact pledgeref1_Interest.mono _ _ _ _)
      | (with_reducible exact pledgeref1_Less.mono _ _ _)
      | (with_reducible exact pledgeref1_Part.mono _ _ _ _)
      | (with_reducible exact pledgeref1_Total.mono _ _)
      | (with_reducible exact pledgeref1_Worth.mono _ _ _)
      | (with_reducible exact LeO.refl _)
      | (with_reducible exact LeO.none _)
      | (with_reducible refine LeO.ite ?_ ?_)
      | (with_reducible refine LeO.bind ?_ (fun _ => ?_))
      | exact ih0 _ _ _ _ _ _ _
      | exact ih1 _ _ _ _ _ _
      | exact ih2 _ _ _ _ _ _
      | exact ih3 _ _ _ _ _ _
      | exact ih4 _ _ _ _ _
      | exact ih5 _ _
      | exact money_Base.mono _ _ _
      | exact money_Interest.mono _ _ _ _
      | exact money_Less.mono _ _ _
      | exact money_Part.mono _ _ _ _
      | exact money_Total.mono _ _
      | exact money_Worth.mono _ _ _
      | exact pledgelaw3_first.mono _
      | exact pledgeref1_Base.mono _ _ _
      | exact pledgeref1_Interest.mono _ _ _ _
      | exact pledgeref1_Less.mono _ _ _
      | exact pledgeref1_Part.mono _ _ _ _
      | exact pledgeref1_Total.mono _ _
      | exact pledgeref1_Worth.mono _ _ _
      | exact LeO.none _
      | refine LeO.ite ?_ ?_
      | refine LeO.bind ?_ (fun _ => ?_)
    · intro y0 y1 y2 y3 y4 y5
      unfold pledgelaw3_MoneySays.j3
      repeat' first
      | (with_reducible exact ih0 _ _ _ _ _ _ _)
      | (with_reducible exact ih1 _ _ _ _ _ _)
      | (with_reducible exact ih2 _ _ _ _ _ _)
      | (with_reducible exact ih3 _ _ _ _ _ _)
      | (with_reducible exact ih4 _ _ _ _ _)
      | (with_reducible exact ih5 _ _)
      | (with_reducible exact money_Base.mono _ _ _)
      | (with_reducible exact money_Interest.mono _ _ _ _)
      | (with_reducible exact money_Less.mono _ _ _)
      | (with_reducible exact money_Part.mono _ _ _ _)
      | (with_reducible exact money_Total.mono _ _)
      | (with_reducible exact money_Worth.mono _ _ _)
      | (with_reducible exact pledgelaw3_first.mono _)
      | (with_reducible exact pledgeref1_Base.mono _ _ _)
      | (with_reducible exact pledgeref1_Interest.mono _ _ _ _)
      | (with_reducible exact pledgeref1_Less.mono _ _ _)
      | (with_reducible exact pledgeref1_Part.mono _ _ _ _)
      | (with_reducible exact pledgeref1_Total.mono _ _)
      | (with_reducible exact pledgeref1_Worth.mono _ _ _)
      | (with_reducible exact LeO.refl _)
      | (with_reducible exact LeO.none _)
      | (with_reducible refine LeO.ite ?_ ?_)
      | (with_reducible refine LeO.bind ?_ (fun _ => ?_))
      | exact ih0 _ _ _ _ _ _ _
      | exact ih1 _ _ _ _ _ _
      | exact ih2 _ _ _ _ _ _
      | exact ih3 _ _ _ _ _ _
      | exact ih4 _ _ _ _ _
      | exact ih5 _ _
      | exact money_Base.mono _ _ _
      | exact money_Interest.mono _ _ _ _
      | exact money_Less.mono _ _ _
      | exact money_Part.mono _ _ _ _
      | exact money_Total.mono _ _
      | exact money_Worth.mono _ _ _
      | exact pledgelaw3_first.mono _
      | exact pledgeref1_Base.mono _ _ _
      | exact pledgeref1_Interest.mono _ _ _ _
      | exact pledgeref1_Less.mono _ _ _
      | exact pledgeref1_Part.mono _ _ _ _
      | exact pledgeref1_Total.mono _ _
      | exact pledgeref1_Worth.mono _ _ _
      | exact LeO.none _
      | refine LeO.ite ?_ ?_
      | refine LeO.bind ?_ (fun _ => ?_)
    · intro y0 y1 y2 y3 y4
      unfold pledgelaw3_MoneySays.j4
      repeat' first
      | (with_reducible exact ih0 _ _ _ _ _ _ _)
      | (with_reducible exact ih1 _ _ _ _ _ _)
      | (with_reducible exact ih2 _ _ _ _ _ _)
      | (with_reducible exact ih3 _ _ _ _ _ _)
      | (with_reducible exact ih4 _ _ _ _ _)
      | (with_reducible exact ih5 _ _)
      | (with_reducible exact money_Base.mono _ _ _)
      | (with_reducible exact money_Interest.mono _ _ _ _)
      | (with_reducible exact money_Less.mono _ _ _)
      | (with_reducible exact money_Part.mono _ _ _ _)
      | (with_reducible exact money_Total.mono _ _)
      | (with_reducible exact money_Worth.mono _ _ _)
      | (with_reducible exact pledgelaw3_first.mono _)
      | (with_reducible exact pledgeref1_Base.mono _ _ _)
      | (with_reducible exact pledgeref1_Interest.mono _ _ _ _)
      | (with_reducible exact pledgeref1_Less.mono _ _ _)
      | (with_reducible exact pledgeref1_Part.mono _ _ _ _)
      | (with_reducible exact pledgeref1_Total.mono _ _)
      | (with_reducible exact pledgeref1_Worth.mono _ _ _)
      | (with_reducible exact LeO.refl _)
      | (with_reducible exact LeO.none _)
      | (with_reducible refine LeO.ite ?_ ?_)
      | (with_reducible refine LeO.bind ?_ (fun _ => ?_))
      | exact ih0 _ _ _ _ _ _ _
      | exact ih1 _ _ _ _ _ _
      | exact ih2 _ _ _ _ _ _
      | exact ih3 _ _ _ _ _ _
      | exact ih4 _ _ _ _ _
      | exact ih5 _ _
      | exact money_Base.mono _ _ _
      | exact money_Interest.mono _ _ _ _
      | exact money_Less.mono _ _ _
      | exact money_Part.mono _ _ _ _
      | exact money_Total.mono _ _
      | exact money_Worth.mono _ _ _
      | exact pledgelaw3_first.mono _
      | exact pledgeref1_Base.mono _ _ _
      | exact pledgeref1_Interest.mono _ _ _ _
      | exact pledgeref1_Less.mono _ _ _
      | exact pledgeref1_Part.mono _ _ _ _
      | exact pledgeref1_Total.mono _ _
      | exact pledgeref1_Worth.mono _ _ _
      | exact LeO.none _
      | refine LeO.ite ?_ ?_
      | refine LeO.bind ?_ (fun _ => ?_)
    · intro y0 y1
      unfold pledgelaw3_MoneySays.j5
      repeat' first
      | (with_reducible exact ih0 _ _ _ _ _ _ _)
      | (with_reducible exact ih1 _ _ _ _ _ _)
      | (with_reducible exact ih2 _ _ _ _ _ _)
      | (with_reducible exact ih3 _ _ _ _ _ _)
      | (with_reducible exact ih4 _ _ _ _ _)
      | (with_reducible exact ih5 _ _)
      | (with_reducible exact money_Base.mono _ _ _)
      | (with_reducible exact money_Interest.mono _ _ _ _)
      | (with_reducible exact money_Less.mono _ _ _)
      | (with_reducible exact money_Part.mono _ _ _ _)
      | (with_reducible exact money_Total.mono _ _)
      | (with_reducible exact money_Worth.mono _ _ _)
      | (with_reducible exact pledgelaw3_first.mono _)
      | (with_reducible exact pledgeref1_Base.mono _ _ _)
      | (with_reducible exact pledgeref1_Interest.mono _ _ _ _)
      | (with_reducible exact pledgeref1_Less.mono _ _ _)
      | (with_reducible exact pledgeref1_Part.mono _ _ _ _)
      | (with_reducible exact pledgeref1_Total.mono _ _)
      | (with_reducible exact pledgeref1_Worth.mono _ _ _)
      | (with_reducible exact LeO.refl _)
      | (with_reducible exact LeO.none _)
      | (with_reducible refine LeO.ite ?_ ?_)
      | (with_reducible refine LeO.bind ?_ (fun _ => ?_))
      | exact ih0 _ _ _ _ _ _ _
      | exact ih1 _ _ _ _ _ _
      | exact ih2 _ _ _ _ _ _
      | exact ih3 _ _ _ _ _ _
      | exact ih4 _ _ _ _ _
      | exact ih5 _ _
      | exact money_Base.mono _ _ _
      | exact money_Interest.mono _ _ _ _
      | exact money_Less.mono _ _ _
      | exact money_Part.mono _ _ _ _
      | exact money_Total.mono _ _
      | exact money_Worth.mono _ _ _
      | exact pledgelaw3_first.mono _
      | exact pledgeref1_Base.mono _ _ _
      | exact pledgeref1_Interest.mono _ _ _ _
      | exact pledgeref1_Less.mono _ _ _
      | exact pledgeref1_Part.mono _ _ _ _
      | exact pledgeref1_Total.mono _ _
      | exact pledgeref1_Worth.mono _ _ _
      | exact LeO.none _
      | refine LeO.ite ?_ ?_
      | refine LeO.bind ?_ (fun _ => ?_)
theorem pledgelaw3_MoneySays.mono : ∀ a0 a1 a2 a3 a4 k, LeO (pledgelaw3_MoneySays.f k a0 a1 a2 a3 a4) (pledgelaw3_MoneySays.f (k + 1) a0 a1 a2 a3 a4) := by
  intro a0 a1 a2 a3 a4 k
  obtain ⟨ih0, ih1, ih2, ih3, ih4, ih5⟩ := pledgelaw3_MoneySays.mono_l k
  unfold pledgelaw3_MoneySays.f
  repeat' first
      | (with_reducible exact ih0 _ _ _ _ _ _ _)
      | (with_reducible exact ih1 _ _ _ _ _ _)
      | (with_reducible exact ih2 _ _ _ _ _ _)
      | (with_reducible exact ih3 _ _ _ _ _ _)
      | (with_reducible exact ih4 _ _ _ _ _)
      | (with_reducible exact ih5 _ _)
      | (with_reducible exact money_Base.mono _ _ _)
      | (with_reducible exact money_Interest.mono _ _ _ _)
      | (with_reducible exact money_Less.mono _ _ _)
      | (with_reducible exact money_Part.mono _ _ _ _)
      | (with_reducible exact money_Total.mono _ _)
      | (with_reducible exact money_Worth.mono _ _ _)
      | (with_reducible exact pledgelaw3_first.mono _)
      | (with_reducible exact pledgeref1_Base.mono _ _ _)
      | (with_reducible exact pledgeref1_Interest.mono _ _ _ _)
      | (with_reducible exact pledgeref1_Less.mono _ _ _)
      | (with_reducible exact pledgeref1_Part.mono _ _ _ _)
      | (with_reducible exact pledgeref1_Total.mono _ _)
      | (with_reducible exact pledgeref1_Worth.mono _ _ _)
      | (with_reducible exact LeO.refl _)
      | (with_reducible exact LeO.none _)
      | (with_reducible refine LeO.ite ?_ ?_)
      | (with_reducible refine LeO.bind ?_ (fun _ => ?_))
      | exact ih0 _ _ _ _ _ _ _
      | exact ih1 _ _ _ _ _ _
      | exact ih2 _ _ _ _ _ _
      | exact ih3 _ _ _ _ _ _
      | exact ih4 _ _ _ _ _
      | exact ih5 _ _
      | exact money_Base.mono _ _ _
      | exact money_Interest.mono _ _ _ _
      | exact money_Less.mono _ _ _
      | exact money_Part.mono _ _ _ _
      | exact money_Total.mono _ _
      | exact money_Worth.mono _ _ _
      | exact pledgelaw3_first.mono _
      | exact pledgeref1_Base.mono _ _ _
      | exact pledgeref1_Interest.mono _ _ _ _
      | exact pledgeref1_Less.mono _ _ _
      | exact pledgeref1_Part.mono _ _ _ _
      | exact pledgeref1_Total.mono _ _
      | exact pledgeref1_Worth.mono _ _ _
      | exact LeO.none _
      | refine LeO.ite ?_ ?_
      | refine LeO.bind ?_ (fun _ => ?_)
set_option maxHeartbeats 8000000 in
set_option maxRecDepth 100000 in
theorem pledgelaw3_MoneySays.calls [Inhabited (Int → Addr)] (k : Nat) (a0 : Int) (a1 : Int) (a2 : Int) (a3 : Bool) (A4 : Option Addr) (c4 : Nat) (l4 : List Int) (r : Bool) (w : World) (hG : GlobOK w) (hr4 : Kd.C (Kd.int .i64) w A4 l4.length l4) (hc4 : l4.length ≤ c4) (h : pledgelaw3_MoneySays.f k a0 a1 a2 a3 l4 = some r) :
    Calls Tryd.prog 7 #[.int .i64 a0, .int .i64 a1, .int .i64 a2, .bool a3, .slice A4 l4.length c4] w fun e w' => e = .returned (.bool r) ∧ Below w.heap.size w w' := by
  have HG := Aside0.mk hG
  clear hG
  have HR4 := Aside0.mk hr4
  have HC4 := Aside0.mk hc4
  clear hr4 hc4
  have HB := Aside0.mk (Below.refl w.heap.size w)
  have H : ((pledgelaw3_first.f k).bind fun t216 => (if t216 = true then (if (l4.length : Int) > 30 then (pledgelaw3_MoneySays.j0 k a0 a1 a2 a3 l4 t216 true) else (pledgelaw3_MoneySays.j0 k a0 a1 a2 a3 l4 t216 (!t216))) else (some false))) = some r := h
  clear h
  replace H := Option.bind_eq_some_iff.mp H
  obtain ⟨t216, A60, H⟩ := H
  replace H : (if t216 = true then (if (l4.length : Int) > 30 then (pledgelaw3_MoneySays.j0 k a0 a1 a2 a3 l4 t216 true) else (pledgelaw3_MoneySays.j0 k a0 a1 a2 a3 l4 t216 (!t216))) else (some false)) = some r := H
  have A6 := Aside0.mk A60
  clear A60
  by_cases c7 : t216 = true
  · subst c7
    have H1 : (if (l4.length : Int) > 30 then (pledgelaw3_MoneySays.j0 k a0 a1 a2 a3 l4 true true) else (pledgelaw3_MoneySays.j0 k a0 a1 a2 a3 l4 true (!true))) = some r := by rw [if_pos rfl] at H; exact H
    clear H
    have H := H1
    clear H1
    have HC8 := Aside0.mk H
    clear H
    go_enter Tryd.func7, Tryd.ntmps7
    go_upto_region 4 with (first | ((with_reducible refine gate_callee (f := 8) rfl ?_); refine goesL_ (some 16) rfl rfl Tryd.func8 (by kernel_rfl) rfl #[] rfl (by (try simp only [List.map_toArray, List.map_cons, List.map_nil]); first | done | rfl | (simp only [List.length_drop, List.length_take]; rfl)) ?_; (with_reducible refine (pledgelaw3_first.calls k  true _ ?side1 A6.out).mono ?_); (case side1 => exact GlobOK.below HG.out (by repeat (first | (with_reducible first | exact HB.out | apply below_alloc | apply pw_below_drewN | apply below_drew1) | exact HB.out))); rintro e w9 ⟨rfl, hb⟩; refine ⟨_, rfl, ?_⟩; have n0_ := Aside0.mk (below_step (by repeat (first | (with_reducible first | exact HB.out | apply below_alloc | apply pw_below_drewN | apply below_drew1) | exact HB.out)) hb); clear HB; have HB := n0_; clear n0_; (try clear hb); (try clear hb2); (try clear hk); (try clear hi)))
    (try simp only [Act.put, List.setIfInBounds_toArray, List.set_cons_zero, List.set_cons_succ])
    go_cut [25] (fun v25 wc => ∃ (kq : Nat) (x25_7 : Bool), v25 = .bool x25_7 ∧ Aside0 (pledgelaw3_MoneySays.j0 kq a0 a1 a2 a3 l4 true x25_7 = some r) ∧ Aside0 (kq ≤ k) ∧ Aside0 (Below w.heap.size w wc))
    case first =>
      have H := HC8.out
      clear HC8
      by_cases c10 : (l4.length : Int) > 30
      · rw [if_pos c10] at H
        have c10b0 : decide (30 < (l4.length : Int)) = true := decide_eq_true c10
        have c10b1 : decide (30 < l4.length) = true := decide_eq_true (by omega)
        clear c10
        (first | rw [c10b0] | (simp only [i64_w, i32_w]; rw [c10b0]) | skip)
        have H' := Aside0.mk H
        clear H
        go_wp2
        go_meet
        case rel => exact ⟨_, (true), (by first | rfl | (simp; done) | (simp [*]; done)), H', ⟨by first | omega | exact Nat.le_refl _⟩, ⟨by repeat (first | (with_reducible first | exact HB.out | apply below_alloc | apply pw_below_drewN | apply below_drew1) | exact HB.out)⟩⟩
      · rw [if_neg c10] at H
        have c10b0 : decide (30 < (l4.length : Int)) = false := decide_eq_false c10
        have c10b1 : decide (30 < l4.length) = false := decide_eq_false (by omega)
        clear c10
        (first | rw [c10b0] | (simp only [i64_w, i32_w]; rw [c10b0]) | skip)
        have H' := Aside0.mk H
        clear H
        go_wp2
        go_meet
        case rel => exact ⟨_, (!true), (by first | rfl | (simp; done) | (simp [*]; done)), H', ⟨by first | omega | exact Nat.le_refl _⟩, ⟨by repeat (first | (with_reducible first | exact HB.out | apply below_alloc | apply pw_below_drewN | apply below_drew1) | exact HB.out)⟩⟩
    case rest =>
      clear HC8
      try clear c1
      try clear p2
      try clear c4
      try clear c7
      try clear c8
      try clear c10
      try clear c10b0
      try clear c10b1
      obtain ⟨kq, x25_7, rfl, HA, HJ7, HB⟩ := hcut
      cases kq with
      | zero => exact absurd HA.out (by simp [pledgelaw3_MoneySays.j0])
      | succ kj7 =>
        have H := HA.out
        clear HA
        simp only [pledgelaw3_MoneySays.j0] at H
        by_cases c11 : x25_7 = true
        · subst c11
          have H1 : (some true) = some r := by rw [if_pos rfl] at H; exact H
          clear H
          have H := H1
          clear H1
          obtain rfl := Option.some.inj H
          go_wp2
          go_ret
          exact ⟨by first | rfl | (simp [errW_none, errW_some] <;> rfl) | (simp [*, errW_none, errW_some] <;> rfl), by repeat (first | (with_reducible first | exact HB.out | apply below_alloc | apply pw_below_drewN | apply below_drew1) | exact HB.out)⟩
        · replace c11 := Bool.eq_false_iff.mpr c11
          subst c11
          have H1 : ((money_Worth.f kj7 a0 a1).bind fun bt217 => ((pledgeref1_Worth.f kj7 a0 a1).bind fun bt219 => (if bt217.1 = bt219.1 then ((pledgesee_Is.f bt217.2 bt219.2).bind fun t221 => (pledgelaw3_MoneySays.j1 kj7 a0 a1 a2 a3 l4 (!t221))) else (pledgelaw3_MoneySays.j1 kj7 a0 a1 a2 a3 l4 true)))) = some r := by rw [if_neg (show ¬ (false = true) by decide)] at H; exact H
          clear H
          have H := H1
          clear H1
          replace H := Option.bind_eq_some_iff.mp H
          obtain ⟨⟨t217, t218⟩, A120, H⟩ := H
          replace H : ((pledgeref1_Worth.f kj7 a0 a1).bind fun bt219 => (if t217 = bt219.1 then ((pledgesee_Is.f t218 bt219.2).bind fun t221 => (pledgelaw3_MoneySays.j1 kj7 a0 a1 a2 a3 l4 (!t221))) else (pledgelaw3_MoneySays.j1 kj7 a0 a1 a2 a3 l4 true))) = some r := H
          have A12 := Aside0.mk A120
          clear A120
          replace H := Option.bind_eq_some_iff.mp H
          obtain ⟨⟨t219, t220⟩, A130, H⟩ := H
          replace H : (if t217 = t219 then ((pledgesee_Is.f t218 t220).bind fun t221 => (pledgelaw3_MoneySays.j1 kj7 a0 a1 a2 a3 l4 (!t221))) else (pledgelaw3_MoneySays.j1 kj7 a0 a1 a2 a3 l4 true)) = some r := H
          have A13 := Aside0.mk A130
          clear A130
          have HC14 := Aside0.mk H
          clear H
          go_upto_region 8 with (first | ((with_reducible refine gate_callee (f := 9) rfl ?_); refine goesL_ (some 30) rfl rfl Tryd.func9 (by kernel_rfl) rfl #[.int .i64 a0, .int .i64 a1] rfl (by (try simp only [List.map_toArray, List.map_cons, List.map_nil]); first | done | rfl | (simp only [List.length_drop, List.length_take]; rfl)) ?_; (with_reducible refine (money_Worth.calls kj7 a0 a1 t217 t218 _ ?side1 A12.out).mono ?_); (case side1 => exact GlobOK.below HG.out (by repeat (first | (with_reducible first | exact HB.out | apply below_alloc | apply pw_below_drewN | apply below_drew1) | exact HB.out))); rintro e w15 ⟨rfl, hb⟩; refine ⟨_, rfl, ?_⟩; have n0_ := Aside0.mk (below_step (by repeat (first | (with_reducible first | exact HB.out | apply below_alloc | apply pw_below_drewN | apply below_drew1) | exact HB.out)) hb); clear HB; have HB := n0_; clear n0_; (try clear hb); (try clear hb2); (try clear hk); (try clear hi); (try simp only [errW_none, errW_some])) | ((with_reducible refine gate_callee (f := 17) rfl ?_); refine goesL_ (some 36) rfl rfl Tryd.func17 (by kernel_rfl) rfl #[.int .i64 a0, .int .i64 a1] rfl (by (try simp only [List.map_toArray, List.map_cons, List.map_nil]); first | done | rfl | (simp only [List.length_drop, List.length_take]; rfl)) ?_; (with_reducible refine (pledgeref1_Worth.calls kj7 a0 a1 t219 t220 _ A13.out).mono ?_); rintro e w' ⟨rfl, ⟨nd, rfl⟩⟩; refine ⟨_, rfl, ?_⟩))
          (try simp only [Act.put, List.setIfInBounds_toArray, List.set_cons_zero, List.set_cons_succ])
          go_cut [47] (fun v47 wc => ∃ (kq : Nat) (x47_13 : Bool), v47 = .bool x47_13 ∧ Aside0 (pledgelaw3_MoneySays.j1 kq a0 a1 a2 a3 l4 x47_13 = some r) ∧ Aside0 (kq ≤ kj7) ∧ Aside0 (Below w.heap.size w wc))
          case first =>
            have H := HC14.out
            clear HC14
            by_cases c16 : t217 = t219
            · rw [if_pos c16] at H
              have c16b0 : (t217 == t219) = true := beq_iff_eq.mpr c16
              have c16b1 : (t217 != t219) = false := bne_eq_false_iff_eq.mpr c16
              clear c16
              (first | rw [c16b0] | (simp only [i64_w, i32_w]; rw [c16b0]) | skip)
              replace H := Option.bind_eq_some_iff.mp H
              obtain ⟨t221, A170, H⟩ := H
              replace H : (pledgelaw3_MoneySays.j1 kj7 a0 a1 a2 a3 l4 (!t221)) = some r := H
              have A17 := Aside0.mk A170
              clear A170
              have H' := Aside0.mk H
              clear H
              have CA17 := fun W hG_ => pledgesee_Is.calls t218 t220 t221 W hG_ A17.out
              try simp only [errW_none, errW_some] at CA17
              go_wp2_with (first | (go_at_call 10; (with_reducible refine (CA17 _ ?side1).mono ?_); (case side1 => exact GlobOK.below HG.out (by repeat (first | (with_reducible first | exact HB.out | apply below_alloc | apply pw_below_drewN | apply below_drew1) | exact HB.out))); rintro e w18 ⟨rfl, hb⟩; have n0_ := Aside0.mk (below_step (by repeat (first | (with_reducible first | exact HB.out | apply below_alloc | apply pw_below_drewN | apply below_drew1) | exact HB.out)) hb); clear HB; have HB := n0_; clear n0_; (try clear hb); (try clear hb2); (try clear hk); (try clear hi)))
              go_meet
              case rel => exact ⟨_, (!t221), (by first | rfl | (simp; done) | (simp [*]; done)), H', ⟨by have := HJ7.out; first | omega | exact Nat.le_refl _⟩, ⟨by repeat (first | (with_reducible first | exact HB.out | apply below_alloc | apply pw_below_drewN | apply below_drew1) | exact HB.out)⟩⟩
            · rw [if_neg c16] at H
              have c16b0 : (t217 == t219) = false := beq_eq_false_iff_ne.mpr c16
              have c16b1 : (t217 != t219) = true := bne_iff_ne.mpr c16
              (first | rw [c16b0] | (simp only [i64_w, i32_w]; rw [c16b0]) | skip)
              have H' := Aside0.mk H
              clear H
              go_wp2
              go_meet
              case rel => exact ⟨_, (true), (by first | rfl | (simp; done) | (simp [*]; done)), H', ⟨by have := HJ7.out; first | omega | exact Nat.le_refl _⟩, ⟨by repeat (first | (with_reducible first | exact HB.out | apply below_alloc | apply pw_below_drewN | apply below_drew1) | exact HB.out)⟩⟩
          case rest =>
            clear HC14
            try clear c1
            try clear p2
            try clear c4
            try clear c7
            try clear c8
            try clear c9
            try clear c10
            try clear c10b0
            try clear c10b1
            try clear c11
            try clear c16
            try clear c16b0
            try clear c16b1
            try clear c17
            try clear p2
            obtain ⟨kq, x47_13, rfl, HA, HJ13, HB⟩ := hcut
            cases kq with
            | zero => exact absurd HA.out (by simp [pledgelaw3_MoneySays.j1])
            | succ kj13 =>
              have H := HA.out
              clear HA
              simp only [pledgelaw3_MoneySays.j1] at H
              by_cases c19 : x47_13 = true
              · subst c19
                have H1 : (some false) = some r := by rw [if_pos rfl] at H; exact H
                clear H
                have H := H1
                clear H1
                obtain rfl := Option.some.inj H
                go_wp2
                go_ret
                exact ⟨by first | rfl | (simp [errW_none, errW_some] <;> rfl) | (simp [*, errW_none, errW_some] <;> rfl), by repeat (first | (with_reducible first | exact HB.out | apply below_alloc | apply pw_below_drewN | apply below_drew1) | exact HB.out)⟩
              · replace c19 := Bool.eq_false_iff.mpr c19
                subst c19
                have H1 : ((money_Base.f kj13 a0 a1).bind fun bt222 => ((pledgeref1_Base.f kj13 a0 a1).bind fun bt224 => (if bt222.1 = bt224.1 then ((pledgesee_Is.f bt222.2 bt224.2).bind fun t226 => (pledgelaw3_MoneySays.j2 kj13 a0 a1 a2 a3 l4 (!t226))) else (pledgelaw3_MoneySays.j2 kj13 a0 a1 a2 a3 l4 true)))) = some r := by rw [if_neg (show ¬ (false = true) by decide)] at H; exact H
                clear H
                have H := H1
                clear H1
                replace H := Option.bind_eq_some_iff.mp H
                obtain ⟨⟨t222, t223⟩, A200, H⟩ := H
                replace H : ((pledgeref1_Base.f kj13 a0 a1).bind fun bt224 => (if t222 = bt224.1 then ((pledgesee_Is.f t223 bt224.2).bind fun t226 => (pledgelaw3_MoneySays.j2 kj13 a0 a1 a2 a3 l4 (!t226))) else (pledgelaw3_MoneySays.j2 kj13 a0 a1 a2 a3 l4 true))) = some r := H
                have A20 := Aside0.mk A200
                clear A200
                replace H := Option.bind_eq_some_iff.mp H
                obtain ⟨⟨t224, t225⟩, A210, H⟩ := H
                replace H : (if t222 = t224 then ((pledgesee_Is.f t223 t225).bind fun t226 => (pledgelaw3_MoneySays.j2 kj13 a0 a1 a2 a3 l4 (!t226))) else (pledgelaw3_MoneySays.j2 kj13 a0 a1 a2 a3 l4 true)) = some r := H
                have A21 := Aside0.mk A210
                clear A210
                have HC22 := Aside0.mk H
                clear H
                go_upto_region 12 with (first | ((with_reducible refine gate_callee (f := 13) rfl ?_); refine goesL_ (some 51) rfl rfl Tryd.func13 (by kernel_rfl) rfl #[.int .i64 a0, .int .i64 a1] rfl (by (try simp only [List.map_toArray, List.map_cons, List.map_nil]); first | done | rfl | (simp only [List.length_drop, List.length_take]; rfl)) ?_; (with_reducible refine (money_Base.calls kj13 a0 a1 t222 t223 _ ?side1 A20.out).mono ?_); (case side1 => exact GlobOK.below HG.out (by repeat (first | (with_reducible first | exact HB.out | apply below_alloc | apply pw_below_drewN | apply below_drew1) | exact HB.out))); rintro e w23 ⟨rfl, hb⟩; refine ⟨_, rfl, ?_⟩; have n0_ := Aside0.mk (below_step (by repeat (first | (with_reducible first | exact HB.out | apply below_alloc | apply pw_below_drewN | apply below_drew1) | exact HB.out)) hb); clear HB; have HB := n0_; clear n0_; (try clear hb); (try clear hb2); (try clear hk); (try clear hi); (try simp only [errW_none, errW_some])) | ((with_reducible refine gate_callee (f := 18) rfl ?_); refine goesL_ (some 57) rfl rfl Tryd.func18 (by kernel_rfl) rfl #[.int .i64 a0, .int .i64 a1] rfl (by (try simp only [List.map_toArray, List.map_cons, List.map_nil]); first | done | rfl | (simp only [List.length_drop, List.length_take]; rfl)) ?_; (with_reducible refine (pledgeref1_Base.calls kj13 a0 a1 t224 t225 _ A21.out).mono ?_); rintro e w' ⟨rfl, ⟨nd, rfl⟩⟩; refine ⟨_, rfl, ?_⟩))
                (try simp only [Act.put, List.setIfInBounds_toArray, List.set_cons_zero, List.set_cons_succ])
                go_cut [68] (fun v68 wc => ∃ (kq : Nat) (x68_21 : Bool), v68 = .bool x68_21 ∧ Aside0 (pledgelaw3_MoneySays.j2 kq a0 a1 a2 a3 l4 x68_21 = some r) ∧ Aside0 (kq ≤ kj13) ∧ Aside0 (Below w.heap.size w wc))
                case first =>
                  have H := HC22.out
                  clear HC22
                  by_cases c24 : t222 = t224
                  · rw [if_pos c24] at H
                    have c24b0 : (t222 == t224) = true := beq_iff_eq.mpr c24
                    have c24b1 : (t222 != t224) = false := bne_eq_false_iff_eq.mpr c24
                    clear c24
                    (first | rw [c24b0] | (simp only [i64_w, i32_w]; rw [c24b0]) | skip)
                    replace H := Option.bind_eq_some_iff.mp H
                    obtain ⟨t226, A250, H⟩ := H
                    replace H : (pledgelaw3_MoneySays.j2 kj13 a0 a1 a2 a3 l4 (!t226)) = some r := H
                    have A25 := Aside0.mk A250
                    clear A250
                    have H' := Aside0.mk H
                    clear H
                    have CA25 := fun W hG_ => pledgesee_Is.calls t223 t225 t226 W hG_ A25.out
                    try simp only [errW_none, errW_some] at CA25
                    go_wp2_with (first | (go_at_call 10; (with_reducible refine (CA25 _ ?side1).mono ?_); (case side1 => exact GlobOK.below HG.out (by repeat (first | (with_reducible first | exact HB.out | apply below_alloc | apply pw_below_drewN | apply below_drew1) | exact HB.out))); rintro e w26 ⟨rfl, hb⟩; have n0_ := Aside0.mk (below_step (by repeat (first | (with_reducible first | exact HB.out | apply below_alloc | apply pw_below_drewN | apply below_drew1) | exact HB.out)) hb); clear HB; have HB := n0_; clear n0_; (try clear hb); (try clear hb2); (try clear hk); (try clear hi)))
                    go_meet
                    case rel => exact ⟨_, (!t226), (by first | rfl | (simp; done) | (simp [*]; done)), H', ⟨by have := HJ7.out; have := HJ13.out; first | omega | exact Nat.le_refl _⟩, ⟨by repeat (first | (with_reducible first | exact HB.out | apply below_alloc | apply pw_below_drewN | apply below_drew1) | exact HB.out)⟩⟩
                  · rw [if_neg c24] at H
                    have c24b0 : (t222 == t224) = false := beq_eq_false_iff_ne.mpr c24
                    have c24b1 : (t222 != t224) = true := bne_iff_ne.mpr c24
                    (first | rw [c24b0] | (simp only [i64_w, i32_w]; rw [c24b0]) | skip)
                    have H' := Aside0.mk H
                    clear H
                    go_wp2
                    go_meet
                    case rel => exact ⟨_, (true), (by first | rfl | (simp; done) | (simp [*]; done)), H', ⟨by have := HJ7.out; have := HJ13.out; first | omega | exact Nat.le_refl _⟩, ⟨by repeat (first | (with_reducible first | exact HB.out | apply below_alloc | apply pw_below_drewN | apply below_drew1) | exact HB.out)⟩⟩
                case rest =>
                  clear HC22
                  try clear c1
                  try clear c2
                  try clear p2
                  try clear c4
                  try clear c7
                  try clear c8
                  try clear c9
                  try clear c10
                  try clear c10b0
                  try clear c10b1
                  try clear c11
                  try clear c13
                  try clear c16
                  try clear c16b0
                  try clear c16b1
                  try clear c17
                  try clear c18
                  try clear c19
                  try clear c24
                  try clear c24b0
                  try clear c24b1
                  try clear p2
                  obtain ⟨kq, x68_21, rfl, HA, HJ21, HB⟩ := hcut
                  cases kq with
                  | zero => exact absurd HA.out (by simp [pledgelaw3_MoneySays.j2])
                  | succ kj21 =>
                    have H := HA.out
                    clear HA
                    simp only [pledgelaw3_MoneySays.j2] at H
                    by_cases c27 : x68_21 = true
                    · subst c27
                      have H1 : (some false) = some r := by rw [if_pos rfl] at H; exact H
                      clear H
                      have H := H1
                      clear H1
                      obtain rfl := Option.some.inj H
                      go_wp2
                      go_ret
                      exact ⟨by first | rfl | (simp [errW_none, errW_some] <;> rfl) | (simp [*, errW_none, errW_some] <;> rfl), by repeat (first | (with_reducible first | exact HB.out | apply below_alloc | apply pw_below_drewN | apply below_drew1) | exact HB.out)⟩
                    · replace c27 := Bool.eq_false_iff.mpr c27
                      subst c27
                      have H1 : ((money_Less.f kj21 a0 a1).bind fun bt227 => ((pledgeref1_Less.f kj21 a0 a1).bind fun bt229 => (if bt229.2 = 103 then (if bt229.1 = 0 then (if bt227.1 = bt229.1 then ((pledgesee_Is.f bt227.2 bt229.2).bind fun t231 => (pledgelaw3_MoneySays.j3 kj21 a0 a1 a2 a3 l4 (!t231))) else (pledgelaw3_MoneySays.j3 kj21 a0 a1 a2 a3 l4 true)) else (pledgelaw3_MoneySays.j3 kj21 a0 a1 a2 a3 l4 true)) else (if bt227.1 = bt229.1 then ((pledgesee_Is.f bt227.2 bt229.2).bind fun t232 => (pledgelaw3_MoneySays.j3 kj21 a0 a1 a2 a3 l4 (!t232))) else (pledgelaw3_MoneySays.j3 kj21 a0 a1 a2 a3 l4 true))))) = some r := by rw [if_neg (show ¬ (false = true) by decide)] at H; exact H
                      clear H
                      have H := H1
                      clear H1
                      replace H := Option.bind_eq_some_iff.mp H
                      obtain ⟨⟨t227, t228⟩, A280, H⟩ := H
                      replace H : ((pledgeref1_Less.f kj21 a0 a1).bind fun bt229 => (if bt229.2 = 103 then (if bt229.1 = 0 then (if t227 = bt229.1 then ((pledgesee_Is.f t228 bt229.2).bind fun t231 => (pledgelaw3_MoneySays.j3 kj21 a0 a1 a2 a3 l4 (!t231))) else (pledgelaw3_MoneySays.j3 kj21 a0 a1 a2 a3 l4 true)) else (pledgelaw3_MoneySays.j3 kj21 a0 a1 a2 a3 l4 true)) else (if t227 = bt229.1 then ((pledgesee_Is.f t228 bt229.2).bind fun t232 => (pledgelaw3_MoneySays.j3 kj21 a0 a1 a2 a3 l4 (!t232))) else (pledgelaw3_MoneySays.j3 kj21 a0 a1 a2 a3 l4 true)))) = some r := H
                      have A28 := Aside0.mk A280
                      clear A280
                      replace H := Option.bind_eq_some_iff.mp H
                      obtain ⟨⟨t229, t230⟩, A290, H⟩ := H
                      replace H : (if t230 = 103 then (if t229 = 0 then (if t227 = t229 then ((pledgesee_Is.f t228 t230).bind fun t231 => (pledgelaw3_MoneySays.j3 kj21 a0 a1 a2 a3 l4 (!t231))) else (pledgelaw3_MoneySays.j3 kj21 a0 a1 a2 a3 l4 true)) else (pledgelaw3_MoneySays.j3 kj21 a0 a1 a2 a3 l4 true)) else (if t227 = t229 then ((pledgesee_Is.f t228 t230).bind fun t232 => (pledgelaw3_MoneySays.j3 kj21 a0 a1 a2 a3 l4 (!t232))) else (pledgelaw3_MoneySays.j3 kj21 a0 a1 a2 a3 l4 true))) = some r := H
                      have A29 := Aside0.mk A290
                      clear A290
                      have HC30 := Aside0.mk H
                      clear H
                      go_upto_region 16 with (first | ((with_reducible refine gate_callee (f := 15) rfl ?_); refine goesL_ (some 72) rfl rfl Tryd.func15 (by kernel_rfl) rfl #[.int .i64 a0, .int .i64 a1] rfl (by (try simp only [List.map_toArray, List.map_cons, List.map_nil]); first | done | rfl | (simp only [List.length_drop, List.length_take]; rfl)) ?_; (with_reducible refine (money_Less.calls kj21 a0 a1 t227 t228 _ ?side1 A28.out).mono ?_); (case side1 => exact GlobOK.below HG.out (by repeat (first | (with_reducible first | exact HB.out | apply below_alloc | apply pw_below_drewN | apply below_drew1) | exact HB.out))); rintro e w31 ⟨rfl, hb⟩; refine ⟨_, rfl, ?_⟩; have n0_ := Aside0.mk (below_step (by repeat (first | (with_reducible first | exact HB.out | apply below_alloc | apply pw_below_drewN | apply below_drew1) | exact HB.out)) hb); clear HB; have HB := n0_; clear n0_; (try clear hb); (try clear hb2); (try clear hk); (try clear hi); (try simp only [errW_none, errW_some])) | ((with_reducible refine gate_callee (f := 19) rfl ?_); refine goesL_ (some 78) rfl rfl Tryd.func19 (by kernel_rfl) rfl #[.int .i64 a0, .int .i64 a1] rfl (by (try simp only [List.map_toArray, List.map_cons, List.map_nil]); first | done | rfl | (simp only [List.length_drop, List.length_take]; rfl)) ?_; (with_reducible refine (pledgeref1_Less.calls kj21 a0 a1 t229 t230 _ A29.out).mono ?_); rintro e w' ⟨rfl, ⟨nd, rfl⟩⟩; refine ⟨_, rfl, ?_⟩))
                      (try simp only [Act.put, List.setIfInBounds_toArray, List.set_cons_zero, List.set_cons_succ])
                      go_cut [97] (fun v97 wc => ∃ (kq : Nat) (x97_29 : Bool), v97 = .bool x97_29 ∧ Aside0 (pledgelaw3_MoneySays.j3 kq a0 a1 a2 a3 l4 x97_29 = some r) ∧ Aside0 (kq ≤ kj21) ∧ Aside0 (Below w.heap.size w wc))
                      case first =>
                        have H := HC30.out
                        clear HC30
                        by_cases c32 : t230 = 103
                        · rw [if_pos c32] at H
                          have c32b0 : (t230 == 103) = true := beq_iff_eq.mpr c32
                          have c32b1 : (t230 != 103) = false := bne_eq_false_iff_eq.mpr c32
                          clear c32
                          (first | rw [c32b0] | (simp only [i64_w, i32_w]; rw [c32b0]) | skip)
                          by_cases c33 : t229 = 0
                          · rw [if_pos c33] at H
                            have c33b0 : (t229 == 0) = true := beq_iff_eq.mpr c33
                            have c33b1 : (t229 != 0) = false := bne_eq_false_iff_eq.mpr c33
                            clear c33
                            by_cases c34 : t227 = t229
                            · rw [if_pos c34] at H
                              have c34b0 : (t227 == t229) = true := beq_iff_eq.mpr c34
                              have c34b1 : (t227 != t229) = false := bne_eq_false_iff_eq.mpr c34
                              clear c34
                              replace H := Option.bind_eq_some_iff.mp H
                              obtain ⟨t231, A350, H⟩ := H
                              replace H : (pledgelaw3_MoneySays.j3 kj21 a0 a1 a2 a3 l4 (!t231)) = some r := H
                              have A35 := Aside0.mk A350
                              clear A350
                              have H' := Aside0.mk H
                              clear H
                              have CA35 := fun W hG_ => pledgesee_Is.calls t228 t230 t231 W hG_ A35.out
                              try simp only [errW_none, errW_some] at CA35
                              go_wp2_with (first | (go_at_call 10; (with_reducible refine (CA35 _ ?side1).mono ?_); (case side1 => exact GlobOK.below HG.out (by repeat (first | (with_reducible first | exact HB.out | apply below_alloc | apply pw_below_drewN | apply below_drew1) | exact HB.out))); rintro e w36 ⟨rfl, hb⟩; have n0_ := Aside0.mk (below_step (by repeat (first | (with_reducible first | exact HB.out | apply below_alloc | apply pw_below_drewN | apply below_drew1) | exact HB.out)) hb); clear HB; have HB := n0_; clear n0_; (try clear hb); (try clear hb2); (try clear hk); (try clear hi)))
                              go_meet
                              case rel => exact ⟨_, (!t231), (by first | rfl | (simp; done) | (simp [*]; done)), H', ⟨by have := HJ7.out; have := HJ13.out; have := HJ21.out; first | omega | exact Nat.le_refl _⟩, ⟨by repeat (first | (with_reducible first | exact HB.out | apply below_alloc | apply pw_below_drewN | apply below_drew1) | exact HB.out)⟩⟩
                            · rw [if_neg c34] at H
                              have c34b0 : (t227 == t229) = false := beq_eq_false_iff_ne.mpr c34
                              have c34b1 : (t227 != t229) = true := bne_iff_ne.mpr c34
                              have H' := Aside0.mk H
                              clear H
                              go_wp2
                              go_meet
                              case rel => exact ⟨_, (true), (by first | rfl | (simp; done) | (simp [*]; done)), H', ⟨by have := HJ7.out; have := HJ13.out; have := HJ21.out; first | omega | exact Nat.le_refl _⟩, ⟨by repeat (first | (with_reducible first | exact HB.out | apply below_alloc | apply pw_below_drewN | apply below_drew1) | exact HB.out)⟩⟩
                          · rw [if_neg c33] at H
                            have c33b0 : (t229 == 0) = false := beq_eq_false_iff_ne.mpr c33
                            have c33b1 : (t229 != 0) = true := bne_iff_ne.mpr c33
                            have H' := Aside0.mk H
                            clear H
                            go_wp2
                            go_meet
                            case rel => exact ⟨_, (true), (by first | rfl | (simp; done) | (simp [*]; done)), H', ⟨by have := HJ7.out; have := HJ13.out; have := HJ21.out; first | omega | exact Nat.le_refl _⟩, ⟨by repeat (first | (with_reducible first | exact HB.out | apply below_alloc | apply pw_below_drewN | apply below_drew1) | exact HB.out)⟩⟩
                        · rw [if_neg c32] at H
                          have c32b0 : (t230 == 103) = false := beq_eq_false_iff_ne.mpr c32
                          have c32b1 : (t230 != 103) = true := bne_iff_ne.mpr c32
                          (first | rw [c32b0] | (simp only [i64_w, i32_w]; rw [c32b0]) | skip)
                          by_cases c37 : t227 = t229
                          · rw [if_pos c37] at H
                            have c37b0 : (t227 == t229) = true := beq_iff_eq.mpr c37
                            have c37b1 : (t227 != t229) = false := bne_eq_false_iff_eq.mpr c37
                            clear c37
                            replace H := Option.bind_eq_some_iff.mp H
                            obtain ⟨t232, A380, H⟩ := H
                            replace H : (pledgelaw3_MoneySays.j3 kj21 a0 a1 a2 a3 l4 (!t232)) = some r := H
                            have A38 := Aside0.mk A380
                            clear A380
                            have H' := Aside0.mk H
                            clear H
                            have CA38 := fun W hG_ => pledgesee_Is.calls t228 t230 t232 W hG_ A38.out
                            try simp only [errW_none, errW_some] at CA38
                            go_wp2_with (first | (go_at_call 10; (with_reducible refine (CA38 _ ?side1).mono ?_); (case side1 => exact GlobOK.below HG.out (by repeat (first | (with_reducible first | exact HB.out | apply below_alloc | apply pw_below_drewN | apply below_drew1) | exact HB.out))); rintro e w39 ⟨rfl, hb⟩; have n0_ := Aside0.mk (below_step (by repeat (first | (with_reducible first | exact HB.out | apply below_alloc | apply pw_below_drewN | apply below_drew1) | exact HB.out)) hb); clear HB; have HB := n0_; clear n0_; (try clear hb); (try clear hb2); (try clear hk); (try clear hi)))
                            go_meet
                            case rel => exact ⟨_, (!t232), (by first | rfl | (simp; done) | (simp [*]; done)), H', ⟨by have := HJ7.out; have := HJ13.out; have := HJ21.out; first | omega | exact Nat.le_refl _⟩, ⟨by repeat (first | (with_reducible first | exact HB.out | apply below_alloc | apply pw_below_drewN | apply below_drew1) | exact HB.out)⟩⟩
                          · rw [if_neg c37] at H
                            have c37b0 : (t227 == t229) = false := beq_eq_false_iff_ne.mpr c37
                            have c37b1 : (t227 != t229) = true := bne_iff_ne.mpr c37
                            have H' := Aside0.mk H
                            clear H
                            go_wp2
                            go_meet
                            case rel => exact ⟨_, (true), (by first | rfl | (simp; done) | (simp [*]; done)), H', ⟨by have := HJ7.out; have := HJ13.out; have := HJ21.out; first | omega | exact Nat.le_refl _⟩, ⟨by repeat (first | (with_reducible first | exact HB.out | apply below_alloc | apply pw_below_drewN | apply below_drew1) | exact HB.out)⟩⟩
                      case rest =>
                        clear HC30
                        try clear c1
                        try clear c2
                        try clear p2
                        try clear c3
                        try clear c4
                        try clear c7
                        try clear c8
                        try clear c9
                        try clear c10
                        try clear c10b0
                        try clear c10b1
                        try clear c11
                        try clear c13
                        try clear c15
                        try clear c16
                        try clear c16b0
                        try clear c16b1
                        try clear c17
                        try clear c18
                        try clear c19
                        try clear c24
                        try clear c24b0
                        try clear c24b1
                        try clear c27
                        try clear c32
                        try clear c32b0
                        try clear c32b1
                        try clear c33
                        try clear c33b0
                        try clear c33b1
                        try clear c34
                        try clear c34b0
                        try clear c34b1
                        try clear c37
                        try clear c37b0
                        try clear c37b1
                        try clear p2
                        obtain ⟨kq, x97_29, rfl, HA, HJ29, HB⟩ := hcut
                        cases kq with
                        | zero => exact absurd HA.out (by simp [pledgelaw3_MoneySays.j3])
                        | succ kj29 =>
                          have H := HA.out
                          clear HA
                          simp only [pledgelaw3_MoneySays.j3] at H
                          by_cases c40 : x97_29 = true
                          · subst c40
                            have H1 : (some false) = some r := by rw [if_pos rfl] at H; exact H
                            clear H
                            have H := H1
                            clear H1
                            obtain rfl := Option.some.inj H
                            go_wp2
                            go_ret
                            exact ⟨by first | rfl | (simp [errW_none, errW_some] <;> rfl) | (simp [*, errW_none, errW_some] <;> rfl), by repeat (first | (with_reducible first | exact HB.out | apply below_alloc | apply pw_below_drewN | apply below_drew1) | exact HB.out)⟩
                          · replace c40 := Bool.eq_false_iff.mpr c40
                            subst c40
                            have H1 : ((money_Part.f kj29 a0 a1 a3).bind fun bt233 => ((pledgeref1_Part.f kj29 a0 a1 a3).bind fun bt235 => (if bt233.1 = bt235.1 then ((pledgesee_Is.f bt233.2 bt235.2).bind fun t237 => (pledgelaw3_MoneySays.j4 kj29 a0 a1 a2 l4 (!t237))) else (pledgelaw3_MoneySays.j4 kj29 a0 a1 a2 l4 true)))) = some r := by rw [if_neg (show ¬ (false = true) by decide)] at H; exact H
                            clear H
                            have H := H1
                            clear H1
                            replace H := Option.bind_eq_some_iff.mp H
                            obtain ⟨⟨t233, t234⟩, A410, H⟩ := H
                            replace H : ((pledgeref1_Part.f kj29 a0 a1 a3).bind fun bt235 => (if t233 = bt235.1 then ((pledgesee_Is.f t234 bt235.2).bind fun t237 => (pledgelaw3_MoneySays.j4 kj29 a0 a1 a2 l4 (!t237))) else (pledgelaw3_MoneySays.j4 kj29 a0 a1 a2 l4 true))) = some r := H
                            have A41 := Aside0.mk A410
                            clear A410
                            replace H := Option.bind_eq_some_iff.mp H
                            obtain ⟨⟨t235, t236⟩, A420, H⟩ := H
                            replace H : (if t233 = t235 then ((pledgesee_Is.f t234 t236).bind fun t237 => (pledgelaw3_MoneySays.j4 kj29 a0 a1 a2 l4 (!t237))) else (pledgelaw3_MoneySays.j4 kj29 a0 a1 a2 l4 true)) = some r := H
                            have A42 := Aside0.mk A420
                            clear A420
                            have HC43 := Aside0.mk H
                            clear H
                            go_upto_region 20 with (first | ((with_reducible refine gate_callee (f := 16) rfl ?_); refine goesL_ (some 102) rfl rfl Tryd.func16 (by kernel_rfl) rfl #[.int .i64 a0, .int .i64 a1, .bool a3] rfl (by (try simp only [List.map_toArray, List.map_cons, List.map_nil]); first | done | rfl | (simp only [List.length_drop, List.length_take]; rfl)) ?_; (with_reducible refine (money_Part.calls kj29 a0 a1 a3 t233 t234 _ ?side1 A41.out).mono ?_); (case side1 => exact GlobOK.below HG.out (by repeat (first | (with_reducible first | exact HB.out | apply below_alloc | apply pw_below_drewN | apply below_drew1) | exact HB.out))); rintro e w44 ⟨rfl, hb⟩; refine ⟨_, rfl, ?_⟩; have n0_ := Aside0.mk (below_step (by repeat (first | (with_reducible first | exact HB.out | apply below_alloc | apply pw_below_drewN | apply below_drew1) | exact HB.out)) hb); clear HB; have HB := n0_; clear n0_; (try clear hb); (try clear hb2); (try clear hk); (try clear hi); (try simp only [errW_none, errW_some])) | ((with_reducible refine gate_callee (f := 20) rfl ?_); refine goesL_ (some 109) rfl rfl Tryd.func20 (by kernel_rfl) rfl #[.int .i64 a0, .int .i64 a1, .bool a3] rfl (by (try simp only [List.map_toArray, List.map_cons, List.map_nil]); first | done | rfl | (simp only [List.length_drop, List.length_take]; rfl)) ?_; (with_reducible refine (pledgeref1_Part.calls kj29 a0 a1 a3 t235 t236 _ A42.out).mono ?_); rintro e w' ⟨rfl, ⟨nd, rfl⟩⟩; refine ⟨_, rfl, ?_⟩))
                            (try simp only [Act.put, List.setIfInBounds_toArray, List.set_cons_zero, List.set_cons_succ])
                            go_cut [120] (fun v120 wc => ∃ (kq : Nat) (x120_42 : Bool), v120 = .bool x120_42 ∧ Aside0 (pledgelaw3_MoneySays.j4 kq a0 a1 a2 l4 x120_42 = some r) ∧ Aside0 (kq ≤ kj29) ∧ Aside0 (Below w.heap.size w wc))
                            case first =>
                              have H := HC43.out
                              clear HC43
                              by_cases c45 : t233 = t235
                              · rw [if_pos c45] at H
                                have c45b0 : (t233 == t235) = true := beq_iff_eq.mpr c45
                                have c45b1 : (t233 != t235) = false := bne_eq_false_iff_eq.mpr c45
                                clear c45
                                (first | rw [c45b0] | (simp only [i64_w, i32_w]; rw [c45b0]) | skip)
                                replace H := Option.bind_eq_some_iff.mp H
                                obtain ⟨t237, A460, H⟩ := H
                                replace H : (pledgelaw3_MoneySays.j4 kj29 a0 a1 a2 l4 (!t237)) = some r := H
                                have A46 := Aside0.mk A460
                                clear A460
                                have H' := Aside0.mk H
                                clear H
                                have CA46 := fun W hG_ => pledgesee_Is.calls t234 t236 t237 W hG_ A46.out
                                try simp only [errW_none, errW_some] at CA46
                                go_wp2_with (first | (go_at_call 10; (with_reducible refine (CA46 _ ?side1).mono ?_); (case side1 => exact GlobOK.below HG.out (by repeat (first | (with_reducible first | exact HB.out | apply below_alloc | apply pw_below_drewN | apply below_drew1) | exact HB.out))); rintro e w47 ⟨rfl, hb⟩; have n0_ := Aside0.mk (below_step (by repeat (first | (with_reducible first | exact HB.out | apply below_alloc | apply pw_below_drewN | apply below_drew1) | exact HB.out)) hb); clear HB; have HB := n0_; clear n0_; (try clear hb); (try clear hb2); (try clear hk); (try clear hi)))
                                go_meet
                                case rel => exact ⟨_, (!t237), (by first | rfl | (simp; done) | (simp [*]; done)), H', ⟨by have := HJ7.out; have := HJ13.out; have := HJ21.out; have := HJ29.out; first | omega | exact Nat.le_refl _⟩, ⟨by repeat (first | (with_reducible first | exact HB.out | apply below_alloc | apply pw_below_drewN | apply below_drew1) | exact HB.out)⟩⟩
                              · rw [if_neg c45] at H
                                have c45b0 : (t233 == t235) = false := beq_eq_false_iff_ne.mpr c45
                                have c45b1 : (t233 != t235) = true := bne_iff_ne.mpr c45
                                (first | rw [c45b0] | (simp only [i64_w, i32_w]; rw [c45b0]) | skip)
                                have H' := Aside0.mk H
                                clear H
                                go_wp2
                                go_meet
                                case rel => exact ⟨_, (true), (by first | rfl | (simp; done) | (simp [*]; done)), H', ⟨by have := HJ7.out; have := HJ13.out; have := HJ21.out; have := HJ29.out; first | omega | exact Nat.le_refl _⟩, ⟨by repeat (first | (with_reducible first | exact HB.out | apply below_alloc | apply pw_below_drewN | apply below_drew1) | exact HB.out)⟩⟩
                            case rest =>
                              clear HC43
                              try clear c1
                              try clear c2
                              try clear p2
                              try clear c3
                              try clear c4
                              try clear c7
                              try clear c8
                              try clear c9
                              try clear c10
                              try clear c10b0
                              try clear c10b1
                              try clear c11
                              try clear c13
                              try clear c15
                              try clear c16
                              try clear c16b0
                              try clear c16b1
                              try clear c17
                              try clear c18
                              try clear c19
                              try clear c20
                              try clear c24
                              try clear c24b0
                              try clear c24b1
                              try clear c27
                              try clear c32
                              try clear c32b0
                              try clear c32b1
                              try clear c33
                              try clear c33b0
                              try clear c33b1
                              try clear c34
                              try clear c34b0
                              try clear c34b1
                              try clear c37
                              try clear c37b0
                              try clear c37b1
                              try clear c40
                              try clear c45
                              try clear c45b0
                              try clear c45b1
                              try clear p2
                              obtain ⟨kq, x120_42, rfl, HA, HJ42, HB⟩ := hcut
                              cases kq with
                              | zero => exact absurd HA.out (by simp [pledgelaw3_MoneySays.j4])
                              | succ kj42 =>
                                have H := HA.out
                                clear HA
                                simp only [pledgelaw3_MoneySays.j4] at H
                                by_cases c48 : x120_42 = true
                                · subst c48
                                  have H1 : (some false) = some r := by rw [if_pos rfl] at H; exact H
                                  clear H
                                  have H := H1
                                  clear H1
                                  obtain rfl := Option.some.inj H
                                  go_wp2
                                  go_ret
                                  exact ⟨by first | rfl | (simp [errW_none, errW_some] <;> rfl) | (simp [*, errW_none, errW_some] <;> rfl), by repeat (first | (with_reducible first | exact HB.out | apply below_alloc | apply pw_below_drewN | apply below_drew1) | exact HB.out)⟩
                                · replace c48 := Bool.eq_false_iff.mpr c48
                                  subst c48
                                  have H1 : ((money_Interest.f kj42 a0 a1 a2).bind fun bt238 => ((pledgeref1_Interest.f kj42 a0 a1 a2).bind fun bt240 => (if bt238.1 = bt240.1 then ((pledgesee_Is.f bt238.2 bt240.2).bind fun t242 => (pledgelaw3_MoneySays.j5 kj42 l4 (!t242))) else (pledgelaw3_MoneySays.j5 kj42 l4 true)))) = some r := by rw [if_neg (show ¬ (false = true) by decide)] at H; exact H
                                  clear H
                                  have H := H1
                                  clear H1
                                  replace H := Option.bind_eq_some_iff.mp H
                                  obtain ⟨⟨t238, t239⟩, A490, H⟩ := H
                                  replace H : ((pledgeref1_Interest.f kj42 a0 a1 a2).bind fun bt240 => (if t238 = bt240.1 then ((pledgesee_Is.f t239 bt240.2).bind fun t242 => (pledgelaw3_MoneySays.j5 kj42 l4 (!t242))) else (pledgelaw3_MoneySays.j5 kj42 l4 true))) = some r := H
                                  have A49 := Aside0.mk A490
                                  clear A490
                                  replace H := Option.bind_eq_some_iff.mp H
                                  obtain ⟨⟨t240, t241⟩, A500, H⟩ := H
                                  replace H : (if t238 = t240 then ((pledgesee_Is.f t239 t241).bind fun t242 => (pledgelaw3_MoneySays.j5 kj42 l4 (!t242))) else (pledgelaw3_MoneySays.j5 kj42 l4 true)) = some r := H
                                  have A50 := Aside0.mk A500
                                  clear A500
                                  have HC51 := Aside0.mk H
                                  clear H
                                  go_upto_region 24 with (first | ((with_reducible refine gate_callee (f := 14) rfl ?_); refine goesL_ (some 125) rfl rfl Tryd.func14 (by kernel_rfl) rfl #[.int .i64 a0, .int .i64 a1, .int .i64 a2] rfl (by (try simp only [List.map_toArray, List.map_cons, List.map_nil]); first | done | rfl | (simp only [List.length_drop, List.length_take]; rfl)) ?_; (with_reducible refine (money_Interest.calls kj42 a0 a1 a2 t238 t239 _ ?side1 A49.out).mono ?_); (case side1 => exact GlobOK.below HG.out (by repeat (first | (with_reducible first | exact HB.out | apply below_alloc | apply pw_below_drewN | apply below_drew1) | exact HB.out))); rintro e w52 ⟨rfl, hb⟩; refine ⟨_, rfl, ?_⟩; have n0_ := Aside0.mk (below_step (by repeat (first | (with_reducible first | exact HB.out | apply below_alloc | apply pw_below_drewN | apply below_drew1) | exact HB.out)) hb); clear HB; have HB := n0_; clear n0_; (try clear hb); (try clear hb2); (try clear hk); (try clear hi); (try simp only [errW_none, errW_some])) | ((with_reducible refine gate_callee (f := 21) rfl ?_); refine goesL_ (some 132) rfl rfl Tryd.func21 (by kernel_rfl) rfl #[.int .i64 a0, .int .i64 a1, .int .i64 a2] rfl (by (try simp only [List.map_toArray, List.map_cons, List.map_nil]); first | done | rfl | (simp only [List.length_drop, List.length_take]; rfl)) ?_; (with_reducible refine (pledgeref1_Interest.calls kj42 a0 a1 a2 t240 t241 _ A50.out).mono ?_); rintro e w' ⟨rfl, ⟨nd, rfl⟩⟩; refine ⟨_, rfl, ?_⟩))
                                  (try simp only [Act.put, List.setIfInBounds_toArray, List.set_cons_zero, List.set_cons_succ])
                                  go_cut [143] (fun v143 wc => ∃ (kq : Nat) (x143_50 : Bool), v143 = .bool x143_50 ∧ Aside0 (pledgelaw3_MoneySays.j5 kq l4 x143_50 = some r) ∧ Aside0 (kq ≤ kj42) ∧ Aside0 (Below w.heap.size w wc))
                                  case first =>
                                    have H := HC51.out
                                    clear HC51
                                    by_cases c53 : t238 = t240
                                    · rw [if_pos c53] at H
                                      have c53b0 : (t238 == t240) = true := beq_iff_eq.mpr c53
                                      have c53b1 : (t238 != t240) = false := bne_eq_false_iff_eq.mpr c53
                                      clear c53
                                      (first | rw [c53b0] | (simp only [i64_w, i32_w]; rw [c53b0]) | skip)
                                      replace H := Option.bind_eq_some_iff.mp H
                                      obtain ⟨t242, A540, H⟩ := H
                                      replace H : (pledgelaw3_MoneySays.j5 kj42 l4 (!t242)) = some r := H
                                      have A54 := Aside0.mk A540
                                      clear A540
                                      have H' := Aside0.mk H
                                      clear H
                                      have CA54 := fun W hG_ => pledgesee_Is.calls t239 t241 t242 W hG_ A54.out
                                      try simp only [errW_none, errW_some] at CA54
                                      go_wp2_with (first | (go_at_call 10; (with_reducible refine (CA54 _ ?side1).mono ?_); (case side1 => exact GlobOK.below HG.out (by repeat (first | (with_reducible first | exact HB.out | apply below_alloc | apply pw_below_drewN | apply below_drew1) | exact HB.out))); rintro e w55 ⟨rfl, hb⟩; have n0_ := Aside0.mk (below_step (by repeat (first | (with_reducible first | exact HB.out | apply below_alloc | apply pw_below_drewN | apply below_drew1) | exact HB.out)) hb); clear HB; have HB := n0_; clear n0_; (try clear hb); (try clear hb2); (try clear hk); (try clear hi)))
                                      go_meet
                                      case rel => exact ⟨_, (!t242), (by first | rfl | (simp; done) | (simp [*]; done)), H', ⟨by have := HJ7.out; have := HJ13.out; have := HJ21.out; have := HJ29.out; have := HJ42.out; first | omega | exact Nat.le_refl _⟩, ⟨by repeat (first | (with_reducible first | exact HB.out | apply below_alloc | apply pw_below_drewN | apply below_drew1) | exact HB.out)⟩⟩
                                    · rw [if_neg c53] at H
                                      have c53b0 : (t238 == t240) = false := beq_eq_false_iff_ne.mpr c53
                                      have c53b1 : (t238 != t240) = true := bne_iff_ne.mpr c53
                                      (first | rw [c53b0] | (simp only [i64_w, i32_w]; rw [c53b0]) | skip)
                                      have H' := Aside0.mk H
                                      clear H
                                      go_wp2
                                      go_meet
                                      case rel => exact ⟨_, (true), (by first | rfl | (simp; done) | (simp [*]; done)), H', ⟨by have := HJ7.out; have := HJ13.out; have := HJ21.out; have := HJ29.out; have := HJ42.out; first | omega | exact Nat.le_refl _⟩, ⟨by repeat (first | (with_reducible first | exact HB.out | apply below_alloc | apply pw_below_drewN | apply below_drew1) | exact HB.out)⟩⟩
                                  case rest =>
                                    clear HC51
                                    try clear c1
                                    try clear c2
                                    try clear p2
                                    try clear c3
                                    try clear c4
                                    try clear c5
                                    try clear c7
                                    try clear c8
                                    try clear c9
                                    try clear c10
                                    try clear c10b0
                                    try clear c10b1
                                    try clear c11
                                    try clear c13
                                    try clear c14
                                    try clear c15
                                    try clear c16
                                    try clear c16b0
                                    try clear c16b1
                                    try clear c17
                                    try clear c18
                                    try clear c19
                                    try clear c20
                                    try clear c21
                                    try clear c24
                                    try clear c24b0
                                    try clear c24b1
                                    try clear c27
                                    try clear c32
                                    try clear c32b0
                                    try clear c32b1
                                    try clear c33
                                    try clear c33b0
                                    try clear c33b1
                                    try clear c34
                                    try clear c34b0
                                    try clear c34b1
                                    try clear c37
                                    try clear c37b0
                                    try clear c37b1
                                    try clear c40
                                    try clear c45
                                    try clear c45b0
                                    try clear c45b1
                                    try clear c48
                                    try clear c53
                                    try clear c53b0
                                    try clear c53b1
                                    try clear p2
                                    obtain ⟨kq, x143_50, rfl, HA, HJ50, HB⟩ := hcut
                                    cases kq with
                                    | zero => exact absurd HA.out (by simp [pledgelaw3_MoneySays.j5])
                                    | succ kj50 =>
                                      have H := HA.out
                                      clear HA
                                      simp only [pledgelaw3_MoneySays.j5] at H
                                      by_cases c56 : x143_50 = true
                                      · subst c56
                                        have H1 : (some false) = some r := by rw [if_pos rfl] at H; exact H
                                        clear H
                                        have H := H1
                                        clear H1
                                        obtain rfl := Option.some.inj H
                                        go_wp2
                                        go_ret
                                        exact ⟨by first | rfl | (simp [errW_none, errW_some] <;> rfl) | (simp [*, errW_none, errW_some] <;> rfl), by repeat (first | (with_reducible first | exact HB.out | apply below_alloc | apply pw_below_drewN | apply below_drew1) | exact HB.out)⟩
                                      · replace c56 := Bool.eq_false_iff.mpr c56
                                        subst c56
                                        have H1 : ((money_Total.f kj50 l4).bind fun bt243 => ((pledgeref1_Total.f kj50 l4).bind fun bt245 => (if bt243.1 = bt245.1 then ((pledgesee_Is.f bt243.2 bt245.2).bind fun t247 => (some t247)) else (some false)))) = some r := by rw [if_neg (show ¬ (false = true) by decide)] at H; exact H
                                        clear H
                                        have H := H1
                                        clear H1
                                        replace H := Option.bind_eq_some_iff.mp H
                                        obtain ⟨⟨t243, t244⟩, A570, H⟩ := H
                                        replace H : ((pledgeref1_Total.f kj50 l4).bind fun bt245 => (if t243 = bt245.1 then ((pledgesee_Is.f t244 bt245.2).bind fun t247 => (some t247)) else (some false))) = some r := H
                                        have A57 := Aside0.mk A570
                                        clear A570
                                        replace H := Option.bind_eq_some_iff.mp H
                                        obtain ⟨⟨t245, t246⟩, A580, H⟩ := H
                                        replace H : (if t243 = t245 then ((pledgesee_Is.f t244 t246).bind fun t247 => (some t247)) else (some false)) = some r := H
                                        have A58 := Aside0.mk A580
                                        clear A580
                                        by_cases c59 : t243 = t245
                                        · rw [if_pos c59] at H
                                          have c59b0 : (t243 == t245) = true := beq_iff_eq.mpr c59
                                          have c59b1 : (t243 != t245) = false := bne_eq_false_iff_eq.mpr c59
                                          clear c59
                                          replace H := Option.bind_eq_some_iff.mp H
                                          obtain ⟨t247, A600, H⟩ := H
                                          replace H : (some t247) = some r := H
                                          have A60 := Aside0.mk A600
                                          clear A600
                                          obtain rfl := Option.some.inj H
                                          go_wp2_with (first | ((with_reducible refine gate_callee (f := 22) rfl ?_); refine goesL_ (some 146) rfl rfl Tryd.func22 (by kernel_rfl) rfl #[.slice A4 l4.length c4] rfl (by (try simp only [List.map_toArray, List.map_cons, List.map_nil]); first | done | rfl | (simp only [List.length_drop, List.length_take]; rfl)) ?_; (with_reducible refine (money_Total.calls kj50 _ _ l4 t243 t244 _ ?side1 ?side2 ?side3 A57.out).mono ?_); (case side1 => exact GlobOK.below HG.out (by repeat (first | (with_reducible first | exact HB.out | apply below_alloc | apply pw_below_drewN | apply below_drew1) | exact HB.out))); (case side2 => repeat (first | exact (Kd.C_below HR4.out HB.out) | (with_reducible refine Kd.C_alloc ?_ _) | (with_reducible refine Kd.C_drewN ?_ _) | (with_reducible refine Kd.C_drew ?_))); (case side3 => exact HC4.out); rintro e w61 ⟨rfl, hb⟩; refine ⟨_, rfl, ?_⟩; have n0_ := Aside0.mk (below_step (by repeat (first | (with_reducible first | exact HB.out | apply below_alloc | apply pw_below_drewN | apply below_drew1) | exact HB.out)) hb); clear HB; have HB := n0_; clear n0_; (try clear hb); (try clear hb2); (try clear hk); (try clear hi); (try simp only [errW_none, errW_some])) | ((with_reducible refine gate_callee (f := 23) rfl ?_); refine goesL_ (some 151) rfl rfl Tryd.func23 (by kernel_rfl) rfl #[.slice A4 l4.length c4] rfl (by (try simp only [List.map_toArray, List.map_cons, List.map_nil]); first | done | rfl | (simp only [List.length_drop, List.length_take]; rfl)) ?_; (with_reducible refine (pledgeref1_Total.calls kj50 _ _ l4 t245 t246 _ ?side1 ?side2 A58.out).mono ?_); (case side1 => repeat (first | exact (Kd.C_below HR4.out HB.out) | (with_reducible refine Kd.C_alloc ?_ _) | (with_reducible refine Kd.C_drewN ?_ _) | (with_reducible refine Kd.C_drew ?_))); (case side2 => exact HC4.out); rintro e w' ⟨rfl, ⟨nd, rfl⟩⟩; refine ⟨_, rfl, ?_⟩; have CA60 := fun W hG_ => pledgesee_Is.calls t244 t246 t247 W hG_ A60.out; try simp only [errW_none, errW_some] at CA60) | (go_at_call 10; (with_reducible refine (CA60 _ ?side1).mono ?_); (case side1 => exact GlobOK.below HG.out (by repeat (first | (with_reducible first | exact HB.out | apply below_alloc | apply pw_below_drewN | apply below_drew1) | exact HB.out))); rintro e w62 ⟨rfl, hb⟩; have n0_ := Aside0.mk (below_step (by repeat (first | (with_reducible first | exact HB.out | apply below_alloc | apply pw_below_drewN | apply below_drew1) | exact HB.out)) hb); clear HB; have HB := n0_; clear n0_; (try clear hb); (try clear hb2); (try clear hk); (try clear hi)))
                                          go_ret
                                          exact ⟨by first | rfl | (simp [errW_none, errW_some] <;> rfl) | (simp [*, errW_none, errW_some] <;> rfl), by repeat (first | (with_reducible first | exact HB.out | apply below_alloc | apply pw_below_drewN | apply below_drew1) | exact HB.out)⟩
                                        · rw [if_neg c59] at H
                                          have c59b0 : (t243 == t245) = false := beq_eq_false_iff_ne.mpr c59
                                          have c59b1 : (t243 != t245) = true := bne_iff_ne.mpr c59
                                          obtain rfl := Option.some.inj H
                                          go_wp2_with (first | ((with_reducible refine gate_callee (f := 22) rfl ?_); refine goesL_ (some 146) rfl rfl Tryd.func22 (by kernel_rfl) rfl #[.slice A4 l4.length c4] rfl (by (try simp only [List.map_toArray, List.map_cons, List.map_nil]); first | done | rfl | (simp only [List.length_drop, List.length_take]; rfl)) ?_; (with_reducible refine (money_Total.calls kj50 _ _ l4 t243 t244 _ ?side1 ?side2 ?side3 A57.out).mono ?_); (case side1 => exact GlobOK.below HG.out (by repeat (first | (with_reducible first | exact HB.out | apply below_alloc | apply pw_below_drewN | apply below_drew1) | exact HB.out))); (case side2 => repeat (first | exact (Kd.C_below HR4.out HB.out) | (with_reducible refine Kd.C_alloc ?_ _) | (with_reducible refine Kd.C_drewN ?_ _) | (with_reducible refine Kd.C_drew ?_))); (case side3 => exact HC4.out); rintro e w63 ⟨rfl, hb⟩; refine ⟨_, rfl, ?_⟩; have n0_ := Aside0.mk (below_step (by repeat (first | (with_reducible first | exact HB.out | apply below_alloc | apply pw_below_drewN | apply below_drew1) | exact HB.out)) hb); clear HB; have HB := n0_; clear n0_; (try clear hb); (try clear hb2); (try clear hk); (try clear hi); (try simp only [errW_none, errW_some])) | ((with_reducible refine gate_callee (f := 23) rfl ?_); refine goesL_ (some 151) rfl rfl Tryd.func23 (by kernel_rfl) rfl #[.slice A4 l4.length c4] rfl (by (try simp only [List.map_toArray, List.map_cons, List.map_nil]); first | done | rfl | (simp only [List.length_drop, List.length_take]; rfl)) ?_; (with_reducible refine (pledgeref1_Total.calls kj50 _ _ l4 t245 t246 _ ?side1 ?side2 A58.out).mono ?_); (case side1 => repeat (first | exact (Kd.C_below HR4.out HB.out) | (with_reducible refine Kd.C_alloc ?_ _) | (with_reducible refine Kd.C_drewN ?_ _) | (with_reducible refine Kd.C_drew ?_))); (case side2 => exact HC4.out); rintro e w' ⟨rfl, ⟨nd, rfl⟩⟩; refine ⟨_, rfl, ?_⟩))
                                          go_ret
                                          exact ⟨by first | rfl | (simp [errW_none, errW_some] <;> rfl) | (simp [*, errW_none, errW_some] <;> rfl), by repeat (first | (with_reducible first | exact HB.out | apply below_alloc | apply pw_below_drewN | apply below_drew1) | exact HB.out)⟩
  · replace c7 := Bool.eq_false_iff.mpr c7
    subst c7
    have H1 : (some false) = some r := by rw [if_neg (show ¬ (false = true) by decide)] at H; exact H
    clear H
    have H := H1
    clear H1
    obtain rfl := Option.some.inj H
    go_enter Tryd.func7, Tryd.ntmps7
    go_wp2_with (first | ((with_reducible refine gate_callee (f := 8) rfl ?_); refine goesL_ (some 16) rfl rfl Tryd.func8 (by kernel_rfl) rfl #[] rfl (by (try simp only [List.map_toArray, List.map_cons, List.map_nil]); first | done | rfl | (simp only [List.length_drop, List.length_take]; rfl)) ?_; (with_reducible refine (pledgelaw3_first.calls k  false _ ?side1 A6.out).mono ?_); (case side1 => exact GlobOK.below HG.out (by repeat (first | (with_reducible first | exact HB.out | apply below_alloc | apply pw_below_drewN | apply below_drew1) | exact HB.out))); rintro e w64 ⟨rfl, hb⟩; refine ⟨_, rfl, ?_⟩; have n0_ := Aside0.mk (below_step (by repeat (first | (with_reducible first | exact HB.out | apply below_alloc | apply pw_below_drewN | apply below_drew1) | exact HB.out)) hb); clear HB; have HB := n0_; clear n0_; (try clear hb); (try clear hb2); (try clear hk); (try clear hi)))
    go_ret
    exact ⟨by first | rfl | (simp [errW_none, errW_some] <;> rfl) | (simp [*, errW_none, errW_some] <;> rfl), by repeat (first | (with_reducible first | exact HB.out | apply below_alloc | apply pw_below_drewN | apply below_drew1) | exact HB.out)⟩

/-- The pure statement of pledgelaw3_MoneySays: numbers and lists alone. -/
def pledgelaw3_MoneySays.Pure : Prop := ∀ (a0 : Int) (a1 : Int) (a2 : Int) (a3 : Bool) (l4 : List Int), Rng .i64 a0 → Rng .i64 a1 → Rng .i64 a2 → l4.length * 8 ≤ 140737488351232 → (l4.length ≤ maxLen ∧ ∀ x ∈ l4, Rng .i64 x) → ∃ k, pledgelaw3_MoneySays.f k a0 a1 a2 a3 l4 = some true

end Go.Proofs.YtnkpfkniebhfkaaDoor.EMoneySays
