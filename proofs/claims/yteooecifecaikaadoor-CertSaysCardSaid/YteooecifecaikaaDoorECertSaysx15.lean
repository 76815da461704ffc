/- The functions that the law comes to, as plain functions, and for each a proof that the Go code comes to just these answers. Written by a program of this claim. Conditions: each theorem bears its own. -/
import Derived.Test.YteooecifecaikaaDoorECertSaysx0
import Derived.Test.YteooecifecaikaaDoorECertSaysx3
import Derived.Test.YteooecifecaikaaDoorECertSaysx4
import Derived.Test.YteooecifecaikaaDoorECertSaysx5
import Derived.Test.YteooecifecaikaaDoorECertSaysx6
import Derived.Test.YteooecifecaikaaDoorECertSaysx10
import Derived.Test.YteooecifecaikaaDoorECertSaysx13
import Derived.Test.YteooecifecaikaaDoorECertSaysx14
namespace Go.Proofs.YteooecifecaikaaDoor.ECertSays
open Go.RowKit Go.Proofs.YteooecifecaikaaDoorW.PrintWords Go.Proofs.YteooecifecaikaaDoorW.PrintLast Go.Proofs.YteooecifecaikaaDoorW.PrintMore Go.Proofs.YteooecifecaikaaDoorW.PrintOpen
attribute [local go_sem] max2_int min2_int max_two min_two max_three min_three max_four min_four   -- for this text's walks alone
set_option linter.unusedVariables false
set_option linter.unusedSimpArgs false

/-! ### pledgelaw21_CertSays: function 3 -/
mutual
def pledgelaw21_CertSays.j0 : Nat → Bool → Bool → List (S47) → List Int → Int → List Int → Int → Int → Bool → Int → Option (Bool)
 | 0, _, _, _, _, _, _, _, _, _, _ => none
 | k + 1, x5, x45, x330000, x330001, x330002, x331000, x331001, x331002, x331003, x331004 => if x45 = true then (some x5) else ((pledgeref18_Valid.f k x330000 x330001 x330002).bind fun t333 => ((pledgeref18_Worth.f k x330000 x330001 x330002 x331000).bind fun bt334 => ((pledgeref18_Cost.f k x330000 x330001 x330002 x331000).bind fun bt336 => (if t333 = 0 then (if bt334.2 = true then (if bt334.1 = x331001 then (pledgelaw21_CertSays.j1 k t333 bt334.1 bt336.1 (bt336.1 != x331002) x330000 x330001 x330002 x331000 x331001 x331002 x331003 x331004 x330000 x330001 x330002) else (pledgelaw21_CertSays.j1 k t333 bt334.1 bt336.1 true x330000 x330001 x330002 x331000 x331001 x331002 x331003 x331004 x330000 x330001 x330002)) else (pledgelaw21_CertSays.j1 k t333 bt334.1 bt336.1 true x330000 x330001 x330002 x331000 x331001 x331002 x331003 x331004 x330000 x330001 x330002)) else (pledgelaw21_CertSays.j1 k t333 bt334.1 bt336.1 false x330000 x330001 x330002 x331000 x331001 x331002 x331003 x331004 x330000 x330001 x330002)))))
def pledgelaw21_CertSays.j1 : Nat → Int → Int → Int → Bool → List (S47) → List Int → Int → List Int → Int → Int → Bool → Int → List (S47) → List Int → Int → Option (Bool)
 | 0, _, _, _, _, _, _, _, _, _, _, _, _, _, _, _ => none
 | k + 1, x7, x8, x10, x87, x330000, x330001, x330002, x331000, x331001, x331002, x331003, x331004, x333000, x333001, x333002 => if x87 = true then (pledgelaw21_CertSays.j2 k 102 x8 x10 x330000 x330001 x330002 x331000 x331001 x331002 x331003 x331004 x333000 x333001 x333002) else (pledgelaw21_CertSays.j2 k x7 x8 x10 x330000 x330001 x330002 x331000 x331001 x331002 x331003 x331004 x333000 x333001 x333002)
def pledgelaw21_CertSays.j2 : Nat → Int → Int → Int → List (S47) → List Int → Int → List Int → Int → Int → Bool → Int → List (S47) → List Int → Int → Option (Bool)
 | 0, _, _, _, _, _, _, _, _, _, _, _, _, _, _ => none
 | k + 1, x7, x8, x10, x330000, x330001, x330002, x331000, x331001, x331002, x331003, x331004, x333000, x333001, x333002 => if x7 = 0 then (pledgelaw21_CertSays.j3 k x7 x10 (decide (x8 < x333002)) x330000 x330001 x330002 x331000 x331001 x331002 x331003 x331004 x333000 x333001 x333002) else (pledgelaw21_CertSays.j3 k x7 x10 false x330000 x330001 x330002 x331000 x331001 x331002 x331003 x331004 x333000 x333001 x333002)
def pledgelaw21_CertSays.j3 : Nat → Int → Int → Bool → List (S47) → List Int → Int → List Int → Int → Int → Bool → Int → List (S47) → List Int → Int → Option (Bool)
 | 0, _, _, _, _, _, _, _, _, _, _, _, _, _, _ => none
 | k + 1, x7, x10, x95, x330000, x330001, x330002, x331000, x331001, x331002, x331003, x331004, x333000, x333001, x333002 => if x95 = true then (pledgelaw21_CertSays.j4 k 115 x10 x330000 x330001 x330002 x331000 x331001 x331002 x331003 x331004 x333000 x333001 x333002) else (pledgelaw21_CertSays.j4 k x7 x10 x330000 x330001 x330002 x331000 x331001 x331002 x331003 x331004 x333000 x333001 x333002)
def pledgelaw21_CertSays.j4 : Nat → Int → Int → List (S47) → List Int → Int → List Int → Int → Int → Bool → Int → List (S47) → List Int → Int → Option (Bool)
 | 0, _, _, _, _, _, _, _, _, _, _, _, _, _ => none
 | k + 1, x7, x10, x330000, x330001, x330002, x331000, x331001, x331002, x331003, x331004, x333000, x333001, x333002 => (cert_Check.f k x330000 x330001 x330002 x331000 x331001 x331002 x331003 x331004).bind fun t338 => ((pledgesee_Is.f t338 x7).bind fun t339 => (if t339 = true then ((cert_Gap.f k x330000 x330001 x330002 x331000 x331001 x331002 x331003 x331004).bind fun bt340 => ((pledgesee_Is.f bt340.2 x7).bind fun t342 => (if t342 = true then ((pledgeref18_Least.f k x333000 x333001 x333002 0 x333002).bind fun bt343 => (if bt340.2.isNone = true then (if bt340.1 = (mx 0 (wrap64 (x10 - bt343.1))) then (pledgelaw21_CertSays.j5 k false x330000 x330001 x330002 x331000 x331001 x331002 x331003 x331004 x333000 x333001 x333002) else (pledgelaw21_CertSays.j5 k true x330000 x330001 x330002 x331000 x331001 x331002 x331003 x331004 x333000 x333001 x333002)) else (pledgelaw21_CertSays.j5 k (bt340.1 != 0) x330000 x330001 x330002 x331000 x331001 x331002 x331003 x331004 x333000 x333001 x333002))) else (some false)))) else (some false)))
def pledgelaw21_CertSays.j5 : Nat → Bool → List (S47) → List Int → Int → List Int → Int → Int → Bool → Int → List (S47) → List Int → Int → Option (Bool)
 | 0, _, _, _, _, _, _, _, _, _, _, _, _ => none
 | k + 1, x136, x330000, x330001, x330002, x331000, x331001, x331002, x331003, x331004, x333000, x333001, x333002 => if x136 = true then (some false) else ((cert_Swap.f k x330000 x330001 x330002 x331000).bind fun bt346 => (pledgelaw21_CertSays.l0 k bt346.1 bt346.2 (-1) 0 x331000 x331001 x331002 x331003 x331004 x333000 x333001 x333002))
def pledgelaw21_CertSays.l0 : Nat → List Int → Bool → Int → Int → List Int → Int → Int → Bool → Int → List (S47) → List Int → Int → Option (Bool)
 | 0, _, _, _, _, _, _, _, _, _, _, _, _ => none
 | k + 1, x16, x17, x18, x19, x331000, x331001, x331002, x331003, x331004, x333000, x333001, x333002 => if x19 < (x331000.length : Int) then (if x18 < 0 then ((pledgeref18_Fits.f k x333000 x333001 x333002 x331000).bind fun t350 => (pledgelaw21_CertSays.j7 k x16 x17 x18 x19 t350 x331000 x331001 x331002 x331003 x331004 x333000 x333001 x333002)) else (pledgelaw21_CertSays.j7 k x16 x17 x18 x19 false x331000 x331001 x331002 x331003 x331004 x333000 x333001 x333002)) else (pledgelaw21_CertSays.j7 k x16 x17 x18 x19 false x331000 x331001 x331002 x331003 x331004 x333000 x333001 x333002)
def pledgelaw21_CertSays.j7 : Nat → List Int → Bool → Int → Int → Bool → List Int → Int → Int → Bool → Int → List (S47) → List Int → Int → Option (Bool)
 | 0, _, _, _, _, _, _, _, _, _, _, _, _, _ => none
 | k + 1, x16, x17, x18, x19, x158, x331000, x331001, x331002, x331003, x331004, x333000, x333001, x333002 => if x158 = true then (if 0 ≤ x19 then (if x19 < (x331000.length : Int) then (if (rd x331000 x19) < 1 then (pledgelaw21_CertSays.l0 k x16 x17 x18 (wrap64 (x19 + 1)) x331000 x331001 x331002 x331003 x331004 x333000 x333001 x333002) else ((pledgeref_Ints.f k x331000).bind fun t352 => (if x19 < (t352.length : Int) then ((pledgeref18_Fits.f k x333000 x333001 x333002 (t352.set (x19 : Int).toNat (wrap64 ((rd t352 x19) - 1)))).bind fun t357 => (if t357 = true then (pledgelaw21_CertSays.l0 k x16 x17 x19 (wrap64 (x19 + 1)) x331000 x331001 x331002 x331003 x331004 x333000 x333001 x333002) else (pledgelaw21_CertSays.l0 k x16 x17 x18 (wrap64 (x19 + 1)) x331000 x331001 x331002 x331003 x331004 x333000 x333001 x333002))) else (none)))) else (none)) else (none)) else (if (x17 != (decide (x18 ≥ 0))) = true then (some false) else (pledgelaw21_CertSays.l1 k x16 x17 x18 0 x331000 x331001 x331002 x331003 x331004))
def pledgelaw21_CertSays.l1 : Nat → List Int → Bool → Int → Int → List Int → Int → Int → Bool → Int → Option (Bool)
 | 0, _, _, _, _, _, _, _, _, _ => none
 | k + 1, x16, x17, x18, x21, x331000, x331001, x331002, x331003, x331004 => if x21 < (x16.length : Int) then (if 0 ≤ x21 then (if x21 < (x331000.length : Int) then (if x21 = x18 then (if (rd x16 x21) = (wrap64 ((rd x331000 x21) - 1)) then (pledgelaw21_CertSays.l1 k x16 x17 x18 (wrap64 (x21 + 1)) x331000 x331001 x331002 x331003 x331004) else (some false)) else (if (rd x16 x21) = (rd x331000 x21) then (pledgelaw21_CertSays.l1 k x16 x17 x18 (wrap64 (x21 + 1)) x331000 x331001 x331002 x331003 x331004) else (some false))) else (none)) else (none)) else (if x17 = true then (some ((x16.length : Int) == (x331000.length : Int))) else (some true))
end
def pledgelaw21_CertSays.f (k : Nat) (l0_0 : List (S47)) (l0_1 : List Int) (a0_2 : Int) (l1_0 : List Int) (a1_1 : Int) (a1_2 : Int) (a1_3 : Bool) (a1_4 : Int) : Option (Bool) := (pledgelaw21_first.f k).bind fun t331 => (if t331 = true then (if (l0_0.length : Int) > 20 then (pledgelaw21_CertSays.j0 k t331 true l0_0 l0_1 a0_2 l1_0 a1_1 a1_2 a1_3 a1_4) else (if (l0_1.length : Int) > 20 then (pledgelaw21_CertSays.j0 k t331 true l0_0 l0_1 a0_2 l1_0 a1_1 a1_2 a1_3 a1_4) else (if (l1_0.length : Int) > 20 then (pledgelaw21_CertSays.j0 k t331 true l0_0 l0_1 a0_2 l1_0 a1_1 a1_2 a1_3 a1_4) else (pledgelaw21_CertSays.j0 k t331 (!t331) l0_0 l0_1 a0_2 l1_0 a1_1 a1_2 a1_3 a1_4)))) else (some false))
theorem pledgelaw21_CertSays.mono_l : ∀ k, (∀ y0 y1 y2 y3 y4 y5 y6 y7 y8 y9, LeO (pledgelaw21_CertSays.j0 k y0 y1 y2 y3 y4 y5 y6 y7 y8 y9) (pledgelaw21_CertSays.j0 (k + 1) y0 y1 y2 y3 y4 y5 y6 y7 y8 y9)) ∧ (∀ y0 y1 y2 y3 y4 y5 y6 y7 y8 y9 y10 y11 y12 y13 y14, LeO (pledgelaw21_CertSays.j1 k y0 y1 y2 y3 y4 y5 y6 y7 y8 y9 y10 y11 y12 y13 y14) (pledgelaw21_CertSays.j1 (k + 1) y0 y1 y2 y3 y4 y5 y6 y7 y8 y9 y10 y11 y12 y13 y14)) ∧ (∀ y0 y1 y2 y3 y4 y5 y6 y7 y8 y9 y10 y11 y12 y13, LeO (pledgelaw21_CertSays.j2 k y0 y1 y2 y3 y4 y5 y6 y7 y8 y9 y10 y11 y12 y13) (pledgelaw21_CertSays.j2 (k + 1) y0 y1 y2 y3 y4 y5 y6 y7 y8 y9 y10 y11 y12 y13)) ∧ (∀ y0 y1 y2 y3 y4 y5 y6 y7 y8 y9 y10 y11 y12 y13, LeO (pledgelaw21_CertSays.j3 k y0 y1 y2 y3 y4 y5 y6 y7 y8 y9 y10 y11 y12 y13) (pledgelaw21_CertSays.j3 (k + 1) y0 y1 y2 y3 y4 y5 y6 y7 y8 y9 y10 y11 y12 y13)) ∧ (∀ y0 y1 y2 y3 y4 y5 y6 y7 y8 y9 y10 y11 y12, LeO (pledgelaw21_CertSays.j4 k y0 y1 y2 y3 y4 y5 y6 y7 y8 y9 y10 y11 y12) (pledgelaw21_CertSays.j4 (k + 1) y0 y1 y2 y3 y4 y5 y6 y7 y8 y9 y10 y11 y12)) ∧ (∀ y0 y1 y2 y3 y4 y5 y6 y7 y8 y9 y10 y11, LeO (pledgelaw21_CertSays.j5 k y0 y1 y2 y3 y4 y5 y6 y7 y8 y9 y10 y11) (pledgelaw21_CertSays.j5 (k + 1) y0 y1 y2 y3 y4 y5 y6 y7 y8 y9 y10 y11)) ∧ (∀ y0 y1 y2 y3 y4 y5 y6 y7 y8 y9 y10 y11, LeO (pledgelaw21_CertSays.l0 k y0 y1 y2 y3 y4 y5 y6 y7 y8 y9 y10 y11) (pledgelaw21_CertSays.l0 (k + 1) y0 y1 y2 y3 y4 y5 y6 y7 y8 y9 y10 y11)) ∧ (∀ y0 y1 y2 y3 y4 y5 y6 y7 y8 y9 y10 y11 y12, LeO (pledgelaw21_CertSays.j7 k y0 y1 y2 y3 y4 y5 y6 y7 y8 y9 y10 y11 y12) (pledgelaw21_CertSays.j7 (k + 1) y0 y1 y2 y3 y4 y5 y6 y7 y8 y9 y10 y11 y12)) ∧ (∀ y0 y1 y2 y3 y4 y5 y6 y7 y8, LeO (pledgelaw21_CertSays.l1 k y0 y1 y2 y3 y4 y5 y6 y7 y8) (pledgelaw21_CertSays.l1 (k + 1) y0 y1 y2 y3 y4 y5 y6 y7 y8))
 | 0 => ⟨fun _ _ _ _ _ _ _ _ _ _ r h => by simp [pledgelaw21_CertSays.j0] at h, fun _ _ _ _ _ _ _ _ _ _ _ _ _ _ _ r h => by simp [pledgelaw21_CertSays.j1] at h, fun _ _ _ _ _ _ _ _ _ _ _ _ _ _ r h => by simp [pledgelaw21_CertSays.j2] at h, fun _ _ _ _ _ _ _ _ _ _ _ _ _ _ r h => by simp [pledgelaw21_CertSays.j3] at h, fun _ _ _ _ _ _ _ _ _ _ _ _ _ r h => by simp [pledgelaw21_CertSays.j4] at h, fun _ _ _ _ _ _ _ _ _ _ _ _ r h => by simp [pledgelaw21_CertSays.j5] at h, fun _ _ _ _ _ _ _ _ _ _ _ _ r h => by simp [pledgelaw21_CertSays.l0] at h, fun _ _ _ _ _ _ _ _ _ _ _ _ _ r h => by simp [pledgelaw21_CertSays.j7] at h, fun _ _ _ _ _ _ _ _ _ r h => by simp [pledgelaw21_CertSays.l1] at h⟩
 | k + 1 => by
  obtain ⟨ih0, ih1, ih2, ih3, ih4, ih5, ih6, ih7, ih8⟩ := pledgelaw21_CertSays.mono_l k; refine ⟨?_, ?_, ?_, ?_, ?_, ?_, ?_, ?_, ?_⟩
  ·
   intro y0 y1 y2 y3 y4 y5 y6 y7 y8 y9; unfold pledgelaw21_CertSays.j0
   repeat' first
   | (with_reducible exact ih0 _ _ _ _ _ _ _ _ _ _)
   | (with_reducible exact ih1 _ _ _ _ _ _ _ _ _ _ _ _ _ _ _)
   | (with_reducible exact ih2 _ _ _ _ _ _ _ _ _ _ _ _ _ _)
   | (with_reducible exact ih3 _ _ _ _ _ _ _ _ _ _ _ _ _ _)
   | (with_reducible exact ih4 _ _ _ _ _ _ _ _ _ _ _ _ _)
   | (with_reducible exact ih5 _ _ _ _ _ _ _ _ _ _ _ _)
   | (with_reducible exact ih6 _ _ _ _ _ _ _ _ _ _ _ _)
   | (with_reducible exact ih7 _ _ _ _ _ _ _ _ _ _ _ _ _)
   | (with_reducible exact ih8 _ _ _ _ _ _ _ _ _)
   | (with_reducible exact cert_Check.mono _ _ _ _ _ _ _ _ _)
   | (with_reducible exact cert_Gap.mono _ _ _ _ _ _ _ _ _)
   | (with_reducible exact cert_Swap.mono _ _ _ _ _)
   | (with_reducible exact pledgelaw21_first.mono _)
   | (with_reducible exact pledgeref18_Cost.mono _ _ _ _ _)
   | (with_reducible exact pledgeref18_Fits.mono _ _ _ _ _)
   | (with_reducible exact pledgeref18_Least.mono _ _ _ _ _ _)
   | (with_reducible exact pledgeref18_Valid.mono _ _ _ _)
   | (with_reducible exact pledgeref18_Worth.mono _ _ _ _ _)
   | (with_reducible exact pledgeref_Ints.mono _ _)
   | (with_reducible exact LeO.refl _)
   | (with_reducible exact LeO.none _)
   | (with_reducible refine LeO.ite ?_ ?_)
   | (with_reducible refine LeO.bind ?_ (fun _ => ?_))
   | exact ih0 _ _ _ _ _ _ _ _ _ _
   | exact ih1 _ _ _ _ _ _ _ _ _ _ _ _ _ _ _
   | exact ih2 _ _ _ _ _ _ _ _ _ _ _ _ _ _
   | exact ih3 _ _ _ _ _ _ _ _ _ _ _ _ _ _
   | exact ih4 _ _ _ _ _ _ _ _ _ _ _ _ _
   | exact ih5 _ _ _ _ _ _ _ _ _ _ _ _
   | exact ih6 _ _ _ _ _ _ _ _ _ _ _ _
   | exact ih7 _ _ _ _ _ _ _ _ _ _ _ _ _
   | exact ih8 _ _ _ _ _ _ _ _ _
   | exact cert_Check.mono _ _ _ _ _ _ _ _ _
   | exact cert_Gap.mono _ _ _ _ _ _ _ _ _
   | exact cert_Swap.mono _ _ _ _ _
   | exact pledgelaw21_first.mono _
   | exact pledgeref18_Cost.mono _ _ _ _ _
   | exact pledgeref18_Fits.mono _ _ _ _ _
   | exact pledgeref18_Least.mono _ _ _ _ _ _
   | exact pledgeref18_Valid.mono _ _ _ _
   | exact pledgeref18_Worth.mono _ _ _ _ _
   | exact pledgeref_Ints.mono _ _
   | exact LeO.none _
   | refine LeO.ite ?_ ?_
   | refine LeO.bind ?_ (fun _ => ?_)
  ·
   intro y0 y1 y2 y3 y4 y5 y6 y7 y8 y9 y10 y11 y12 y13 y14; unfold pledgelaw21_CertSays.j1
   repeat' first
   | (with_reducible exact ih0 _ _ _ _ _ _ _ _ _ _)
   | (with_reducible exact ih1 _ _ _ _ _ _ _ _ _ _ _ _ _ _ _)
   | (with_reducible exact ih2 _ _ _ _ _ _ _ _ _ _ _ _ _ _)
   | (with_reducible exact ih3 _ _ _ _ _ _ _ _ _ _ _ _ _ _)
   | (with_reducible exact ih4 _ _ _ _ _ _ _ _ _ _ _ _ _)
   | (with_reducible exact ih5 _ _ _ _ _ _ _ _ _ _ _ _)
   | (with_reducible exact ih6 _ _ _ _ _ _ _ _ _ _ _ _)
   | (with_reducible exact ih7 _ _ _ _ _ _ _ _ _ _ _ _ _)
   | (with_reducible exact ih8 _ _ _ _ _ _ _ _ _)
   | (with_reducible exact cert_Check.mono _ _ _ _ _ _ _ _ _)
   | (with_reducible exact cert_Gap.mono _ _ _ _ _ _ _ _ _)
   | (with_reducible exact cert_Swap.mono _ _ _ _ _)
   | (with_reducible exact pledgelaw21_first.mono _)
   | (with_reducible exact pledgeref18_Cost.mono _ _ _ _ _)
   | (with_reducible exact pledgeref18_Fits.mono _ _ _ _ _)
   | (with_reducible exact pledgeref18_Least.mono _ _ _ _ _ _)
   | (with_reducible exact pledgeref18_Valid.mono _ _ _ _)
   | (with_reducible exact pledgeref18_Worth.mono _ _ _ _ _)
   | (with_reducible exact pledgeref_Ints.mono _ _)
   | (with_reducible exact LeO.refl _)
   | (with_reducible exact LeO.none _)
   | (with_reducible refine LeO.ite ?_ ?_)
   | (with_reducible refine LeO.bind ?_ (fun _ => ?_))
   | exact ih0 _ _ _ _ _ _ _ _ _ _
   | exact ih1 _ _ _ _ _ _ _ _ _ _ _ _ _ _ _
   | exact ih2 _ _ _ _ _ _ _ _ _ _ _ _ _ _
   | exact ih3 _ _ _ _ _ _ _ _ _ _ _ _ _ _
   | exact ih4 _ _ _ _ _ _ _ _ _ _ _ _ _
   | exact ih5 _ _ _ _ _ _ _ _ _ _ _ _
   | exact ih6 _ _ _ _ _ _ _ _ _ _ _ _
   | exact ih7 _ _ _ _ _ _ _ _ _ _ _ _ _
   | exact ih8 _ _ _ _ _ _ _ _ _
   | exact cert_Check.mono _ _ _ _ _ _ _ _ _
   | exact cert_Gap.mono _ _ _ _ _ _ _ _ _
   | exact cert_Swap.mono _ _ _ _ _
   | exact pledgelaw21_first.mono _
   | exact pledgeref18_Cost.mono _ _ _ _ _
   | exact pledgeref18_Fits.mono _ _ _ _ _
   | exact pledgeref18_Least.mono _ _ _ _ _ _
   | exact pledgeref18_Valid.mono _ _ _ _
   | exact pledgeref18_Worth.mono _ _ _ _ _
   | exact pledgeref_Ints.mono _ _
   | exact LeO.none _
   | refine LeO.ite ?_ ?_
   | refine LeO.bind ?_ (fun _ => ?_)
  ·
   intro y0 y1 y2 y3 y4 y5 y6 y7 y8 y9 y10 y11 y12 y13; unfold pledgelaw21_CertSays.j2
   repeat' first
   | (with_reducible exact ih0 _ _ _ _ _ _ _ _ _ _)
   | (with_reducible exact ih1 _ _ _ _ _ _ _ _ _ _ _ _ _ _ _)
   | (with_reducible exact ih2 _ _ _ _ _ _ _ _ _ _ _ _ _ _)
   | (with_reducible exact ih3 _ _ _ _ _ _ _ _ _ _ _ _ _ _)
   | (with_reducible exact ih4 _ _ _ _ _ _ _ _ _ _ _ _ _)
   | (with_reducible exact ih5 _ _ _ _ _ _ _ _ _ _ _ _)
   | (with_reducible exact ih6 _ _ _ _ _ _ _ _ _ _ _ _)
   | (with_reducible exact ih7 _ _ _ _ _ _ _ _ _ _ _ _ _)
   | (with_reducible exact ih8 _ _ _ _ _ _ _ _ _)
   | (with_reducible exact cert_Check.mono _ _ _ _ _ _ _ _ _)
   | (with_reducible exact cert_Gap.mono _ _ _ _ _ _ _ _ _)
   | (with_reducible exact cert_Swap.mono _ _ _ _ _)
   | (with_reducible exact pledgelaw21_first.mono _)
   | (with_reducible exact pledgeref18_Cost.mono _ _ _ _ _)
   | (with_reducible exact pledgeref18_Fits.mono _ _ _ _ _)
   | (with_reducible exact pledgeref18_Least.mono _ _ _ _ _ _)
   | (with_reducible exact pledgeref18_Valid.mono _ _ _ _)
   | (with_reducible exact pledgeref18_Worth.mono _ _ _ _ _)
   | (with_reducible exact pledgeref_Ints.mono _ _)
   | (with_reducible exact LeO.refl _)
   | (with_reducible exact LeO.none _)
   | (with_reducible refine LeO.ite ?_ ?_)
   | (with_reducible refine LeO.bind ?_ (fun _ => ?_))
   | exact ih0 _ _ _ _ _ _ _ _ _ _
   | exact ih1 _ _ _ _ _ _ _ _ _ _ _ _ _ _ _
   | exact ih2 _ _ _ _ _ _ _ _ _ _ _ _ _ _
   | exact ih3 _ _ _ _ _ _ _ _ _ _ _ _ _ _
   | exact ih4 _ _ _ _ _ _ _ _ _ _ _ _ _
   | exact ih5 _ _ _ _ _ _ _ _ _ _ _ _
   | exact ih6 _ _ _ _ _ _ _ _ _ _ _ _
   | exact ih7 _ _ _ _ _ _ _ _ _ _ _ _ _
   | exact ih8 _ _ _ _ _ _ _ _ _
   | exact cert_Check.mono _ _ _ _ _ _ _ _ _
   | exact cert_Gap.mono _ _ _ _ _ _ _ _ _
   | exact cert_Swap.mono _ _ _ _ _
   | exact pledgelaw21_first.mono _
   | exact pledgeref18_Cost.mono _ _ _ _ _
   | exact pledgeref18_Fits.mono _ _ _ _ _
   | exact pledgeref18_Least.mono _ _ _ _ _ _
   | exact pledgeref18_Valid.mono _ _ _ _
   | exact pledgeref18_Worth.mono _ _ _ _ _
   | exact pledgeref_Ints.mono _ _
   | exact LeO.none _
   | refine LeO.ite ?_ ?_
   | refine LeO.bind ?_ (fun _ => ?_)
  ·
   intro y0 y1 y2 y3 y4 y5 y6 y7 y8 y9 y10 y11 y12 y13; unfold pledgelaw21_CertSays.j3
   repeat' first
   | (with_reducible exact ih0 _ _ _ _ _ _ _ _ _ _)
   | (with_reducible exact ih1 _ _ _ _ _ _ _ _ _ _ _ _ _ _ _)
   | (with_reducible exact ih2 _ _ _ _ _ _ _ _ _ _ _ _ _ _)
   | (with_reducible exact ih3 _ _ _ _ _ _ _ _ _ _ _ _ _ _)
   | (with_reducible exact ih4 _ _ _ _ _ _ _ _ _ _ _ _ _)
   | (with_reducible exact ih5 _ _ _ _ _ _ _ _ _ _ _ _)
   | (with_reducible exact ih6 _ _ _ _ _ _ _ _ _ _ _ _)
   | (with_reducible exact ih7 _ _ _ _ _ _ _ _ _ _ _ _ _)
   | (with_reducible exact ih8 _ _ _ _ _ _ _ _ _)
   | (with_reducible exact cert_Check.mono _ _ _ _ _ _ _ _ _)
   | (with_reducible exact cert_Gap.mono _ _ _ _ _ _ _ _ _)
   | (with_reducible exact cert_Swap.mono _ _ _ _ _)
   | (with_reducible exact pledgelaw21_first.mono _)
   | (with_reducible exact pledgeref18_Cost.mono _ _ _ _ _)
   | (with_reducible exact pledgeref18_Fits.mono _ _ _ _ _)
   | (with_reducible exact pledgeref18_Least.mono _ _ _ _ _ _)
   | (with_reducible exact pledgeref18_Valid.mono _ _ _ _)
   | (with_reducible exact pledgeref18_Worth.mono _ _ _ _ _)
   | (with_reducible exact pledgeref_Ints.mono _ _)
   | (with_reducible exact LeO.refl _)
   | (with_reducible exact LeO.none _)
   | (with_reducible refine LeO.ite ?_ ?_)
   | (with_reducible refine LeO.bind ?_ (fun _ => ?_))
   | exact ih0 _ _ _ _ _ _ _ _ _ _
   | exact ih1 _ _ _ _ _ _ _ _ _ _ _ _ _ _ _
   | exact ih2 _ _ _ _ _ _ _ _ _ _ _ _ _ _
   | exact ih3 _ _ _ _ _ _ _ _ _ _ _ _ _ _
   | exact ih4 _ _ _ _ _ _ _ _ _ _ _ _ _
   | exact ih5 _ _ _ _ _ _ _ _ _ _ _ _
   | exact ih6 _ _ _ _ _ _ _ _ _ _ _ _
   | exact ih7 _ _ _ _ _ _ _ _ _ _ _ _ _
   | exact ih8 _ _ _ _ _ _ _ _ _
   | exact cert_Check.mono _ _ _ _ _ _ _ _ _
   | exact cert_Gap.mono _ _ _ _ _ _ _ _ _
   | exact cert_Swap.mono _ _ _ _ _
   | exact pledgelaw21_first.mono _
   | exact pledgeref18_Cost.mono _ _ _ _ _
   | exact pledgeref18_Fits.mono _ _ _ _ _
   | exact pledgeref18_Least.mono _ _ _ _ _ _
   | exact pledgeref18_Valid.mono _ _ _ _
   | exact pledgeref18_Worth.mono _ _ _ _ _
   | exact pledgeref_Ints.mono _ _
   | exact LeO.none _
   | refine LeO.ite ?_ ?_
   | refine LeO.bind ?_ (fun _ => ?_)
  ·
   intro y0 y1 y2 y3 y4 y5 y6 y7 y8 y9 y10 y11 y12; unfold pledgelaw21_CertSays.j4
   repeat' first
   | (with_reducible exact ih0 _ _ _ _ _ _ _ _ _ _)
   | (with_reducible exact ih1 _ _ _ _ _ _ _ _ _ _ _ _ _ _ _)
   | (with_reducible exact ih2 _ _ _ _ _ _ _ _ _ _ _ _ _ _)
   | (with_reducible exact ih3 _ _ _ _ _ _ _ _ _ _ _ _ _ _)
   | (with_reducible exact ih4 _ _ _ _ _ _ _ _ _ _ _ _ _)
   | (with_reducible exact ih5 _ _ _ _ _ _ _ _ _ _ _ _)
   | (with_reducible exact ih6 _ _ _ _ _ _ _ _ _ _ _ _)
   | (with_reducible exact ih7 _ _ _ _ _ _ _ _ _ _ _ _ _)
   | (with_reducible exact ih8 _ _ _ _ _ _ _ _ _)
   | (with_reducible exact cert_Check.mono _ _ _ _ _ _ _ _ _)
   | (with_reducible exact cert_Gap.mono _ _ _ _ _ _ _ _ _)
   | (with_reducible exact cert_Swap.mono _ _ _ _ _)
   | (with_reducible exact pledgelaw21_first.mono _)
   | (with_reducible exact pledgeref18_Cost.mono _ _ _ _ _)
   | (with_reducible exact pledgeref18_Fits.mono _ _ _ _ _)
   | (with_reducible exact pledgeref18_Least.mono _ _ _ _ _ _)
   | (with_reducible exact pledgeref18_Valid.mono _ _ _ _)
   | (with_reducible exact pledgeref18_Worth.mono _ _ _ _ _)
   | (with_reducible exact pledgeref_Ints.mono _ _)
   | (with_reducible exact LeO.refl _)
   | (with_reducible exact LeO.none _)
   | (with_reducible refine LeO.ite ?_ ?_)
   | (with_reducible refine LeO.bind ?_ (fun _ => ?_))
   | exact ih0 _ _ _ _ _ _ _ _ _ _
   | exact ih1 _ _ _ _ _ _ _ _ _ _ _ _ _ _ _
   | exact ih2 _ _ _ _ _ _ _ _ _ _ _ _ _ _
   | exact ih3 _ _ _ _ _ _ _ _ _ _ _ _ _ _
   | exact ih4 _ _ _ _ _ _ _ _ _ _ _ _ _
   | exact ih5 _ _ _ _ _ _ _ _ _ _ _ _
   | exact ih6 _ _ _ _ _ _ _ _ _ _ _ _
   | exact ih7 _ _ _ _ _ _ _ _ _ _ _ _ _
   | exact ih8 _ _ _ _ _ _ _ _ _
   | exact cert_Check.mono _ _ _ _ _ _ _ _ _
   | exact cert_Gap.mono _ _ _ _ _ _ _ _ _
   | exact cert_Swap.mono _ _ _ _ _
   | exact pledgelaw21_first.mono _
   | exact pledgeref18_Cost.mono _ _ _ _ _
   | exact pledgeref18_Fits.mono _ _ _ _ _
   | exact pledgeref18_Least.mono _ _ _ _ _ _
   | exact pledgeref18_Valid.mono _ _ _ _
   | exact pledgeref18_Worth.mono _ _ _ _ _
   | exact pledgeref_Ints.mono _ _
   | exact LeO.none _
   | refine LeO.ite ?_ ?_
   | refine LeO.bind ?_ (fun _ => ?_)
  ·
   intro y0 y1 y2 y3 y4 y5 y6 y7 y8 y9 y10 y11; unfold pledgelaw21_CertSays.j5
   repeat' first
   | (with_reducible exact ih0 _ _ _ _ _ _ _ _ _ _)
   | (with_reducible exact ih1 _ _ _ _ _ _ _ _ _ _ _ _ _ _ _)
   | (with_reducible exact ih2 _ _ _ _ _ _ _ _ _ _ _ _ _ _)
   | (with_reducible exact ih3 _ _ _ _ _ _ _ _ _ _ _ _ _ _)
   | (with_reducible exact ih4 _ _ _ _ _ _ _ _ _ _ _ _ _)
   | (with_reducible exact ih5 _ _ _ _ _ _ _ _ _ _ _ _)
   | (with_reducible exact ih6 _ _ _ _ _ _ _ _ _ _ _ _)
   | (with_reducible exact ih7 _ _ _ _ _ _ _ _ _ _ _ _ _)
   | (with_reducible exact ih8 _ _ _ _ _ _ _ _ _)
   | (with_reducible exact cert_Check.mono _ _ _ _ _ _ _ _ _)
   | (with_reducible exact cert_Gap.mono _ _ _ _ _ _ _ _ _)
   | (with_reducible exact cert_Swap.mono _ _ _ _ _)
   | (with_reducible exact pledgelaw21_first.mono _)
   | (with_reducible exact pledgeref18_Cost.mono _ _ _ _ _)
   | (with_reducible exact pledgeref18_Fits.mono _ _ _ _ _)
   | (with_reducible exact pledgeref18_Least.mono _ _ _ _ _ _)
   | (with_reducible exact pledgeref18_Valid.mono _ _ _ _)
   | (with_reducible exact pledgeref18_Worth.mono _ _ _ _ _)
   | (with_reducible exact pledgeref_Ints.mono _ _)
   | (with_reducible exact LeO.refl _)
   | (with_reducible exact LeO.none _)
   | (with_reducible refine LeO.ite ?_ ?_)
   | (with_reducible refine LeO.bind ?_ (fun _ => ?_))
   | exact ih0 _ _ _ _ _ _ _ _ _ _
   | exact ih1 _ _ _ _ _ _ _ _ _ _ _ _ _ _ _
   | exact ih2 _ _ _ _ _ _ _ _ _ _ _ _ _ _
   | exact ih3 _ _ _ _ _ _ _ _ _ _ _ _ _ _
   | exact ih4 _ _ _ _ _ _ _ _ _ _ _ _ _
   | exact ih5 _ _ _ _ _ _ _ _ _ _ _ _
   | exact ih6 _ _ _ _ _ _ _ _ _ _ _ _
   | exact ih7 _ _ _ _ _ _ _ _ _ _ _ _ _
   | exact ih8 _ _ _ _ _ _ _ _ _
   | exact cert_Check.mono _ _ _ _ _ _ _ _ _
   | exact cert_Gap.mono _ _ _ _ _ _ _ _ _
   | exact cert_Swap.mono _ _ _ _ _
   | exact pledgelaw21_first.mono _
   | exact pledgeref18_Cost.mono _ _ _ _ _
   | exact pledgeref18_Fits.mono _ _ _ _ _
   | exact pledgeref18_Least.mono _ _ _ _ _ _
   | exact pledgeref18_Valid.mono _ _ _ _
   | exact pledgeref18_Worth.mono _ _ _ _ _
   | exact pledgeref_Ints.mono _ _
   | exact LeO.none _
   | refine LeO.ite ?_ ?_
   | refine LeO.bind ?_ (fun _ => ?_)
  ·
   intro y0 y1 y2 y3 y4 y5 y6 y7 y8 y9 y10 y11; unfold pledgelaw21_CertSays.l0
   repeat' first
   | (with_reducible exact ih0 _ _ _ _ _ _ _ _ _ _)
   | (with_reducible exact ih1 _ _ _ _ _ _ _ _ _ _ _ _ _ _ _)
   | (with_reducible exact ih2 _ _ _ _ _ _ _ _ _ _ _ _ _ _)
   | (with_reducible exact ih3 _ _ _ _ _ _ _ _ _ _ _ _ _ _)
   | (with_reducible exact ih4 _ _ _ _ _ _ _ _ _ _ _ _ _)
   | (with_reducible exact ih5 _ _ _ _ _ _ _ _ _ _ _ _)
   | (with_reducible exact ih6 _ _ _ _ _ _ _ _ _ _ _ _)
   | (with_reducible exact ih7 _ _ _ _ _ _ _ _ _ _ _ _ _)
   | (with_reducible exact ih8 _ _ _ _ _ _ _ _ _)
   | (with_reducible exact cert_Check.mono _ _ _ _ _ _ _ _ _)
   | (with_reducible exact cert_Gap.mono _ _ _ _ _ _ _ _ _)
   | (with_reducible exact cert_Swap.mono _ _ _ _ _)
   | (with_reducible exact pledgelaw21_first.mono _)
   | (with_reducible exact pledgeref18_Cost.mono _ _ _ _ _)
   | (with_reducible exact pledgeref18_Fits.mono _ _ _ _ _)
   | (with_reducible exact pledgeref18_Least.mono _ _ _ _ _ _)
   | (with_reducible exact pledgeref18_Valid.mono _ _ _ _)
   | (with_reducible exact pledgeref18_Worth.mono _ _ _ _ _)
   | (with_reducible exact pledgeref_Ints.mono _ _)
   | (with_reducible exact LeO.refl _)
   | (with_reducible exact LeO.none _)
   | (with_reducible refine LeO.ite ?_ ?_)
   | (with_reducible refine LeO.bind ?_ (fun _ => ?_))
   | exact ih0 _ _ _ _ _ _ _ _ _ _
   | exact ih1 _ _ _ _ _ _ _ _ _ _ _ _ _ _ _
   | exact ih2 _ _ _ _ _ _ _ _ _ _ _ _ _ _
   | exact ih3 _ _ _ _ _ _ _ _ _ _ _ _ _ _
   | exact ih4 _ _ _ _ _ _ _ _ _ _ _ _ _
   | exact ih5 _ _ _ _ _ _ _ _ _ _ _ _
   | exact ih6 _ _ _ _ _ _ _ _ _ _ _ _
   | exact ih7 _ _ _ _ _ _ _ _ _ _ _ _ _
   | exact ih8 _ _ _ _ _ _ _ _ _
   | exact cert_Check.mono _ _ _ _ _ _ _ _ _
   | exact cert_Gap.mono _ _ _ _ _ _ _ _ _
   | exact cert_Swap.mono _ _ _ _ _
   | exact pledgelaw21_first.mono _
   | exact pledgeref18_Cost.mono _ _ _ _ _
   | exact pledgeref18_Fits.mono _ _ _ _ _
   | exact pledgeref18_Least.mono _ _ _ _ _ _
   | exact pledgeref18_Valid.mono _ _ _ _
   | exact pledgeref18_Worth.mono _ _ _ _ _
   | exact pledgeref_Ints.mono _ _
   | exact LeO.none _
   | refine LeO.ite ?_ ?_
   | refine LeO.bind ?_ (fun _ => ?_)
  ·
   intro y0 y1 y2 y3 y4 y5 y6 y7 y8 y9 y10 y11 y12; unfold pledgelaw21_CertSays.j7
   repeat' first
   | (with_reducible exact ih0 _ _ _ _ _ _ _ _ _ _)
   | (with_reducible exact ih1 _ _ _ _ _ _ _ _ _ _ _ _ _ _ _)
   | (with_reducible exact ih2 _ _ _ _ _ _ _ _ _ _ _ _ _ _)
   | (with_reducible exact ih3 _ _ _ _ _ _ _ _ _ _ _ _ _ _)
   | (with_reducible exact ih4 _ _ _ _ _ _ _ _ _ _ _ _ _)
   | (with_reducible exact ih5 _ _ _ _ _ _ _ _ _ _ _ _)
   | (with_reducible exact ih6 _ _ _ _ _ _ _ _ _ _ _ _)
   | (with_reducible exact ih7 _ _ _ _ _ _ _ _ _ _ _ _ _)
   | (with_reducible exact ih8 _ _ _ _ _ _ _ _ _)
   | (with_reducible exact cert_Check.mono _ _ _ _ _ _ _ _ _)
   | (with_reducible exact cert_Gap.mono _ _ _ _ _ _ _ _ _)
   | (with_reducible exact cert_Swap.mono _ _ _ _ _)
   | (with_reducible exact pledgelaw21_first.mono _)
   | (with_reducible exact pledgeref18_Cost.mono _ _ _ _ _)
   | (with_reducible exact pledgeref18_Fits.mono _ _ _ _ _)
   | (with_reducible exact pledgeref18_Least.mono _ _ _ _ _ _)
   | (with_reducible exact pledgeref18_Valid.mono _ _ _ _)
   | (with_reducible exact pledgeref18_Worth.mono _ _ _ _ _)
   | (with_reducible exact pledgeref_Ints.mono _ _)
   | (with_reducible exact LeO.refl _)
   | (with_reducible exact LeO.none _)
   | (with_reducible refine LeO.ite ?_ ?_)
   | (with_reducible refine LeO.bind ?_ (fun _ => ?_))
   | exact ih0 _ _ _ _ _ _ _ _ _ _
   | exact ih1 _ _ _ _ _ _ _ _ _ _ _ _ _ _ _
   | exact ih2 _ _ _ _ _ _ _ _ _ _ _ _ _ _
   | exact ih3 _ _ _ _ _ _ _ _ _ _ _ _ _ _
   | exact ih4 _ _ _ _ _ _ _ _ _ _ _ _ _
   | exact ih5 _ _ _ _ _ _ _ _ _ _ _ _
   | exact ih6 _ _ _ _ _ _ _ _ _ _ _ _
   | exact ih7 _ _ _ _ _ _ _ _ _ _ _ _ _
   | exact ih8 _ _ _ _ _ _ _ _ _
   | exact cert_Check.mono _ _ _ _ _ _ _ _ _
   | exact cert_Gap.mono _ _ _ _ _ _ _ _ _
   | exact cert_Swap.mono _ _ _ _ _
   | exact pledgelaw21_first.mono _
   | exact pledgeref18_Cost.mono _ _ _ _ _
   | exact pledgeref18_Fits.mono _ _ _ _ _
   | exact pledgeref18_Least.mono _ _ _ _ _ _
   | exact pledgeref18_Valid.mono _ _ _ _
   | exact pledgeref18_Worth.mono _ _ _ _ _
   | exact pledgeref_Ints.mono _ _
   | exact LeO.none _
   | refine LeO.ite ?_ ?_
   | refine LeO.bind ?_ (fun _ => ?_)
  ·
   intro y0 y1 y2 y3 y4 y5 y6 y7 y8; unfold pledgelaw21_CertSays.l1
   repeat' first
   | (with_reducible exact ih0 _ _ _ _ _ _ _ _ _ _)
   | (with_reducible exact ih1 _ _ _ _ _ _ _ _ _ _ _ _ _ _ _)
   | (with_reducible exact ih2 _ _ _ _ _ _ _ _ _ _ _ _ _ _)
   | (with_reducible exact ih3 _ _ _ _ _ _ _ _ _ _ _ _ _ _)
   | (with_reducible exact ih4 _ _ _ _ _ _ _ _ _ _ _ _ _)
   | (with_reducible exact ih5 _ _ _ _ _ _ _ _ _ _ _ _)
   | (with_reducible exact ih6 _ _ _ _ _ _ _ _ _ _ _ _)
   | (with_reducible exact ih7 _ _ _ _ _ _ _ _ _ _ _ _ _)
   | (with_reducible exact ih8 _ _ _ _ _ _ _ _ _)
   | (with_reducible exact cert_Check.mono _ _ _ _ _ _ _ _ _)
   | (with_reducible exact cert_Gap.mono _ _ _ _ _ _ _ _ _)
   | (with_reducible exact cert_Swap.mono _ _ _ _ _)
   | (with_reducible exact pledgelaw21_first.mono _)
   | (with_reducible exact pledgeref18_Cost.mono _ _ _ _ _)
   | (with_reducible exact pledgeref18_Fits.mono _ _ _ _ _)
   | (with_reducible exact pledgeref18_Least.mono _ _ _ _ _ _)
   | (with_reducible exact pledgeref18_Valid.mono _ _ _ _)
   | (with_reducible exact pledgeref18_Worth.mono _ _ _ _ _)
   | (with_reducible exact pledgeref_Ints.mono _ _)
   | (with_reducible exact LeO.refl _)
   | (with_reducible exact LeO.none _)
   | (with_reducible refine LeO.ite ?_ ?_)
   | (with_reducible refine LeO.bind ?_ (fun _ => ?_))
   | exact ih0 _ _ _ _ _ _ _ _ _ _
   | exact ih1 _ _ _ _ _ _ _ _ _ _ _ _ _ _ _
   | exact ih2 _ _ _ _ _ _ _ _ _ _ _ _ _ _
   | exact ih3 _ _ _ _ _ _ _ _ _ _ _ _ _ _
   | exact ih4 _ _ _ _ _ _ _ _ _ _ _ _ _
   | exact ih5 _ _ _ _ _ _ _ _ _ _ _ _
   | exact ih6 _ _ _ _ _ _ _ _ _ _ _ _
   | exact ih7 _ _ _ _ _ _ _ _ _ _ _ _ _
   | exact ih8 _ _ _ _ _ _ _ _ _
   | exact cert_Check.mono _ _ _ _ _ _ _ _ _
   | exact cert_Gap.mono _ _ _ _ _ _ _ _ _
   | exact cert_Swap.mono _ _ _ _ _
   | exact pledgelaw21_first.mono _
   | exact pledgeref18_Cost.mono _ _ _ _ _
   | exact pledgeref18_Fits.mono _ _ _ _ _
   | exact pledgeref18_Least.mono _ _ _ _ _ _
   | exact pledgeref18_Valid.mono _ _ _ _
   | exact pledgeref18_Worth.mono _ _ _ _ _
   | exact pledgeref_Ints.mono _ _
   | exact LeO.none _
   | refine LeO.ite ?_ ?_
   | refine LeO.bind ?_ (fun _ => ?_)
theorem pledgelaw21_CertSays.mono : ∀ a0 a1 a2 a3 a4 a5 a6 a7 k, LeO (pledgelaw21_CertSays.f k a0 a1 a2 a3 a4 a5 a6 a7) (pledgelaw21_CertSays.f (k + 1) a0 a1 a2 a3 a4 a5 a6 a7) := by
 intro a0 a1 a2 a3 a4 a5 a6 a7 k; obtain ⟨ih0, ih1, ih2, ih3, ih4, ih5, ih6, ih7, ih8⟩ := pledgelaw21_CertSays.mono_l k; unfold pledgelaw21_CertSays.f
 repeat' first
   | (with_reducible exact ih0 _ _ _ _ _ _ _ _ _ _)
   | (with_reducible exact ih1 _ _ _ _ _ _ _ _ _ _ _ _ _ _ _)
   | (with_reducible exact ih2 _ _ _ _ _ _ _ _ _ _ _ _ _ _)
   | (with_reducible exact ih3 _ _ _ _ _ _ _ _ _ _ _ _ _ _)
   | (with_reducible exact ih4 _ _ _ _ _ _ _ _ _ _ _ _ _)
   | (with_reducible exact ih5 _ _ _ _ _ _ _ _ _ _ _ _)
   | (with_reducible exact ih6 _ _ _ _ _ _ _ _ _ _ _ _)
   | (with_reducible exact ih7 _ _ _ _ _ _ _ _ _ _ _ _ _)
   | (with_reducible exact ih8 _ _ _ _ _ _ _ _ _)
   | (with_reducible exact cert_Check.mono _ _ _ _ _ _ _ _ _)
   | (with_reducible exact cert_Gap.mono _ _ _ _ _ _ _ _ _)
   | (with_reducible exact cert_Swap.mono _ _ _ _ _)
   | (with_reducible exact pledgelaw21_first.mono _)
   | (with_reducible exact pledgeref18_Cost.mono _ _ _ _ _)
   | (with_reducible exact pledgeref18_Fits.mono _ _ _ _ _)
   | (with_reducible exact pledgeref18_Least.mono _ _ _ _ _ _)
   | (with_reducible exact pledgeref18_Valid.mono _ _ _ _)
   | (with_reducible exact pledgeref18_Worth.mono _ _ _ _ _)
   | (with_reducible exact pledgeref_Ints.mono _ _)
   | (with_reducible exact LeO.refl _)
   | (with_reducible exact LeO.none _)
   | (with_reducible refine LeO.ite ?_ ?_)
   | (with_reducible refine LeO.bind ?_ (fun _ => ?_))
   | exact ih0 _ _ _ _ _ _ _ _ _ _
   | exact ih1 _ _ _ _ _ _ _ _ _ _ _ _ _ _ _
   | exact ih2 _ _ _ _ _ _ _ _ _ _ _ _ _ _
   | exact ih3 _ _ _ _ _ _ _ _ _ _ _ _ _ _
   | exact ih4 _ _ _ _ _ _ _ _ _ _ _ _ _
   | exact ih5 _ _ _ _ _ _ _ _ _ _ _ _
   | exact ih6 _ _ _ _ _ _ _ _ _ _ _ _
   | exact ih7 _ _ _ _ _ _ _ _ _ _ _ _ _
   | exact ih8 _ _ _ _ _ _ _ _ _
   | exact cert_Check.mono _ _ _ _ _ _ _ _ _
   | exact cert_Gap.mono _ _ _ _ _ _ _ _ _
   | exact cert_Swap.mono _ _ _ _ _
   | exact pledgelaw21_first.mono _
   | exact pledgeref18_Cost.mono _ _ _ _ _
   | exact pledgeref18_Fits.mono _ _ _ _ _
   | exact pledgeref18_Least.mono _ _ _ _ _ _
   | exact pledgeref18_Valid.mono _ _ _ _
   | exact pledgeref18_Worth.mono _ _ _ _ _
   | exact pledgeref_Ints.mono _ _
   | exact LeO.none _
   | refine LeO.ite ?_ ?_
   | refine LeO.bind ?_ (fun _ => ?_)
set_option maxHeartbeats 8000000 in
set_option maxRecDepth 100000 in
theorem pledgelaw21_CertSays.calls [Inhabited (Int → Addr)] (k : Nat) (A0_0 : Option Addr) (c0_0 : Nat) (l0_0 : List (S47)) (A0_1 : Option Addr) (c0_1 : Nat) (l0_1 : List Int) (a0_2 : Int) (A1_0 : Option Addr) (c1_0 : Nat) (l1_0 : List Int) (a1_1 : Int) (a1_2 : Int) (a1_3 : Bool) (a1_4 : Int) (r : Bool) (w : World) (hG : GlobOK w) (hr0_0 : Kd.C k47 w A0_0 l0_0.length l0_0) (hc0_0 : l0_0.length ≤ c0_0) (hr0_1 : Kd.C (Kd.int .i64) w A0_1 l0_1.length l0_1) (hc0_1 : l0_1.length ≤ c0_1) (hr1_0 : Kd.C (Kd.int .i64) w A1_0 l1_0.length l1_0) (hc1_0 : l1_0.length ≤ c1_0) (h : pledgelaw21_CertSays.f k l0_0 l0_1 a0_2 l1_0 a1_1 a1_2 a1_3 a1_4 = some r) :
  Calls Tryd.prog 3 #[.agg #[.slice A0_0 l0_0.length c0_0, .slice A0_1 l0_1.length c0_1, .int .i64 a0_2], .agg #[.slice A1_0 l1_0.length c1_0, .int .i64 a1_1, .int .i64 a1_2, .bool a1_3, .int .i64 a1_4]] w fun e w' => e = .returned (.bool r) ∧ Below w.heap.size w w' := by
 have hu25 := Tryd.underlying25; have hu28 := Tryd.underlying28; have hu30 := Tryd.underlying30; have hu36 := Tryd.underlying36; have hu107 := Tryd.underlying107; have HG := Aside0.mk hG; clear hG; have HR0_0 := Aside0.mk hr0_0; have HC0_0 := Aside0.mk hc0_0; clear hr0_0 hc0_0; have HR0_1 := Aside0.mk hr0_1; have HC0_1 := Aside0.mk hc0_1; clear hr0_1 hc0_1; have HR1_0 := Aside0.mk hr1_0; have HC1_0 := Aside0.mk hc1_0; clear hr1_0 hc1_0; have HB := Aside0.mk (Below.refl w.heap.size w); have H : ((pledgelaw21_first.f k).bind fun t331 => (if t331 = true then (if (l0_0.length : Int) > 20 then (pledgelaw21_CertSays.j0 k t331 true l0_0 l0_1 a0_2 l1_0 a1_1 a1_2 a1_3 a1_4) else (if (l0_1.length : Int) > 20 then (pledgelaw21_CertSays.j0 k t331 true l0_0 l0_1 a0_2 l1_0 a1_1 a1_2 a1_3 a1_4) else (if (l1_0.length : Int) > 20 then (pledgelaw21_CertSays.j0 k t331 true l0_0 l0_1 a0_2 l1_0 a1_1 a1_2 a1_3 a1_4) else (pledgelaw21_CertSays.j0 k t331 (!t331) l0_0 l0_1 a0_2 l1_0 a1_1 a1_2 a1_3 a1_4)))) else (some false))) = some r := h; clear h; replace H := Option.bind_eq_some_iff.mp H; obtain ⟨t331, A30, H⟩ := H; replace H : (if t331 = true then (if (l0_0.length : Int) > 20 then (pledgelaw21_CertSays.j0 k t331 true l0_0 l0_1 a0_2 l1_0 a1_1 a1_2 a1_3 a1_4) else (if (l0_1.length : Int) > 20 then (pledgelaw21_CertSays.j0 k t331 true l0_0 l0_1 a0_2 l1_0 a1_1 a1_2 a1_3 a1_4) else (if (l1_0.length : Int) > 20 then (pledgelaw21_CertSays.j0 k t331 true l0_0 l0_1 a0_2 l1_0 a1_1 a1_2 a1_3 a1_4) else (pledgelaw21_CertSays.j0 k t331 (!t331) l0_0 l0_1 a0_2 l1_0 a1_1 a1_2 a1_3 a1_4)))) else (some false)) = some r := H; have A3 := Aside0.mk A30; clear A30; by_cases c4 : t331 = true
 ·
  subst c4; have H1 : (if (l0_0.length : Int) > 20 then (pledgelaw21_CertSays.j0 k true true l0_0 l0_1 a0_2 l1_0 a1_1 a1_2 a1_3 a1_4) else (if (l0_1.length : Int) > 20 then (pledgelaw21_CertSays.j0 k true true l0_0 l0_1 a0_2 l1_0 a1_1 a1_2 a1_3 a1_4) else (if (l1_0.length : Int) > 20 then (pledgelaw21_CertSays.j0 k true true l0_0 l0_1 a0_2 l1_0 a1_1 a1_2 a1_3 a1_4) else (pledgelaw21_CertSays.j0 k true (!true) l0_0 l0_1 a0_2 l1_0 a1_1 a1_2 a1_3 a1_4)))) = some r := by rw [if_pos rfl] at H; exact H
  clear H; have H := H1; clear H1; have HC5 := Aside0.mk H; clear H
  go_enter Tryd.func3, Tryd.ntmps3
  go_upto_region 4 with (first | ((with_reducible refine gate_dst (N := 2) rfl ?_); (try (refine gate_guard (by rfl) ?_; dsimp only)); refine box_event ?hg (N := 2) ?hd (cs := #[.slice A0_0 l0_0.length c0_0, .slice A0_1 l0_1.length c0_1, .int .i64 a0_2]) (t := 25) ?hr ?_; (case hd => rfl); (case hg => rfl); (case hr => first | (go_simp; done) | (go_simp; rfl)); intro gb329 hg w6 hbox hb; have n0_ := Aside0.mk (below_step (zH HB.out) hb); have n1_ := Aside0.mk (hbox); have n2_ := Aside0.mk (zg hg (below_size (zH HB.out)) : w.heap.size ≤ gb329); have n3_ := Aside0.mk (zg hg (below_size (zH HB.out)) : w.heap.size ≤ gb329); clear HB; have HB := n0_; have BK329 := n1_; have GW329 := n2_; have GE329 := n3_; clear n0_ n1_ n2_ n3_; clear hb hbox hg) | ((with_reducible refine gate_dst (N := 3) rfl ?_); (try (refine gate_guard (by rfl) ?_; dsimp only)); refine box_event ?hg (N := 3) ?hd (cs := #[.slice A1_0 l1_0.length c1_0, .int .i64 a1_1, .int .i64 a1_2, .bool a1_3, .int .i64 a1_4]) (t := 28) ?hr ?_; (case hd => rfl); (case hg => rfl); (case hr => first | (go_simp; done) | (go_simp; rfl)); intro gb330 hg w7 hbox hb; have n0_ := zBB BK329 hb; have n1_ := Aside0.mk (below_step (zH1 HB.out GE329.out) hb); have n2_ := Aside0.mk (hbox); have n3_ := Aside0.mk (zg hg (below_size (zH1 HB.out GE329.out)) : w.heap.size ≤ gb330); have n4_ := Aside0.mk (zg hg (below_size (zH1 HB.out GE329.out)) : w.heap.size ≤ gb330); have n5_ := Aside0.mk (zN hg BK329 : gb329 ≠ gb330); have n6_ := Aside0.mk (zO hg BK329 : gb330 ≠ gb329); clear BK329; clear HB; have BK329 := n0_; have HB := n1_; have BK330 := n2_; have GW330 := n3_; have GE330 := n4_; have NB329_330 := n5_; have NB330_329 := n6_; clear n0_ n1_ n2_ n3_ n4_ n5_ n6_; clear hb hbox hg) | ((with_reducible refine gate_callee (f := 5) rfl ?_); refine goesL_ (some 23) rfl rfl Tryd.func5 (by kernel_rfl) rfl #[] rfl zM ?_; (with_reducible refine (pledgelaw21_first.calls k  true _ ?side1 A3.out).mono ?_); (case side1 => exact GlobOK.below HG.out (zH2 HB.out GE329.out GE330.out)); rintro e w8 ⟨rfl, hb⟩; refine ⟨_, rfl, ?_⟩; have n0_ := zBB BK329 hb; have n1_ := zBB BK330 hb; have n2_ := Aside0.mk (below_step (zH2 HB.out GE329.out GE330.out) hb); clear BK329; clear BK330; clear HB; have BK329 := n0_; have BK330 := n1_; have HB := n2_; clear n0_ n1_ n2_; (try clear hb); (try clear hb2); (try clear hk); (try clear hi)))
  (try simp only [Act.put, zq1, zq2, zq3])
  go_cut [45] (fun v45 wc => ∃ (kq : Nat) (x45_4 : Bool), v45 = .bool x45_4 ∧ Aside0 (pledgelaw21_CertSays.j0 kq true x45_4 l0_0 l0_1 a0_2 l1_0 a1_1 a1_2 a1_3 a1_4 = some r) ∧ Aside0 (kq ≤ k) ∧ Aside0 (wc.heap[gb329]? = some (.cells #[(.slice A0_0 l0_0.length c0_0), (.slice A0_1 l0_1.length c0_1), .int .i64 a0_2] 25 (0, 0))) ∧ Aside0 (wc.heap[gb330]? = some (.cells #[(.slice A1_0 l1_0.length c1_0), .int .i64 a1_1, .int .i64 a1_2, .bool a1_3, .int .i64 a1_4] 28 (0, 0))) ∧ Aside0 (Below w.heap.size w wc))
  case first => as_aux_lemma =>
   have H := HC5.out; clear HC5; by_cases c9 : (l0_0.length : Int) > 20
   ·
    rw [if_pos c9] at H; have c9b0 : decide (20 < (l0_0.length : Int)) = true := decide_eq_true c9; have c9b1 : decide (20 < l0_0.length) = true := decide_eq_true (by omega); clear c9
    (first | rw [c9b0] | (simp only [i64_w, i32_w]; rw [c9b0]) | skip)
    have H' := Aside0.mk H; clear H; have hnb10 := NB329_330.out; have hnc10 := NB330_329.out; have hcz11_0 : w8.cell? ⟨gb329, 0, none⟩ = some (.slice A0_0 l0_0.length c0_0) := (blk_cell BK329.out 0).trans rfl; have hcz11_1 : w8.cell? ⟨gb329, 1, none⟩ = some (.slice A0_1 l0_1.length c0_1) := (blk_cell BK329.out 1).trans rfl; have hcz11_2 : w8.cell? ⟨gb329, 2, none⟩ = some (.int .i64 a0_2) := (blk_cell BK329.out 2).trans rfl; have hfz11_0 := blk_frozen BK329.out 0; have hfz11_1 := blk_frozen BK329.out 1; have hfz11_2 := blk_frozen BK329.out 2
    go_wp2
    go_meet
    case rel => exact ⟨_, (true), (by first | rfl | (simp; done) | (simp [*]; done)), H', ⟨by first | omega | exact Nat.le_refl _⟩, ⟨zB BK329.out⟩, ⟨zB BK330.out⟩, ⟨zH2 HB.out GE329.out GE330.out⟩⟩
   ·
    rw [if_neg c9] at H; have c9b0 : decide (20 < (l0_0.length : Int)) = false := decide_eq_false c9; have c9b1 : decide (20 < l0_0.length) = false := decide_eq_false (by omega); clear c9
    (first | rw [c9b0] | (simp only [i64_w, i32_w]; rw [c9b0]) | skip)
    by_cases c12 : (l0_1.length : Int) > 20
    ·
     rw [if_pos c12] at H; have c12b0 : decide (20 < (l0_1.length : Int)) = true := decide_eq_true c12; have c12b1 : decide (20 < l0_1.length) = true := decide_eq_true (by omega); clear c12; have H' := Aside0.mk H; clear H; have hnb13 := NB329_330.out; have hnc13 := NB330_329.out; have hcz14_0 : w8.cell? ⟨gb329, 0, none⟩ = some (.slice A0_0 l0_0.length c0_0) := (blk_cell BK329.out 0).trans rfl; have hcz14_1 : w8.cell? ⟨gb329, 1, none⟩ = some (.slice A0_1 l0_1.length c0_1) := (blk_cell BK329.out 1).trans rfl; have hcz14_2 : w8.cell? ⟨gb329, 2, none⟩ = some (.int .i64 a0_2) := (blk_cell BK329.out 2).trans rfl; have hfz14_0 := blk_frozen BK329.out 0; have hfz14_1 := blk_frozen BK329.out 1; have hfz14_2 := blk_frozen BK329.out 2
     go_wp2
     go_meet
     case rel => exact ⟨_, (true), (by first | rfl | (simp; done) | (simp [*]; done)), H', ⟨by first | omega | exact Nat.le_refl _⟩, ⟨zB BK329.out⟩, ⟨zB BK330.out⟩, ⟨zH2 HB.out GE329.out GE330.out⟩⟩
    ·
     rw [if_neg c12] at H; have c12b0 : decide (20 < (l0_1.length : Int)) = false := decide_eq_false c12; have c12b1 : decide (20 < l0_1.length) = false := decide_eq_false (by omega); clear c12; by_cases c15 : (l1_0.length : Int) > 20
     ·
      rw [if_pos c15] at H; have c15b0 : decide (20 < (l1_0.length : Int)) = true := decide_eq_true c15; have c15b1 : decide (20 < l1_0.length) = true := decide_eq_true (by omega); clear c15; have H' := Aside0.mk H; clear H; have hnb16 := NB329_330.out; have hnc16 := NB330_329.out; have hcz17_0 : w8.cell? ⟨gb329, 0, none⟩ = some (.slice A0_0 l0_0.length c0_0) := (blk_cell BK329.out 0).trans rfl; have hcz17_1 : w8.cell? ⟨gb329, 1, none⟩ = some (.slice A0_1 l0_1.length c0_1) := (blk_cell BK329.out 1).trans rfl; have hcz17_2 : w8.cell? ⟨gb329, 2, none⟩ = some (.int .i64 a0_2) := (blk_cell BK329.out 2).trans rfl; have hfz17_0 := blk_frozen BK329.out 0; have hfz17_1 := blk_frozen BK329.out 1; have hfz17_2 := blk_frozen BK329.out 2; have hcz18_0 : w8.cell? ⟨gb330, 0, none⟩ = some (.slice A1_0 l1_0.length c1_0) := (blk_cell BK330.out 0).trans rfl; have hcz18_1 : w8.cell? ⟨gb330, 1, none⟩ = some (.int .i64 a1_1) := (blk_cell BK330.out 1).trans rfl; have hcz18_2 : w8.cell? ⟨gb330, 2, none⟩ = some (.int .i64 a1_2) := (blk_cell BK330.out 2).trans rfl; have hcz18_3 : w8.cell? ⟨gb330, 3, none⟩ = some (.bool a1_3) := (blk_cell BK330.out 3).trans rfl; have hcz18_4 : w8.cell? ⟨gb330, 4, none⟩ = some (.int .i64 a1_4) := (blk_cell BK330.out 4).trans rfl; have hfz18_0 := blk_frozen BK330.out 0; have hfz18_1 := blk_frozen BK330.out 1; have hfz18_2 := blk_frozen BK330.out 2; have hfz18_3 := blk_frozen BK330.out 3; have hfz18_4 := blk_frozen BK330.out 4
      go_wp2
      go_meet
      case rel => exact ⟨_, (true), (by first | rfl | (simp; done) | (simp [*]; done)), H', ⟨by first | omega | exact Nat.le_refl _⟩, ⟨zB BK329.out⟩, ⟨zB BK330.out⟩, ⟨zH2 HB.out GE329.out GE330.out⟩⟩
     ·
      rw [if_neg c15] at H; have c15b0 : decide (20 < (l1_0.length : Int)) = false := decide_eq_false c15; have c15b1 : decide (20 < l1_0.length) = false := decide_eq_false (by omega); clear c15; have H' := Aside0.mk H; clear H; have hnb19 := NB329_330.out; have hnc19 := NB330_329.out; have hcz20_0 : w8.cell? ⟨gb329, 0, none⟩ = some (.slice A0_0 l0_0.length c0_0) := (blk_cell BK329.out 0).trans rfl; have hcz20_1 : w8.cell? ⟨gb329, 1, none⟩ = some (.slice A0_1 l0_1.length c0_1) := (blk_cell BK329.out 1).trans rfl; have hcz20_2 : w8.cell? ⟨gb329, 2, none⟩ = some (.int .i64 a0_2) := (blk_cell BK329.out 2).trans rfl; have hfz20_0 := blk_frozen BK329.out 0; have hfz20_1 := blk_frozen BK329.out 1; have hfz20_2 := blk_frozen BK329.out 2; have hcz21_0 : w8.cell? ⟨gb330, 0, none⟩ = some (.slice A1_0 l1_0.length c1_0) := (blk_cell BK330.out 0).trans rfl; have hcz21_1 : w8.cell? ⟨gb330, 1, none⟩ = some (.int .i64 a1_1) := (blk_cell BK330.out 1).trans rfl; have hcz21_2 : w8.cell? ⟨gb330, 2, none⟩ = some (.int .i64 a1_2) := (blk_cell BK330.out 2).trans rfl; have hcz21_3 : w8.cell? ⟨gb330, 3, none⟩ = some (.bool a1_3) := (blk_cell BK330.out 3).trans rfl; have hcz21_4 : w8.cell? ⟨gb330, 4, none⟩ = some (.int .i64 a1_4) := (blk_cell BK330.out 4).trans rfl; have hfz21_0 := blk_frozen BK330.out 0; have hfz21_1 := blk_frozen BK330.out 1; have hfz21_2 := blk_frozen BK330.out 2; have hfz21_3 := blk_frozen BK330.out 3; have hfz21_4 := blk_frozen BK330.out 4
      go_wp2
      go_meet
      case rel => exact ⟨_, (!true), (by first | rfl | (simp; done) | (simp [*]; done)), H', ⟨by first | omega | exact Nat.le_refl _⟩, ⟨zB BK329.out⟩, ⟨zB BK330.out⟩, ⟨zH2 HB.out GE329.out GE330.out⟩⟩
  case rest => as_aux_lemma =>
   clear HC5
   try clear c1
   try clear p2
   try clear c3
   try clear c4
   try clear c5
   try clear c9
   try clear c9b0
   try clear c9b1
   try clear c10
   try clear c12
   try clear c12b0
   try clear c12b1
   try clear c13
   try clear c15
   try clear c15b0
   try clear c15b1
   try clear c16
   try clear c19
   try clear hcz11_0
   try clear hcz11_1
   try clear hcz11_2
   try clear hcz14_0
   try clear hcz14_1
   try clear hcz14_2
   try clear hcz17_0
   try clear hcz17_1
   try clear hcz17_2
   try clear hcz18_0
   try clear hcz18_1
   try clear hcz18_2
   try clear hcz18_3
   try clear hcz18_4
   try clear hcz20_0
   try clear hcz20_1
   try clear hcz20_2
   try clear hcz21_0
   try clear hcz21_1
   try clear hcz21_2
   try clear hcz21_3
   try clear hcz21_4
   try clear hfz11_0
   try clear hfz11_1
   try clear hfz11_2
   try clear hfz14_0
   try clear hfz14_1
   try clear hfz14_2
   try clear hfz17_0
   try clear hfz17_1
   try clear hfz17_2
   try clear hfz18_0
   try clear hfz18_1
   try clear hfz18_2
   try clear hfz18_3
   try clear hfz18_4
   try clear hfz20_0
   try clear hfz20_1
   try clear hfz20_2
   try clear hfz21_0
   try clear hfz21_1
   try clear hfz21_2
   try clear hfz21_3
   try clear hfz21_4
   obtain ⟨kq, x45_4, rfl, HA, HJ4, BK329, BK330, HB⟩ := hcut
   cases kq with
   | zero => exact absurd HA.out (by simp [pledgelaw21_CertSays.j0])
   | succ kj4 =>
    have H := HA.out; clear HA; simp only [pledgelaw21_CertSays.j0] at H; by_cases c22 : x45_4 = true
    ·
     subst c22; have H1 : (some true) = some r := by rw [if_pos rfl] at H; exact H
     clear H; have H := H1; clear H1; obtain rfl := Option.some.inj H
     go_wp2
     go_ret
     exact ⟨zE, zH2 HB.out GE329.out GE330.out⟩
    ·
     replace c22 := Bool.eq_false_iff.mpr c22; subst c22; have H1 : ((pledgeref18_Valid.f kj4 l0_0 l0_1 a0_2).bind fun t333 => ((pledgeref18_Worth.f kj4 l0_0 l0_1 a0_2 l1_0).bind fun bt334 => ((pledgeref18_Cost.f kj4 l0_0 l0_1 a0_2 l1_0).bind fun bt336 => (if t333 = 0 then (if bt334.2 = true then (if bt334.1 = a1_1 then (pledgelaw21_CertSays.j1 kj4 t333 bt334.1 bt336.1 (bt336.1 != a1_2) l0_0 l0_1 a0_2 l1_0 a1_1 a1_2 a1_3 a1_4 l0_0 l0_1 a0_2) else (pledgelaw21_CertSays.j1 kj4 t333 bt334.1 bt336.1 true l0_0 l0_1 a0_2 l1_0 a1_1 a1_2 a1_3 a1_4 l0_0 l0_1 a0_2)) else (pledgelaw21_CertSays.j1 kj4 t333 bt334.1 bt336.1 true l0_0 l0_1 a0_2 l1_0 a1_1 a1_2 a1_3 a1_4 l0_0 l0_1 a0_2)) else (pledgelaw21_CertSays.j1 kj4 t333 bt334.1 bt336.1 false l0_0 l0_1 a0_2 l1_0 a1_1 a1_2 a1_3 a1_4 l0_0 l0_1 a0_2))))) = some r := by rw [if_neg (show ¬ (false = true) by decide)] at H; exact H
     clear H; have H := H1; clear H1; replace H := Option.bind_eq_some_iff.mp H; obtain ⟨t333, A230, H⟩ := H; replace H : ((pledgeref18_Worth.f kj4 l0_0 l0_1 a0_2 l1_0).bind fun bt334 => ((pledgeref18_Cost.f kj4 l0_0 l0_1 a0_2 l1_0).bind fun bt336 => (if t333 = 0 then (if bt334.2 = true then (if bt334.1 = a1_1 then (pledgelaw21_CertSays.j1 kj4 t333 bt334.1 bt336.1 (bt336.1 != a1_2) l0_0 l0_1 a0_2 l1_0 a1_1 a1_2 a1_3 a1_4 l0_0 l0_1 a0_2) else (pledgelaw21_CertSays.j1 kj4 t333 bt334.1 bt336.1 true l0_0 l0_1 a0_2 l1_0 a1_1 a1_2 a1_3 a1_4 l0_0 l0_1 a0_2)) else (pledgelaw21_CertSays.j1 kj4 t333 bt334.1 bt336.1 true l0_0 l0_1 a0_2 l1_0 a1_1 a1_2 a1_3 a1_4 l0_0 l0_1 a0_2)) else (pledgelaw21_CertSays.j1 kj4 t333 bt334.1 bt336.1 false l0_0 l0_1 a0_2 l1_0 a1_1 a1_2 a1_3 a1_4 l0_0 l0_1 a0_2)))) = some r := H; have A23 := Aside0.mk A230; clear A230; replace H := Option.bind_eq_some_iff.mp H; obtain ⟨⟨t334, t335⟩, A240, H⟩ := H; replace H : ((pledgeref18_Cost.f kj4 l0_0 l0_1 a0_2 l1_0).bind fun bt336 => (if t333 = 0 then (if t335 = true then (if t334 = a1_1 then (pledgelaw21_CertSays.j1 kj4 t333 t334 bt336.1 (bt336.1 != a1_2) l0_0 l0_1 a0_2 l1_0 a1_1 a1_2 a1_3 a1_4 l0_0 l0_1 a0_2) else (pledgelaw21_CertSays.j1 kj4 t333 t334 bt336.1 true l0_0 l0_1 a0_2 l1_0 a1_1 a1_2 a1_3 a1_4 l0_0 l0_1 a0_2)) else (pledgelaw21_CertSays.j1 kj4 t333 t334 bt336.1 true l0_0 l0_1 a0_2 l1_0 a1_1 a1_2 a1_3 a1_4 l0_0 l0_1 a0_2)) else (pledgelaw21_CertSays.j1 kj4 t333 t334 bt336.1 false l0_0 l0_1 a0_2 l1_0 a1_1 a1_2 a1_3 a1_4 l0_0 l0_1 a0_2))) = some r := H; have A24 := Aside0.mk A240; clear A240; replace H := Option.bind_eq_some_iff.mp H; obtain ⟨⟨t336, t337⟩, A250, H⟩ := H; replace H : (if t333 = 0 then (if t335 = true then (if t334 = a1_1 then (pledgelaw21_CertSays.j1 kj4 t333 t334 t336 (t336 != a1_2) l0_0 l0_1 a0_2 l1_0 a1_1 a1_2 a1_3 a1_4 l0_0 l0_1 a0_2) else (pledgelaw21_CertSays.j1 kj4 t333 t334 t336 true l0_0 l0_1 a0_2 l1_0 a1_1 a1_2 a1_3 a1_4 l0_0 l0_1 a0_2)) else (pledgelaw21_CertSays.j1 kj4 t333 t334 t336 true l0_0 l0_1 a0_2 l1_0 a1_1 a1_2 a1_3 a1_4 l0_0 l0_1 a0_2)) else (pledgelaw21_CertSays.j1 kj4 t333 t334 t336 false l0_0 l0_1 a0_2 l1_0 a1_1 a1_2 a1_3 a1_4 l0_0 l0_1 a0_2)) = some r := H; have A25 := Aside0.mk A250; clear A250; have HC26 := Aside0.mk H; clear H; have hnb27 := NB329_330.out; have hnc27 := NB330_329.out; have hcz28_0 : wc.cell? ⟨gb329, 0, none⟩ = some (.slice A0_0 l0_0.length c0_0) := (blk_cell BK329.out 0).trans rfl; have hcz28_1 : wc.cell? ⟨gb329, 1, none⟩ = some (.slice A0_1 l0_1.length c0_1) := (blk_cell BK329.out 1).trans rfl; have hcz28_2 : wc.cell? ⟨gb329, 2, none⟩ = some (.int .i64 a0_2) := (blk_cell BK329.out 2).trans rfl; have hfz28_0 := blk_frozen BK329.out 0; have hfz28_1 := blk_frozen BK329.out 1; have hfz28_2 := blk_frozen BK329.out 2
     go_upto_region 10 with (first | ((with_reducible refine gate_dst (N := 6) rfl ?_); (try (refine gate_guard (by rfl) ?_; dsimp only)); refine box_event ?hg (N := 6) ?hd (cs := #[.slice none 0 0, .slice none 0 0, .int .i64 0]) (t := 30) ?hr ?_; (case hd => rfl); (case hg => rfl); (case hr => first | (go_simp; done) | (go_simp; rfl)); intro gb332 hg w29 hbox hb; have n0_ := zBB BK329 hb; have n1_ := zBB BK330 hb; have n2_ := Aside0.mk (below_step (zH2 HB.out GE329.out GE330.out) hb); have n3_ := Aside0.mk (hbox); have n4_ := Aside0.mk (zg hg (below_size (zH2 HB.out GE329.out GE330.out)) : w.heap.size ≤ gb332); have n5_ := Aside0.mk (zg hg (below_size (zH2 HB.out GE329.out GE330.out)) : w.heap.size ≤ gb332); have n6_ := Aside0.mk (zN hg BK329 : gb329 ≠ gb332); have n7_ := Aside0.mk (zO hg BK329 : gb332 ≠ gb329); have n8_ := Aside0.mk (zN hg BK330 : gb330 ≠ gb332); have n9_ := Aside0.mk (zO hg BK330 : gb332 ≠ gb330); clear BK329; clear BK330; clear HB; have BK329 := n0_; have BK330 := n1_; have HB := n2_; have BK332 := n3_; have GW332 := n4_; have GE332 := n5_; have NB329_332 := n6_; have NB332_329 := n7_; have NB330_332 := n8_; have NB332_330 := n9_; clear n0_ n1_ n2_ n3_ n4_ n5_ n6_ n7_ n8_ n9_; clear hb hbox hg; have hnb30 := NB332_329.out; have hnc30 := NB329_332.out; have hnb31 := NB332_330.out; have hnc31 := NB330_332.out; have hcz32_0 : w29.cell? ⟨gb332, 0, none⟩ = some (.slice none 0 0) := (blk_cell BK332.out 0).trans rfl; have hcz32_1 : w29.cell? ⟨gb332, 1, none⟩ = some (.slice none 0 0) := (blk_cell BK332.out 1).trans rfl; have hcz32_2 : w29.cell? ⟨gb332, 2, none⟩ = some (.int .i64 0) := (blk_cell BK332.out 2).trans rfl; have hfz32_0 := blk_frozen BK332.out 0; have hfz32_1 := blk_frozen BK332.out 1; have hfz32_2 := blk_frozen BK332.out 2) | ((with_reducible refine gate_callee (f := 6) rfl ?_); refine goesL_ (some 55) rfl rfl Tryd.func6 (by kernel_rfl) rfl #[.agg #[.slice A0_0 l0_0.length c0_0, .slice A0_1 l0_1.length c0_1, .int .i64 a0_2]] rfl zM ?_; (with_reducible refine (pledgeref18_Valid.calls kj4 _ _ l0_0 _ _ l0_1 a0_2 t333 _ ?side1 ?side2 ?side3 ?side4 A23.out).mono ?_); (case side1 => exact Kd.C_below HR0_0.out (zH3 HB.out GE329.out GE330.out GE332.out)); (case side2 => exact HC0_0.out); (case side3 => exact Kd.C_below HR0_1.out (zH3 HB.out GE329.out GE330.out GE332.out)); (case side4 => exact HC0_1.out); rintro e w33 ⟨rfl, hb⟩; refine ⟨_, rfl, ?_⟩; have n0_ := Aside0.mk (blk_below (g := gb329) (o := .cells #[.slice A0_0 l0_0.length c0_0, .slice A0_1 l0_1.length c0_1, .int .i64 a0_2] 25 (0, 0)) (by (with_reducible repeat (first | refine blk_drewN ?_ _ | refine blk_drew ?_ | refine blk_alloc ?_ _ | refine blk_far ?_ NB329_332.out _)); exact BK329.out) hb); have n1_ := Aside0.mk (blk_below (g := gb330) (o := .cells #[.slice A1_0 l1_0.length c1_0, .int .i64 a1_1, .int .i64 a1_2, .bool a1_3, .int .i64 a1_4] 28 (0, 0)) (by (with_reducible repeat (first | refine blk_drewN ?_ _ | refine blk_drew ?_ | refine blk_alloc ?_ _ | refine blk_far ?_ NB330_332.out _)); exact BK330.out) hb); have n2_ := Aside0.mk (blk_below (g := gb332) (o := .cells #[.slice A0_0 l0_0.length c0_0, .slice A0_1 l0_1.length c0_1, .int .i64 a0_2] 30 (0, 0)) (by (with_reducible repeat (first | refine blk_drewN ?_ _ | refine blk_drew ?_ | refine blk_alloc ?_ _)); refine blk_put (cs := #[.slice A0_0 l0_0.length c0_0, .slice A0_1 l0_1.length c0_1, .int .i64 0]) ?_ 2 _ rfl; (with_reducible repeat (first | refine blk_drewN ?_ _ | refine blk_drew ?_ | refine blk_alloc ?_ _)); refine blk_put (cs := #[.slice A0_0 l0_0.length c0_0, .slice none 0 0, .int .i64 0]) ?_ 1 _ rfl; (with_reducible repeat (first | refine blk_drewN ?_ _ | refine blk_drew ?_ | refine blk_alloc ?_ _)); refine blk_put (cs := #[.slice none 0 0, .slice none 0 0, .int .i64 0]) ?_ 0 _ rfl; (with_reducible repeat (first | refine blk_drewN ?_ _ | refine blk_drew ?_ | refine blk_alloc ?_ _)); exact BK332.out) hb); have n3_ := Aside0.mk (below_step (zH3 HB.out GE329.out GE330.out GE332.out) hb); clear BK329; clear BK330; clear BK332; clear HB; have BK329 := n0_; have BK330 := n1_; have BK332 := n2_; have HB := n3_; clear n0_ n1_ n2_ n3_; (try clear hb); (try clear hb2); (try clear hk); (try clear hi); have hcz34_0 : w33.cell? ⟨gb332, 0, none⟩ = some (.slice A0_0 l0_0.length c0_0) := (blk_cell BK332.out 0).trans rfl; have hcz34_1 : w33.cell? ⟨gb332, 1, none⟩ = some (.slice A0_1 l0_1.length c0_1) := (blk_cell BK332.out 1).trans rfl; have hcz34_2 : w33.cell? ⟨gb332, 2, none⟩ = some (.int .i64 a0_2) := (blk_cell BK332.out 2).trans rfl; have hfz34_0 := blk_frozen BK332.out 0; have hfz34_1 := blk_frozen BK332.out 1; have hfz34_2 := blk_frozen BK332.out 2; have hcz35_0 : w33.cell? ⟨gb330, 0, none⟩ = some (.slice A1_0 l1_0.length c1_0) := (blk_cell BK330.out 0).trans rfl; have hcz35_1 : w33.cell? ⟨gb330, 1, none⟩ = some (.int .i64 a1_1) := (blk_cell BK330.out 1).trans rfl; have hcz35_2 : w33.cell? ⟨gb330, 2, none⟩ = some (.int .i64 a1_2) := (blk_cell BK330.out 2).trans rfl; have hcz35_3 : w33.cell? ⟨gb330, 3, none⟩ = some (.bool a1_3) := (blk_cell BK330.out 3).trans rfl; have hcz35_4 : w33.cell? ⟨gb330, 4, none⟩ = some (.int .i64 a1_4) := (blk_cell BK330.out 4).trans rfl; have hfz35_0 := blk_frozen BK330.out 0; have hfz35_1 := blk_frozen BK330.out 1; have hfz35_2 := blk_frozen BK330.out 2; have hfz35_3 := blk_frozen BK330.out 3; have hfz35_4 := blk_frozen BK330.out 4) | ((with_reducible refine gate_callee (f := 7) rfl ?_); refine goesL_ (some 60) rfl rfl Tryd.func7 (by kernel_rfl) rfl #[.agg #[.slice A0_0 l0_0.length c0_0, .slice A0_1 l0_1.length c0_1, .int .i64 a0_2], .slice A1_0 l1_0.length c1_0] rfl zM ?_; (with_reducible refine (pledgeref18_Worth.calls kj4 _ _ l0_0 _ _ l0_1 a0_2 _ _ l1_0 t334 t335 _ ?side1 ?side2 ?side3 ?side4 ?side5 ?side6 A24.out).mono ?_); (case side1 => exact zC HR0_0.out HB.out); (case side2 => exact HC0_0.out); (case side3 => exact zC HR0_1.out HB.out); (case side4 => exact HC0_1.out); (case side5 => exact zC HR1_0.out HB.out); (case side6 => exact HC1_0.out); rintro e w36 ⟨rfl, hb⟩; refine ⟨_, rfl, ?_⟩; have n0_ := zBB BK329 hb; have n1_ := zBB BK330 hb; have n2_ := zBB BK332 hb; have n3_ := Aside0.mk (below_step (zH3 HB.out GE329.out GE330.out GE332.out) hb); clear BK329; clear BK330; clear BK332; clear HB; have BK329 := n0_; have BK330 := n1_; have BK332 := n2_; have HB := n3_; clear n0_ n1_ n2_ n3_; (try clear hb); (try clear hb2); (try clear hk); (try clear hi); have hcz37_0 : w36.cell? ⟨gb332, 0, none⟩ = some (.slice A0_0 l0_0.length c0_0) := (blk_cell BK332.out 0).trans rfl; have hcz37_1 : w36.cell? ⟨gb332, 1, none⟩ = some (.slice A0_1 l0_1.length c0_1) := (blk_cell BK332.out 1).trans rfl; have hcz37_2 : w36.cell? ⟨gb332, 2, none⟩ = some (.int .i64 a0_2) := (blk_cell BK332.out 2).trans rfl; have hfz37_0 := blk_frozen BK332.out 0; have hfz37_1 := blk_frozen BK332.out 1; have hfz37_2 := blk_frozen BK332.out 2; have hcz38_0 : w36.cell? ⟨gb330, 0, none⟩ = some (.slice A1_0 l1_0.length c1_0) := (blk_cell BK330.out 0).trans rfl; have hcz38_1 : w36.cell? ⟨gb330, 1, none⟩ = some (.int .i64 a1_1) := (blk_cell BK330.out 1).trans rfl; have hcz38_2 : w36.cell? ⟨gb330, 2, none⟩ = some (.int .i64 a1_2) := (blk_cell BK330.out 2).trans rfl; have hcz38_3 : w36.cell? ⟨gb330, 3, none⟩ = some (.bool a1_3) := (blk_cell BK330.out 3).trans rfl; have hcz38_4 : w36.cell? ⟨gb330, 4, none⟩ = some (.int .i64 a1_4) := (blk_cell BK330.out 4).trans rfl; have hfz38_0 := blk_frozen BK330.out 0; have hfz38_1 := blk_frozen BK330.out 1; have hfz38_2 := blk_frozen BK330.out 2; have hfz38_3 := blk_frozen BK330.out 3; have hfz38_4 := blk_frozen BK330.out 4) | ((with_reducible refine gate_callee (f := 8) rfl ?_); refine goesL_ (some 67) rfl rfl Tryd.func8 (by kernel_rfl) rfl #[.agg #[.slice A0_0 l0_0.length c0_0, .slice A0_1 l0_1.length c0_1, .int .i64 a0_2], .slice A1_0 l1_0.length c1_0] rfl zM ?_; (with_reducible refine (pledgeref18_Cost.calls kj4 _ _ l0_0 _ _ l0_1 a0_2 _ _ l1_0 t336 t337 _ ?side1 ?side2 ?side3 ?side4 ?side5 ?side6 A25.out).mono ?_); (case side1 => exact zC HR0_0.out HB.out); (case side2 => exact HC0_0.out); (case side3 => exact zC HR0_1.out HB.out); (case side4 => exact HC0_1.out); (case side5 => exact zC HR1_0.out HB.out); (case side6 => exact HC1_0.out); rintro e w39 ⟨rfl, hb⟩; refine ⟨_, rfl, ?_⟩; have n0_ := zBB BK329 hb; have n1_ := zBB BK330 hb; have n2_ := zBB BK332 hb; have n3_ := Aside0.mk (below_step (zH3 HB.out GE329.out GE330.out GE332.out) hb); clear BK329; clear BK330; clear BK332; clear HB; have BK329 := n0_; have BK330 := n1_; have BK332 := n2_; have HB := n3_; clear n0_ n1_ n2_ n3_; (try clear hb); (try clear hb2); (try clear hk); (try clear hi)))
     (try simp only [Act.put, zq1, zq2, zq3])
     go_cut [87] (fun v87 wc => ∃ (kq : Nat) (x87_25 : Bool), v87 = .bool x87_25 ∧ Aside0 (pledgelaw21_CertSays.j1 kq t333 t334 t336 x87_25 l0_0 l0_1 a0_2 l1_0 a1_1 a1_2 a1_3 a1_4 l0_0 l0_1 a0_2 = some r) ∧ Aside0 (kq ≤ kj4) ∧ Aside0 (wc.heap[gb329]? = some (.cells #[(.slice A0_0 l0_0.length c0_0), (.slice A0_1 l0_1.length c0_1), .int .i64 a0_2] 25 (0, 0))) ∧ Aside0 (wc.heap[gb330]? = some (.cells #[(.slice A1_0 l1_0.length c1_0), .int .i64 a1_1, .int .i64 a1_2, .bool a1_3, .int .i64 a1_4] 28 (0, 0))) ∧ Aside0 (wc.heap[gb332]? = some (.cells #[(.slice A0_0 l0_0.length c0_0), (.slice A0_1 l0_1.length c0_1), .int .i64 a0_2] 30 (0, 0))) ∧ Aside0 (Below w.heap.size w wc))
     case first => as_aux_lemma =>
      have H := HC26.out; clear HC26; by_cases c40 : t333 = 0
      ·
       rw [if_pos c40] at H; have c40b0 : (t333 == 0) = true := beq_iff_eq.mpr c40; have c40b1 : (t333 != 0) = false := bne_eq_false_iff_eq.mpr c40; clear c40
       (first | rw [c40b0] | (simp only [i64_w, i32_w]; rw [c40b0]) | skip)
       by_cases c41 : t335 = true
       ·
        subst c41; have H1 : (if t334 = a1_1 then (pledgelaw21_CertSays.j1 kj4 t333 t334 t336 (t336 != a1_2) l0_0 l0_1 a0_2 l1_0 a1_1 a1_2 a1_3 a1_4 l0_0 l0_1 a0_2) else (pledgelaw21_CertSays.j1 kj4 t333 t334 t336 true l0_0 l0_1 a0_2 l1_0 a1_1 a1_2 a1_3 a1_4 l0_0 l0_1 a0_2)) = some r := by rw [if_pos rfl] at H; exact H
        clear H; have H := H1; clear H1; by_cases c42 : t334 = a1_1
        ·
         rw [if_pos c42] at H; have c42b0 : (t334 == a1_1) = true := beq_iff_eq.mpr c42; have c42b1 : (t334 != a1_1) = false := bne_eq_false_iff_eq.mpr c42; clear c42; have H' := Aside0.mk H; clear H; have hnb43 := NB330_329.out; have hnc43 := NB329_330.out; have hnb44 := NB330_332.out; have hnc44 := NB332_330.out; have hcz45_0 : w39.cell? ⟨gb330, 0, none⟩ = some (.slice A1_0 l1_0.length c1_0) := (blk_cell BK330.out 0).trans rfl; have hcz45_1 : w39.cell? ⟨gb330, 1, none⟩ = some (.int .i64 a1_1) := (blk_cell BK330.out 1).trans rfl; have hcz45_2 : w39.cell? ⟨gb330, 2, none⟩ = some (.int .i64 a1_2) := (blk_cell BK330.out 2).trans rfl; have hcz45_3 : w39.cell? ⟨gb330, 3, none⟩ = some (.bool a1_3) := (blk_cell BK330.out 3).trans rfl; have hcz45_4 : w39.cell? ⟨gb330, 4, none⟩ = some (.int .i64 a1_4) := (blk_cell BK330.out 4).trans rfl; have hfz45_0 := blk_frozen BK330.out 0; have hfz45_1 := blk_frozen BK330.out 1; have hfz45_2 := blk_frozen BK330.out 2; have hfz45_3 := blk_frozen BK330.out 3; have hfz45_4 := blk_frozen BK330.out 4
         go_wp2
         go_meet
         case rel => exact ⟨_, ((t336 != a1_2)), (by first | rfl | (simp; done) | (simp [*]; done)), H', ⟨by have := HJ4.out; first | omega | exact Nat.le_refl _⟩, ⟨zB BK329.out⟩, ⟨zB BK330.out⟩, ⟨zB BK332.out⟩, ⟨zH3 HB.out GE329.out GE330.out GE332.out⟩⟩
        ·
         rw [if_neg c42] at H; have c42b0 : (t334 == a1_1) = false := beq_eq_false_iff_ne.mpr c42; have c42b1 : (t334 != a1_1) = true := bne_iff_ne.mpr c42; have H' := Aside0.mk H; clear H; have hnb46 := NB330_329.out; have hnc46 := NB329_330.out; have hnb47 := NB330_332.out; have hnc47 := NB332_330.out; have hcz48_0 : w39.cell? ⟨gb330, 0, none⟩ = some (.slice A1_0 l1_0.length c1_0) := (blk_cell BK330.out 0).trans rfl; have hcz48_1 : w39.cell? ⟨gb330, 1, none⟩ = some (.int .i64 a1_1) := (blk_cell BK330.out 1).trans rfl; have hcz48_2 : w39.cell? ⟨gb330, 2, none⟩ = some (.int .i64 a1_2) := (blk_cell BK330.out 2).trans rfl; have hcz48_3 : w39.cell? ⟨gb330, 3, none⟩ = some (.bool a1_3) := (blk_cell BK330.out 3).trans rfl; have hcz48_4 : w39.cell? ⟨gb330, 4, none⟩ = some (.int .i64 a1_4) := (blk_cell BK330.out 4).trans rfl; have hfz48_0 := blk_frozen BK330.out 0; have hfz48_1 := blk_frozen BK330.out 1; have hfz48_2 := blk_frozen BK330.out 2; have hfz48_3 := blk_frozen BK330.out 3; have hfz48_4 := blk_frozen BK330.out 4
         go_wp2
         go_meet
         case rel => exact ⟨_, (true), (by first | rfl | (simp; done) | (simp [*]; done)), H', ⟨by have := HJ4.out; first | omega | exact Nat.le_refl _⟩, ⟨zB BK329.out⟩, ⟨zB BK330.out⟩, ⟨zB BK332.out⟩, ⟨zH3 HB.out GE329.out GE330.out GE332.out⟩⟩
       ·
        replace c41 := Bool.eq_false_iff.mpr c41; subst c41; have H1 : (pledgelaw21_CertSays.j1 kj4 t333 t334 t336 true l0_0 l0_1 a0_2 l1_0 a1_1 a1_2 a1_3 a1_4 l0_0 l0_1 a0_2) = some r := by rw [if_neg (show ¬ (false = true) by decide)] at H; exact H
        clear H; have H := H1; clear H1; have H' := Aside0.mk H; clear H
        go_wp2
        go_meet
        case rel => exact ⟨_, (true), (by first | rfl | (simp; done) | (simp [*]; done)), H', ⟨by have := HJ4.out; first | omega | exact Nat.le_refl _⟩, ⟨zB BK329.out⟩, ⟨zB BK330.out⟩, ⟨zB BK332.out⟩, ⟨zH3 HB.out GE329.out GE330.out GE332.out⟩⟩
      ·
       rw [if_neg c40] at H; have c40b0 : (t333 == 0) = false := beq_eq_false_iff_ne.mpr c40; have c40b1 : (t333 != 0) = true := bne_iff_ne.mpr c40
       (first | rw [c40b0] | (simp only [i64_w, i32_w]; rw [c40b0]) | skip)
       have H' := Aside0.mk H; clear H
       go_wp2
       go_meet
       case rel => exact ⟨_, (false), (by first | rfl | (simp; done) | (simp [*]; done)), H', ⟨by have := HJ4.out; first | omega | exact Nat.le_refl _⟩, ⟨zB BK329.out⟩, ⟨zB BK330.out⟩, ⟨zB BK332.out⟩, ⟨zH3 HB.out GE329.out GE330.out GE332.out⟩⟩
     case rest => as_aux_lemma =>
      clear HC26
      try clear c1
      try clear c2
      try clear p2
      try clear c3
      try clear c4
      try clear c5
      try clear c6
      try clear c7
      try clear c8
      try clear c9
      try clear c9b0
      try clear c9b1
      try clear c10
      try clear c12
      try clear c12b0
      try clear c12b1
      try clear c13
      try clear c15
      try clear c15b0
      try clear c15b1
      try clear c16
      try clear c19
      try clear c22
      try clear c27
      try clear c30
      try clear c31
      try clear c40
      try clear c40b0
      try clear c40b1
      try clear c41
      try clear c42
      try clear c42b0
      try clear c42b1
      try clear c43
      try clear c44
      try clear c46
      try clear c47
      try clear hcz11_0
      try clear hcz11_1
      try clear hcz11_2
      try clear hcz14_0
      try clear hcz14_1
      try clear hcz14_2
      try clear hcz17_0
      try clear hcz17_1
      try clear hcz17_2
      try clear hcz18_0
      try clear hcz18_1
      try clear hcz18_2
      try clear hcz18_3
      try clear hcz18_4
      try clear hcz20_0
      try clear hcz20_1
      try clear hcz20_2
      try clear hcz21_0
      try clear hcz21_1
      try clear hcz21_2
      try clear hcz21_3
      try clear hcz21_4
      try clear hcz28_0
      try clear hcz28_1
      try clear hcz28_2
      try clear hcz32_0
      try clear hcz32_1
      try clear hcz32_2
      try clear hcz34_0
      try clear hcz34_1
      try clear hcz34_2
      try clear hcz35_0
      try clear hcz35_1
      try clear hcz35_2
      try clear hcz35_3
      try clear hcz35_4
      try clear hcz37_0
      try clear hcz37_1
      try clear hcz37_2
      try clear hcz38_0
      try clear hcz38_1
      try clear hcz38_2
      try clear hcz38_3
      try clear hcz38_4
      try clear hcz45_0
      try clear hcz45_1
      try clear hcz45_2
      try clear hcz45_3
      try clear hcz45_4
      try clear hcz48_0
      try clear hcz48_1
      try clear hcz48_2
      try clear hcz48_3
      try clear hcz48_4
      try clear hfz11_0
      try clear hfz11_1
      try clear hfz11_2
      try clear hfz14_0
      try clear hfz14_1
      try clear hfz14_2
      try clear hfz17_0
      try clear hfz17_1
      try clear hfz17_2
      try clear hfz18_0
      try clear hfz18_1
      try clear hfz18_2
      try clear hfz18_3
      try clear hfz18_4
      try clear hfz20_0
      try clear hfz20_1
      try clear hfz20_2
      try clear hfz21_0
      try clear hfz21_1
      try clear hfz21_2
      try clear hfz21_3
      try clear hfz21_4
      try clear hfz28_0
      try clear hfz28_1
      try clear hfz28_2
      try clear hfz32_0
      try clear hfz32_1
      try clear hfz32_2
      try clear hfz34_0
      try clear hfz34_1
      try clear hfz34_2
      try clear hfz35_0
      try clear hfz35_1
      try clear hfz35_2
      try clear hfz35_3
      try clear hfz35_4
      try clear hfz37_0
      try clear hfz37_1
      try clear hfz37_2
      try clear hfz38_0
      try clear hfz38_1
      try clear hfz38_2
      try clear hfz38_3
      try clear hfz38_4
      try clear hfz45_0
      try clear hfz45_1
      try clear hfz45_2
      try clear hfz45_3
      try clear hfz45_4
      try clear hfz48_0
      try clear hfz48_1
      try clear hfz48_2
      try clear hfz48_3
      try clear hfz48_4
      try clear p2
      obtain ⟨kq, x87_25, rfl, HA, HJ25, BK329, BK330, BK332, HB⟩ := hcut
      cases kq with
      | zero => exact absurd HA.out (by simp [pledgelaw21_CertSays.j1])
      | succ kj25 =>
       have H := HA.out; clear HA; simp only [pledgelaw21_CertSays.j1] at H; have HC49 := Aside0.mk H; clear H
       go_upto_if 87 with (fail)
       go_cut [7] (fun v7 wc => ∃ (kq : Nat) (x7_48 : Int), v7 = .int .i64 x7_48 ∧ Aside0 (pledgelaw21_CertSays.j2 kq x7_48 t334 t336 l0_0 l0_1 a0_2 l1_0 a1_1 a1_2 a1_3 a1_4 l0_0 l0_1 a0_2 = some r) ∧ Aside0 (kq ≤ kj25) ∧ Aside0 (wc.heap[gb329]? = some (.cells #[(.slice A0_0 l0_0.length c0_0), (.slice A0_1 l0_1.length c0_1), .int .i64 a0_2] 25 (0, 0))) ∧ Aside0 (wc.heap[gb330]? = some (.cells #[(.slice A1_0 l1_0.length c1_0), .int .i64 a1_1, .int .i64 a1_2, .bool a1_3, .int .i64 a1_4] 28 (0, 0))) ∧ Aside0 (wc.heap[gb332]? = some (.cells #[(.slice A0_0 l0_0.length c0_0), (.slice A0_1 l0_1.length c0_1), .int .i64 a0_2] 30 (0, 0))) ∧ Aside0 (Below w.heap.size w wc))
       case first => as_aux_lemma =>
        have H := HC49.out; clear HC49; by_cases c50 : x87_25 = true
        ·
         subst c50; have H1 : (pledgelaw21_CertSays.j2 kj25 102 t334 t336 l0_0 l0_1 a0_2 l1_0 a1_1 a1_2 a1_3 a1_4 l0_0 l0_1 a0_2) = some r := by rw [if_pos rfl] at H; exact H
         clear H; have H := H1; clear H1; have H' := Aside0.mk H; clear H
         go_wp2
         go_meet
         case rel => exact ⟨_, (102), (by first | rfl | (simp; done) | (simp [*]; done)), H', ⟨by have := HJ4.out; have := HJ25.out; first | omega | exact Nat.le_refl _⟩, ⟨zB BK329.out⟩, ⟨zB BK330.out⟩, ⟨zB BK332.out⟩, ⟨zH3 HB.out GE329.out GE330.out GE332.out⟩⟩
        ·
         replace c50 := Bool.eq_false_iff.mpr c50; subst c50; have H1 : (pledgelaw21_CertSays.j2 kj25 t333 t334 t336 l0_0 l0_1 a0_2 l1_0 a1_1 a1_2 a1_3 a1_4 l0_0 l0_1 a0_2) = some r := by rw [if_neg (show ¬ (false = true) by decide)] at H; exact H
         clear H; have H := H1; clear H1; have H' := Aside0.mk H; clear H
         go_wp2
         go_meet
         case rel => exact ⟨_, (t333), (by first | rfl | (simp; done) | (simp [*]; done)), H', ⟨by have := HJ4.out; have := HJ25.out; first | omega | exact Nat.le_refl _⟩, ⟨zB BK329.out⟩, ⟨zB BK330.out⟩, ⟨zB BK332.out⟩, ⟨zH3 HB.out GE329.out GE330.out GE332.out⟩⟩
       case rest => as_aux_lemma =>
        clear HC49
        try clear c1
        try clear c2
        try clear p2
        try clear c3
        try clear c4
        try clear c5
        try clear c6
        try clear c7
        try clear c8
        try clear c9
        try clear c9b0
        try clear c9b1
        try clear c10
        try clear c12
        try clear c12b0
        try clear c12b1
        try clear c13
        try clear c15
        try clear c15b0
        try clear c15b1
        try clear c16
        try clear c19
        try clear c22
        try clear c27
        try clear c30
        try clear c31
        try clear c40
        try clear c40b0
        try clear c40b1
        try clear c41
        try clear c42
        try clear c42b0
        try clear c42b1
        try clear c43
        try clear c44
        try clear c46
        try clear c47
        try clear c50
        try clear hcz11_0
        try clear hcz11_1
        try clear hcz11_2
        try clear hcz14_0
        try clear hcz14_1
        try clear hcz14_2
        try clear hcz17_0
        try clear hcz17_1
        try clear hcz17_2
        try clear hcz18_0
        try clear hcz18_1
        try clear hcz18_2
        try clear hcz18_3
        try clear hcz18_4
        try clear hcz20_0
        try clear hcz20_1
        try clear hcz20_2
        try clear hcz21_0
        try clear hcz21_1
        try clear hcz21_2
        try clear hcz21_3
        try clear hcz21_4
        try clear hcz28_0
        try clear hcz28_1
        try clear hcz28_2
        try clear hcz32_0
        try clear hcz32_1
        try clear hcz32_2
        try clear hcz34_0
        try clear hcz34_1
        try clear hcz34_2
        try clear hcz35_0
        try clear hcz35_1
        try clear hcz35_2
        try clear hcz35_3
        try clear hcz35_4
        try clear hcz37_0
        try clear hcz37_1
        try clear hcz37_2
        try clear hcz38_0
        try clear hcz38_1
        try clear hcz38_2
        try clear hcz38_3
        try clear hcz38_4
        try clear hcz45_0
        try clear hcz45_1
        try clear hcz45_2
        try clear hcz45_3
        try clear hcz45_4
        try clear hcz48_0
        try clear hcz48_1
        try clear hcz48_2
        try clear hcz48_3
        try clear hcz48_4
        try clear hfz11_0
        try clear hfz11_1
        try clear hfz11_2
        try clear hfz14_0
        try clear hfz14_1
        try clear hfz14_2
        try clear hfz17_0
        try clear hfz17_1
        try clear hfz17_2
        try clear hfz18_0
        try clear hfz18_1
        try clear hfz18_2
        try clear hfz18_3
        try clear hfz18_4
        try clear hfz20_0
        try clear hfz20_1
        try clear hfz20_2
        try clear hfz21_0
        try clear hfz21_1
        try clear hfz21_2
        try clear hfz21_3
        try clear hfz21_4
        try clear hfz28_0
        try clear hfz28_1
        try clear hfz28_2
        try clear hfz32_0
        try clear hfz32_1
        try clear hfz32_2
        try clear hfz34_0
        try clear hfz34_1
        try clear hfz34_2
        try clear hfz35_0
        try clear hfz35_1
        try clear hfz35_2
        try clear hfz35_3
        try clear hfz35_4
        try clear hfz37_0
        try clear hfz37_1
        try clear hfz37_2
        try clear hfz38_0
        try clear hfz38_1
        try clear hfz38_2
        try clear hfz38_3
        try clear hfz38_4
        try clear hfz45_0
        try clear hfz45_1
        try clear hfz45_2
        try clear hfz45_3
        try clear hfz45_4
        try clear hfz48_0
        try clear hfz48_1
        try clear hfz48_2
        try clear hfz48_3
        try clear hfz48_4
        try clear p2
        obtain ⟨kq, x7_48, rfl, HA, HJ48, BK329, BK330, BK332, HB⟩ := hcut
        cases kq with
        | zero => exact absurd HA.out (by simp [pledgelaw21_CertSays.j2])
        | succ kj48 =>
         have H := HA.out; clear HA; simp only [pledgelaw21_CertSays.j2] at H; have HC51 := Aside0.mk H; clear H
         go_upto_region 12 with (fail)
         go_cut [95] (fun v95 wc => ∃ (kq : Nat) (x95_50 : Bool), v95 = .bool x95_50 ∧ Aside0 (pledgelaw21_CertSays.j3 kq x7_48 t336 x95_50 l0_0 l0_1 a0_2 l1_0 a1_1 a1_2 a1_3 a1_4 l0_0 l0_1 a0_2 = some r) ∧ Aside0 (kq ≤ kj48) ∧ Aside0 (wc.heap[gb329]? = some (.cells #[(.slice A0_0 l0_0.length c0_0), (.slice A0_1 l0_1.length c0_1), .int .i64 a0_2] 25 (0, 0))) ∧ Aside0 (wc.heap[gb330]? = some (.cells #[(.slice A1_0 l1_0.length c1_0), .int .i64 a1_1, .int .i64 a1_2, .bool a1_3, .int .i64 a1_4] 28 (0, 0))) ∧ Aside0 (wc.heap[gb332]? = some (.cells #[(.slice A0_0 l0_0.length c0_0), (.slice A0_1 l0_1.length c0_1), .int .i64 a0_2] 30 (0, 0))) ∧ Aside0 (Below w.heap.size w wc))
         case first => as_aux_lemma =>
          have H := HC51.out; clear HC51; by_cases c52 : x7_48 = 0
          ·
           rw [if_pos c52] at H; have c52b0 : (x7_48 == 0) = true := beq_iff_eq.mpr c52; have c52b1 : (x7_48 != 0) = false := bne_eq_false_iff_eq.mpr c52; clear c52
           (first | rw [c52b0] | (simp only [i64_w, i32_w]; rw [c52b0]) | skip)
           have H' := Aside0.mk H; clear H; have hnb53 := NB332_329.out; have hnc53 := NB329_332.out; have hnb54 := NB332_330.out; have hnc54 := NB330_332.out; have hcz55_0 : wc.cell? ⟨gb332, 0, none⟩ = some (.slice A0_0 l0_0.length c0_0) := (blk_cell BK332.out 0).trans rfl; have hcz55_1 : wc.cell? ⟨gb332, 1, none⟩ = some (.slice A0_1 l0_1.length c0_1) := (blk_cell BK332.out 1).trans rfl; have hcz55_2 : wc.cell? ⟨gb332, 2, none⟩ = some (.int .i64 a0_2) := (blk_cell BK332.out 2).trans rfl; have hfz55_0 := blk_frozen BK332.out 0; have hfz55_1 := blk_frozen BK332.out 1; have hfz55_2 := blk_frozen BK332.out 2
           go_wp2
           go_meet
           case rel => exact ⟨_, (decide (t334 < a0_2)), (by first | rfl | (simp; done) | (simp [*]; done)), H', ⟨by have := HJ4.out; have := HJ25.out; have := HJ48.out; first | omega | exact Nat.le_refl _⟩, ⟨zB BK329.out⟩, ⟨zB BK330.out⟩, ⟨zB BK332.out⟩, ⟨zH3 HB.out GE329.out GE330.out GE332.out⟩⟩
          ·
           rw [if_neg c52] at H; have c52b0 : (x7_48 == 0) = false := beq_eq_false_iff_ne.mpr c52; have c52b1 : (x7_48 != 0) = true := bne_iff_ne.mpr c52
           (first | rw [c52b0] | (simp only [i64_w, i32_w]; rw [c52b0]) | skip)
           have H' := Aside0.mk H; clear H
           go_wp2
           go_meet
           case rel => exact ⟨_, (false), (by first | rfl | (simp; done) | (simp [*]; done)), H', ⟨by have := HJ4.out; have := HJ25.out; have := HJ48.out; first | omega | exact Nat.le_refl _⟩, ⟨zB BK329.out⟩, ⟨zB BK330.out⟩, ⟨zB BK332.out⟩, ⟨zH3 HB.out GE329.out GE330.out GE332.out⟩⟩
         case rest => as_aux_lemma =>
          clear HC51
          try clear c1
          try clear c2
          try clear p2
          try clear c3
          try clear c4
          try clear c5
          try clear c6
          try clear c7
          try clear c8
          try clear c9
          try clear c9b0
          try clear c9b1
          try clear c10
          try clear c12
          try clear c12b0
          try clear c12b1
          try clear c13
          try clear c15
          try clear c15b0
          try clear c15b1
          try clear c16
          try clear c19
          try clear c22
          try clear c27
          try clear c30
          try clear c31
          try clear c40
          try clear c40b0
          try clear c40b1
          try clear c41
          try clear c42
          try clear c42b0
          try clear c42b1
          try clear c43
          try clear c44
          try clear c46
          try clear c47
          try clear c50
          try clear c52
          try clear c52b0
          try clear c52b1
          try clear c53
          try clear c54
          try clear hcz11_0
          try clear hcz11_1
          try clear hcz11_2
          try clear hcz14_0
          try clear hcz14_1
          try clear hcz14_2
          try clear hcz17_0
          try clear hcz17_1
          try clear hcz17_2
          try clear hcz18_0
          try clear hcz18_1
          try clear hcz18_2
          try clear hcz18_3
          try clear hcz18_4
          try clear hcz20_0
          try clear hcz20_1
          try clear hcz20_2
          try clear hcz21_0
          try clear hcz21_1
          try clear hcz21_2
          try clear hcz21_3
          try clear hcz21_4
          try clear hcz28_0
          try clear hcz28_1
          try clear hcz28_2
          try clear hcz32_0
          try clear hcz32_1
          try clear hcz32_2
          try clear hcz34_0
          try clear hcz34_1
          try clear hcz34_2
          try clear hcz35_0
          try clear hcz35_1
          try clear hcz35_2
          try clear hcz35_3
          try clear hcz35_4
          try clear hcz37_0
          try clear hcz37_1
          try clear hcz37_2
          try clear hcz38_0
          try clear hcz38_1
          try clear hcz38_2
          try clear hcz38_3
          try clear hcz38_4
          try clear hcz45_0
          try clear hcz45_1
          try clear hcz45_2
          try clear hcz45_3
          try clear hcz45_4
          try clear hcz48_0
          try clear hcz48_1
          try clear hcz48_2
          try clear hcz48_3
          try clear hcz48_4
          try clear hcz55_0
          try clear hcz55_1
          try clear hcz55_2
          try clear hfz11_0
          try clear hfz11_1
          try clear hfz11_2
          try clear hfz14_0
          try clear hfz14_1
          try clear hfz14_2
          try clear hfz17_0
          try clear hfz17_1
          try clear hfz17_2
          try clear hfz18_0
          try clear hfz18_1
          try clear hfz18_2
          try clear hfz18_3
          try clear hfz18_4
          try clear hfz20_0
          try clear hfz20_1
          try clear hfz20_2
          try clear hfz21_0
          try clear hfz21_1
          try clear hfz21_2
          try clear hfz21_3
          try clear hfz21_4
          try clear hfz28_0
          try clear hfz28_1
          try clear hfz28_2
          try clear hfz32_0
          try clear hfz32_1
          try clear hfz32_2
          try clear hfz34_0
          try clear hfz34_1
          try clear hfz34_2
          try clear hfz35_0
          try clear hfz35_1
          try clear hfz35_2
          try clear hfz35_3
          try clear hfz35_4
          try clear hfz37_0
          try clear hfz37_1
          try clear hfz37_2
          try clear hfz38_0
          try clear hfz38_1
          try clear hfz38_2
          try clear hfz38_3
          try clear hfz38_4
          try clear hfz45_0
          try clear hfz45_1
          try clear hfz45_2
          try clear hfz45_3
          try clear hfz45_4
          try clear hfz48_0
          try clear hfz48_1
          try clear hfz48_2
          try clear hfz48_3
          try clear hfz48_4
          try clear hfz55_0
          try clear hfz55_1
          try clear hfz55_2
          try clear p2
          obtain ⟨kq, x95_50, rfl, HA, HJ50, BK329, BK330, BK332, HB⟩ := hcut
          cases kq with
          | zero => exact absurd HA.out (by simp [pledgelaw21_CertSays.j3])
          | succ kj50 =>
           have H := HA.out; clear HA; simp only [pledgelaw21_CertSays.j3] at H; have HC56 := Aside0.mk H; clear H
           go_upto_if 95 with (fail)
           go_cut [7] (fun v7 wc => ∃ (kq : Nat) (x7_55 : Int), v7 = .int .i64 x7_55 ∧ Aside0 (pledgelaw21_CertSays.j4 kq x7_55 t336 l0_0 l0_1 a0_2 l1_0 a1_1 a1_2 a1_3 a1_4 l0_0 l0_1 a0_2 = some r) ∧ Aside0 (kq ≤ kj50) ∧ Aside0 (wc.heap[gb329]? = some (.cells #[(.slice A0_0 l0_0.length c0_0), (.slice A0_1 l0_1.length c0_1), .int .i64 a0_2] 25 (0, 0))) ∧ Aside0 (wc.heap[gb330]? = some (.cells #[(.slice A1_0 l1_0.length c1_0), .int .i64 a1_1, .int .i64 a1_2, .bool a1_3, .int .i64 a1_4] 28 (0, 0))) ∧ Aside0 (wc.heap[gb332]? = some (.cells #[(.slice A0_0 l0_0.length c0_0), (.slice A0_1 l0_1.length c0_1), .int .i64 a0_2] 30 (0, 0))) ∧ Aside0 (Below w.heap.size w wc))
           case first => as_aux_lemma =>
            have H := HC56.out; clear HC56; by_cases c57 : x95_50 = true
            ·
             subst c57; have H1 : (pledgelaw21_CertSays.j4 kj50 115 t336 l0_0 l0_1 a0_2 l1_0 a1_1 a1_2 a1_3 a1_4 l0_0 l0_1 a0_2) = some r := by rw [if_pos rfl] at H; exact H
             clear H; have H := H1; clear H1; have H' := Aside0.mk H; clear H
             go_wp2
             go_meet
             case rel => exact ⟨_, (115), (by first | rfl | (simp; done) | (simp [*]; done)), H', ⟨by have := HJ4.out; have := HJ25.out; have := HJ48.out; have := HJ50.out; first | omega | exact Nat.le_refl _⟩, ⟨zB BK329.out⟩, ⟨zB BK330.out⟩, ⟨zB BK332.out⟩, ⟨zH3 HB.out GE329.out GE330.out GE332.out⟩⟩
            ·
             replace c57 := Bool.eq_false_iff.mpr c57; subst c57; have H1 : (pledgelaw21_CertSays.j4 kj50 x7_48 t336 l0_0 l0_1 a0_2 l1_0 a1_1 a1_2 a1_3 a1_4 l0_0 l0_1 a0_2) = some r := by rw [if_neg (show ¬ (false = true) by decide)] at H; exact H
             clear H; have H := H1; clear H1; have H' := Aside0.mk H; clear H
             go_wp2
             go_meet
             case rel => exact ⟨_, (x7_48), (by first | rfl | (simp; done) | (simp [*]; done)), H', ⟨by have := HJ4.out; have := HJ25.out; have := HJ48.out; have := HJ50.out; first | omega | exact Nat.le_refl _⟩, ⟨zB BK329.out⟩, ⟨zB BK330.out⟩, ⟨zB BK332.out⟩, ⟨zH3 HB.out GE329.out GE330.out GE332.out⟩⟩
           case rest => as_aux_lemma =>
            clear HC56
            try clear c1
            try clear c2
            try clear p2
            try clear c3
            try clear c4
            try clear c5
            try clear c6
            try clear c7
            try clear c8
            try clear c9
            try clear c9b0
            try clear c9b1
            try clear c10
            try clear c12
            try clear c12b0
            try clear c12b1
            try clear c13
            try clear c15
            try clear c15b0
            try clear c15b1
            try clear c16
            try clear c19
            try clear c22
            try clear c27
            try clear c30
            try clear c31
            try clear c40
            try clear c40b0
            try clear c40b1
            try clear c41
            try clear c42
            try clear c42b0
            try clear c42b1
            try clear c43
            try clear c44
            try clear c46
            try clear c47
            try clear c50
            try clear c52
            try clear c52b0
            try clear c52b1
            try clear c53
            try clear c54
            try clear c57
            try clear hcz11_0
            try clear hcz11_1
            try clear hcz11_2
            try clear hcz14_0
            try clear hcz14_1
            try clear hcz14_2
            try clear hcz17_0
            try clear hcz17_1
            try clear hcz17_2
            try clear hcz18_0
            try clear hcz18_1
            try clear hcz18_2
            try clear hcz18_3
            try clear hcz18_4
            try clear hcz20_0
            try clear hcz20_1
            try clear hcz20_2
            try clear hcz21_0
            try clear hcz21_1
            try clear hcz21_2
            try clear hcz21_3
            try clear hcz21_4
            try clear hcz28_0
            try clear hcz28_1
            try clear hcz28_2
            try clear hcz32_0
            try clear hcz32_1
            try clear hcz32_2
            try clear hcz34_0
            try clear hcz34_1
            try clear hcz34_2
            try clear hcz35_0
            try clear hcz35_1
            try clear hcz35_2
            try clear hcz35_3
            try clear hcz35_4
            try clear hcz37_0
            try clear hcz37_1
            try clear hcz37_2
            try clear hcz38_0
            try clear hcz38_1
            try clear hcz38_2
            try clear hcz38_3
            try clear hcz38_4
            try clear hcz45_0
            try clear hcz45_1
            try clear hcz45_2
            try clear hcz45_3
            try clear hcz45_4
            try clear hcz48_0
            try clear hcz48_1
            try clear hcz48_2
            try clear hcz48_3
            try clear hcz48_4
            try clear hcz55_0
            try clear hcz55_1
            try clear hcz55_2
            try clear hfz11_0
            try clear hfz11_1
            try clear hfz11_2
            try clear hfz14_0
            try clear hfz14_1
            try clear hfz14_2
            try clear hfz17_0
            try clear hfz17_1
            try clear hfz17_2
            try clear hfz18_0
            try clear hfz18_1
            try clear hfz18_2
            try clear hfz18_3
            try clear hfz18_4
            try clear hfz20_0
            try clear hfz20_1
            try clear hfz20_2
            try clear hfz21_0
            try clear hfz21_1
            try clear hfz21_2
            try clear hfz21_3
            try clear hfz21_4
            try clear hfz28_0
            try clear hfz28_1
            try clear hfz28_2
            try clear hfz32_0
            try clear hfz32_1
            try clear hfz32_2
            try clear hfz34_0
            try clear hfz34_1
            try clear hfz34_2
            try clear hfz35_0
            try clear hfz35_1
            try clear hfz35_2
            try clear hfz35_3
            try clear hfz35_4
            try clear hfz37_0
            try clear hfz37_1
            try clear hfz37_2
            try clear hfz38_0
            try clear hfz38_1
            try clear hfz38_2
            try clear hfz38_3
            try clear hfz38_4
            try clear hfz45_0
            try clear hfz45_1
            try clear hfz45_2
            try clear hfz45_3
            try clear hfz45_4
            try clear hfz48_0
            try clear hfz48_1
            try clear hfz48_2
            try clear hfz48_3
            try clear hfz48_4
            try clear hfz55_0
            try clear hfz55_1
            try clear hfz55_2
            try clear p2
            obtain ⟨kq, x7_55, rfl, HA, HJ55, BK329, BK330, BK332, HB⟩ := hcut
            cases kq with
            | zero => exact absurd HA.out (by simp [pledgelaw21_CertSays.j4])
            | succ kj55 =>
             have H := HA.out; clear HA; simp only [pledgelaw21_CertSays.j4] at H; replace H := Option.bind_eq_some_iff.mp H; obtain ⟨t338, A580, H⟩ := H; replace H : ((pledgesee_Is.f t338 x7_55).bind fun t339 => (if t339 = true then ((cert_Gap.f kj55 l0_0 l0_1 a0_2 l1_0 a1_1 a1_2 a1_3 a1_4).bind fun bt340 => ((pledgesee_Is.f bt340.2 x7_55).bind fun t342 => (if t342 = true then ((pledgeref18_Least.f kj55 l0_0 l0_1 a0_2 0 a0_2).bind fun bt343 => (if bt340.2.isNone = true then (if bt340.1 = (mx 0 (wrap64 (t336 - bt343.1))) then (pledgelaw21_CertSays.j5 kj55 false l0_0 l0_1 a0_2 l1_0 a1_1 a1_2 a1_3 a1_4 l0_0 l0_1 a0_2) else (pledgelaw21_CertSays.j5 kj55 true l0_0 l0_1 a0_2 l1_0 a1_1 a1_2 a1_3 a1_4 l0_0 l0_1 a0_2)) else (pledgelaw21_CertSays.j5 kj55 (bt340.1 != 0) l0_0 l0_1 a0_2 l1_0 a1_1 a1_2 a1_3 a1_4 l0_0 l0_1 a0_2))) else (some false)))) else (some false))) = some r := H; have A58 := Aside0.mk A580; clear A580; replace H := Option.bind_eq_some_iff.mp H; obtain ⟨t339, A590, H⟩ := H; replace H : (if t339 = true then ((cert_Gap.f kj55 l0_0 l0_1 a0_2 l1_0 a1_1 a1_2 a1_3 a1_4).bind fun bt340 => ((pledgesee_Is.f bt340.2 x7_55).bind fun t342 => (if t342 = true then ((pledgeref18_Least.f kj55 l0_0 l0_1 a0_2 0 a0_2).bind fun bt343 => (if bt340.2.isNone = true then (if bt340.1 = (mx 0 (wrap64 (t336 - bt343.1))) then (pledgelaw21_CertSays.j5 kj55 false l0_0 l0_1 a0_2 l1_0 a1_1 a1_2 a1_3 a1_4 l0_0 l0_1 a0_2) else (pledgelaw21_CertSays.j5 kj55 true l0_0 l0_1 a0_2 l1_0 a1_1 a1_2 a1_3 a1_4 l0_0 l0_1 a0_2)) else (pledgelaw21_CertSays.j5 kj55 (bt340.1 != 0) l0_0 l0_1 a0_2 l1_0 a1_1 a1_2 a1_3 a1_4 l0_0 l0_1 a0_2))) else (some false)))) else (some false)) = some r := H; have A59 := Aside0.mk A590; clear A590; by_cases c60 : t339 = true
             ·
              subst c60; have H1 : ((cert_Gap.f kj55 l0_0 l0_1 a0_2 l1_0 a1_1 a1_2 a1_3 a1_4).bind fun bt340 => ((pledgesee_Is.f bt340.2 x7_55).bind fun t342 => (if t342 = true then ((pledgeref18_Least.f kj55 l0_0 l0_1 a0_2 0 a0_2).bind fun bt343 => (if bt340.2.isNone = true then (if bt340.1 = (mx 0 (wrap64 (t336 - bt343.1))) then (pledgelaw21_CertSays.j5 kj55 false l0_0 l0_1 a0_2 l1_0 a1_1 a1_2 a1_3 a1_4 l0_0 l0_1 a0_2) else (pledgelaw21_CertSays.j5 kj55 true l0_0 l0_1 a0_2 l1_0 a1_1 a1_2 a1_3 a1_4 l0_0 l0_1 a0_2)) else (pledgelaw21_CertSays.j5 kj55 (bt340.1 != 0) l0_0 l0_1 a0_2 l1_0 a1_1 a1_2 a1_3 a1_4 l0_0 l0_1 a0_2))) else (some false)))) = some r := by rw [if_pos rfl] at H; exact H
              clear H; have H := H1; clear H1; replace H := Option.bind_eq_some_iff.mp H; obtain ⟨⟨t340, t341⟩, A610, H⟩ := H; replace H : ((pledgesee_Is.f t341 x7_55).bind fun t342 => (if t342 = true then ((pledgeref18_Least.f kj55 l0_0 l0_1 a0_2 0 a0_2).bind fun bt343 => (if t341.isNone = true then (if t340 = (mx 0 (wrap64 (t336 - bt343.1))) then (pledgelaw21_CertSays.j5 kj55 false l0_0 l0_1 a0_2 l1_0 a1_1 a1_2 a1_3 a1_4 l0_0 l0_1 a0_2) else (pledgelaw21_CertSays.j5 kj55 true l0_0 l0_1 a0_2 l1_0 a1_1 a1_2 a1_3 a1_4 l0_0 l0_1 a0_2)) else (pledgelaw21_CertSays.j5 kj55 (t340 != 0) l0_0 l0_1 a0_2 l1_0 a1_1 a1_2 a1_3 a1_4 l0_0 l0_1 a0_2))) else (some false))) = some r := H; have A61 := Aside0.mk A610; clear A610; replace H := Option.bind_eq_some_iff.mp H; obtain ⟨t342, A620, H⟩ := H; replace H : (if t342 = true then ((pledgeref18_Least.f kj55 l0_0 l0_1 a0_2 0 a0_2).bind fun bt343 => (if t341.isNone = true then (if t340 = (mx 0 (wrap64 (t336 - bt343.1))) then (pledgelaw21_CertSays.j5 kj55 false l0_0 l0_1 a0_2 l1_0 a1_1 a1_2 a1_3 a1_4 l0_0 l0_1 a0_2) else (pledgelaw21_CertSays.j5 kj55 true l0_0 l0_1 a0_2 l1_0 a1_1 a1_2 a1_3 a1_4 l0_0 l0_1 a0_2)) else (pledgelaw21_CertSays.j5 kj55 (t340 != 0) l0_0 l0_1 a0_2 l1_0 a1_1 a1_2 a1_3 a1_4 l0_0 l0_1 a0_2))) else (some false)) = some r := H; have A62 := Aside0.mk A620; clear A620; by_cases c63 : t342 = true
              ·
               subst c63; have H1 : ((pledgeref18_Least.f kj55 l0_0 l0_1 a0_2 0 a0_2).bind fun bt343 => (if t341.isNone = true then (if t340 = (mx 0 (wrap64 (t336 - bt343.1))) then (pledgelaw21_CertSays.j5 kj55 false l0_0 l0_1 a0_2 l1_0 a1_1 a1_2 a1_3 a1_4 l0_0 l0_1 a0_2) else (pledgelaw21_CertSays.j5 kj55 true l0_0 l0_1 a0_2 l1_0 a1_1 a1_2 a1_3 a1_4 l0_0 l0_1 a0_2)) else (pledgelaw21_CertSays.j5 kj55 (t340 != 0) l0_0 l0_1 a0_2 l1_0 a1_1 a1_2 a1_3 a1_4 l0_0 l0_1 a0_2))) = some r := by rw [if_pos rfl] at H; exact H
               clear H; have H := H1; clear H1; replace H := Option.bind_eq_some_iff.mp H; obtain ⟨⟨t343, t344⟩, A640, H⟩ := H; replace H : (if t341.isNone = true then (if t340 = (mx 0 (wrap64 (t336 - t343))) then (pledgelaw21_CertSays.j5 kj55 false l0_0 l0_1 a0_2 l1_0 a1_1 a1_2 a1_3 a1_4 l0_0 l0_1 a0_2) else (pledgelaw21_CertSays.j5 kj55 true l0_0 l0_1 a0_2 l1_0 a1_1 a1_2 a1_3 a1_4 l0_0 l0_1 a0_2)) else (pledgelaw21_CertSays.j5 kj55 (t340 != 0) l0_0 l0_1 a0_2 l1_0 a1_1 a1_2 a1_3 a1_4 l0_0 l0_1 a0_2)) = some r := H; have A64 := Aside0.mk A640; clear A640; have HC65 := Aside0.mk H; clear H; have hnb66 := NB329_330.out; have hnc66 := NB330_329.out; have hnb67 := NB329_332.out; have hnc67 := NB332_329.out; have hcz68_0 : wc.cell? ⟨gb329, 0, none⟩ = some (.slice A0_0 l0_0.length c0_0) := (blk_cell BK329.out 0).trans rfl; have hcz68_1 : wc.cell? ⟨gb329, 1, none⟩ = some (.slice A0_1 l0_1.length c0_1) := (blk_cell BK329.out 1).trans rfl; have hcz68_2 : wc.cell? ⟨gb329, 2, none⟩ = some (.int .i64 a0_2) := (blk_cell BK329.out 2).trans rfl; have hfz68_0 := blk_frozen BK329.out 0; have hfz68_1 := blk_frozen BK329.out 1; have hfz68_2 := blk_frozen BK329.out 2; have hnb69 := NB330_332.out; have hnc69 := NB332_330.out; have hcz70_0 : wc.cell? ⟨gb330, 0, none⟩ = some (.slice A1_0 l1_0.length c1_0) := (blk_cell BK330.out 0).trans rfl; have hcz70_1 : wc.cell? ⟨gb330, 1, none⟩ = some (.int .i64 a1_1) := (blk_cell BK330.out 1).trans rfl; have hcz70_2 : wc.cell? ⟨gb330, 2, none⟩ = some (.int .i64 a1_2) := (blk_cell BK330.out 2).trans rfl; have hcz70_3 : wc.cell? ⟨gb330, 3, none⟩ = some (.bool a1_3) := (blk_cell BK330.out 3).trans rfl; have hcz70_4 : wc.cell? ⟨gb330, 4, none⟩ = some (.int .i64 a1_4) := (blk_cell BK330.out 4).trans rfl; have hfz70_0 := blk_frozen BK330.out 0; have hfz70_1 := blk_frozen BK330.out 1; have hfz70_2 := blk_frozen BK330.out 2; have hfz70_3 := blk_frozen BK330.out 3; have hfz70_4 := blk_frozen BK330.out 4
               go_upto_region 20 with (first | ((with_reducible refine gate_callee (f := 10) rfl ?_); refine goesL_ (some 98) rfl rfl Tryd.func10 (by kernel_rfl) rfl #[.agg #[.slice A0_0 l0_0.length c0_0, .slice A0_1 l0_1.length c0_1, .int .i64 a0_2], .agg #[.slice A1_0 l1_0.length c1_0, .int .i64 a1_1, .int .i64 a1_2, .bool a1_3, .int .i64 a1_4]] rfl zM ?_; (with_reducible refine (cert_Check.calls kj55 _ _ l0_0 _ _ l0_1 a0_2 _ _ l1_0 a1_1 a1_2 a1_3 a1_4 t338 _ ?side1 ?side2 ?side3 ?side4 ?side5 ?side6 ?side7 A58.out).mono ?_); (case side1 => exact GlobOK.below HG.out (zH3 HB.out GE329.out GE330.out GE332.out)); (case side2 => exact zC HR0_0.out HB.out); (case side3 => exact HC0_0.out); (case side4 => exact zC HR0_1.out HB.out); (case side5 => exact HC0_1.out); (case side6 => exact zC HR1_0.out HB.out); (case side7 => exact HC1_0.out); rintro e w71 ⟨rfl, hb⟩; refine ⟨_, rfl, ?_⟩; have n0_ := zBB BK329 hb; have n1_ := zBB BK330 hb; have n2_ := zBB BK332 hb; have n3_ := Aside0.mk (below_step (zH3 HB.out GE329.out GE330.out GE332.out) hb); clear BK329; clear BK330; clear BK332; clear HB; have BK329 := n0_; have BK330 := n1_; have BK332 := n2_; have HB := n3_; clear n0_ n1_ n2_ n3_; (try clear hb); (try clear hb2); (try clear hk); (try clear hi); (try simp only [errW_none, errW_some]); have CA59 := fun W hG_ => pledgesee_Is.calls t338 x7_55 true W hG_ A59.out; try simp only [errW_none, errW_some] at CA59) | (go_at_call 9; (with_reducible refine (CA59 _ ?side1).mono ?_); (case side1 => exact GlobOK.below HG.out (zH3 HB.out GE329.out GE330.out GE332.out)); rintro e w72 ⟨rfl, hb⟩; have n0_ := zBB BK329 hb; have n1_ := zBB BK330 hb; have n2_ := zBB BK332 hb; have n3_ := Aside0.mk (below_step (zH3 HB.out GE329.out GE330.out GE332.out) hb); clear BK329; clear BK330; clear BK332; clear HB; have BK329 := n0_; have BK330 := n1_; have BK332 := n2_; have HB := n3_; clear n0_ n1_ n2_ n3_; (try clear hb); (try clear hb2); (try clear hk); (try clear hi); have hcz73_0 : w72.cell? ⟨gb329, 0, none⟩ = some (.slice A0_0 l0_0.length c0_0) := (blk_cell BK329.out 0).trans rfl; have hcz73_1 : w72.cell? ⟨gb329, 1, none⟩ = some (.slice A0_1 l0_1.length c0_1) := (blk_cell BK329.out 1).trans rfl; have hcz73_2 : w72.cell? ⟨gb329, 2, none⟩ = some (.int .i64 a0_2) := (blk_cell BK329.out 2).trans rfl; have hfz73_0 := blk_frozen BK329.out 0; have hfz73_1 := blk_frozen BK329.out 1; have hfz73_2 := blk_frozen BK329.out 2; have hcz74_0 : w72.cell? ⟨gb330, 0, none⟩ = some (.slice A1_0 l1_0.length c1_0) := (blk_cell BK330.out 0).trans rfl; have hcz74_1 : w72.cell? ⟨gb330, 1, none⟩ = some (.int .i64 a1_1) := (blk_cell BK330.out 1).trans rfl; have hcz74_2 : w72.cell? ⟨gb330, 2, none⟩ = some (.int .i64 a1_2) := (blk_cell BK330.out 2).trans rfl; have hcz74_3 : w72.cell? ⟨gb330, 3, none⟩ = some (.bool a1_3) := (blk_cell BK330.out 3).trans rfl; have hcz74_4 : w72.cell? ⟨gb330, 4, none⟩ = some (.int .i64 a1_4) := (blk_cell BK330.out 4).trans rfl; have hfz74_0 := blk_frozen BK330.out 0; have hfz74_1 := blk_frozen BK330.out 1; have hfz74_2 := blk_frozen BK330.out 2; have hfz74_3 := blk_frozen BK330.out 3; have hfz74_4 := blk_frozen BK330.out 4) | ((with_reducible refine gate_callee (f := 11) rfl ?_); refine goesL_ (some 105) rfl rfl Tryd.func11 (by kernel_rfl) rfl #[.agg #[.slice A0_0 l0_0.length c0_0, .slice A0_1 l0_1.length c0_1, .int .i64 a0_2], .agg #[.slice A1_0 l1_0.length c1_0, .int .i64 a1_1, .int .i64 a1_2, .bool a1_3, .int .i64 a1_4]] rfl zM ?_; (with_reducible refine (cert_Gap.calls kj55 _ _ l0_0 _ _ l0_1 a0_2 _ _ l1_0 a1_1 a1_2 a1_3 a1_4 t340 t341 _ ?side1 ?side2 ?side3 ?side4 ?side5 ?side6 ?side7 A61.out).mono ?_); (case side1 => exact GlobOK.below HG.out (zH3 HB.out GE329.out GE330.out GE332.out)); (case side2 => exact zC HR0_0.out HB.out); (case side3 => exact HC0_0.out); (case side4 => exact zC HR0_1.out HB.out); (case side5 => exact HC0_1.out); (case side6 => exact zC HR1_0.out HB.out); (case side7 => exact HC1_0.out); rintro e w75 ⟨rfl, hb⟩; refine ⟨_, rfl, ?_⟩; have n0_ := zBB BK329 hb; have n1_ := zBB BK330 hb; have n2_ := zBB BK332 hb; have n3_ := Aside0.mk (below_step (zH3 HB.out GE329.out GE330.out GE332.out) hb); clear BK329; clear BK330; clear BK332; clear HB; have BK329 := n0_; have BK330 := n1_; have BK332 := n2_; have HB := n3_; clear n0_ n1_ n2_ n3_; (try clear hb); (try clear hb2); (try clear hk); (try clear hi); (try simp only [errW_none, errW_some]); have CA62 := fun W hG_ => pledgesee_Is.calls t341 x7_55 true W hG_ A62.out; try simp only [errW_none, errW_some] at CA62) | (go_at_call 9; (with_reducible refine (CA62 _ ?side1).mono ?_); (case side1 => exact GlobOK.below HG.out (zH3 HB.out GE329.out GE330.out GE332.out)); rintro e w76 ⟨rfl, hb⟩; have n0_ := zBB BK329 hb; have n1_ := zBB BK330 hb; have n2_ := zBB BK332 hb; have n3_ := Aside0.mk (below_step (zH3 HB.out GE329.out GE330.out GE332.out) hb); clear BK329; clear BK330; clear BK332; clear HB; have BK329 := n0_; have BK330 := n1_; have BK332 := n2_; have HB := n3_; clear n0_ n1_ n2_ n3_; (try clear hb); (try clear hb2); (try clear hk); (try clear hi); have hcz77_0 : w76.cell? ⟨gb332, 0, none⟩ = some (.slice A0_0 l0_0.length c0_0) := (blk_cell BK332.out 0).trans rfl; have hcz77_1 : w76.cell? ⟨gb332, 1, none⟩ = some (.slice A0_1 l0_1.length c0_1) := (blk_cell BK332.out 1).trans rfl; have hcz77_2 : w76.cell? ⟨gb332, 2, none⟩ = some (.int .i64 a0_2) := (blk_cell BK332.out 2).trans rfl; have hfz77_0 := blk_frozen BK332.out 0; have hfz77_1 := blk_frozen BK332.out 1; have hfz77_2 := blk_frozen BK332.out 2) | ((with_reducible refine gate_callee (f := 12) rfl ?_); refine goesL_ (some 116) rfl rfl Tryd.func12 (by kernel_rfl) rfl #[.agg #[.slice A0_0 l0_0.length c0_0, .slice A0_1 l0_1.length c0_1, .int .i64 a0_2], .int .i64 0, .int .i64 a0_2] rfl zM ?_; (with_reducible refine (pledgeref18_Least.calls kj55 _ _ l0_0 _ _ l0_1 a0_2 0 a0_2 t343 t344 _ ?side1 ?side2 ?side3 ?side4 A64.out).mono ?_); (case side1 => exact zC HR0_0.out HB.out); (case side2 => exact HC0_0.out); (case side3 => exact zC HR0_1.out HB.out); (case side4 => exact HC0_1.out); rintro e w78 ⟨rfl, hb⟩; refine ⟨_, rfl, ?_⟩; have n0_ := zBB BK329 hb; have n1_ := zBB BK330 hb; have n2_ := zBB BK332 hb; have n3_ := Aside0.mk (below_step (zH3 HB.out GE329.out GE330.out GE332.out) hb); clear BK329; clear BK330; clear BK332; clear HB; have BK329 := n0_; have BK330 := n1_; have BK332 := n2_; have HB := n3_; clear n0_ n1_ n2_ n3_; (try clear hb); (try clear hb2); (try clear hk); (try clear hi)))
               (try simp only [Act.put, zq1, zq2, zq3])
               go_cut [136] (fun v136 wc => ∃ (kq : Nat) (x136_64 : Bool), v136 = .bool x136_64 ∧ Aside0 (pledgelaw21_CertSays.j5 kq x136_64 l0_0 l0_1 a0_2 l1_0 a1_1 a1_2 a1_3 a1_4 l0_0 l0_1 a0_2 = some r) ∧ Aside0 (kq ≤ kj55) ∧ Aside0 (wc.heap[gb329]? = some (.cells #[(.slice A0_0 l0_0.length c0_0), (.slice A0_1 l0_1.length c0_1), .int .i64 a0_2] 25 (0, 0))) ∧ Aside0 (wc.heap[gb330]? = some (.cells #[(.slice A1_0 l1_0.length c1_0), .int .i64 a1_1, .int .i64 a1_2, .bool a1_3, .int .i64 a1_4] 28 (0, 0))) ∧ Aside0 (wc.heap[gb332]? = some (.cells #[(.slice A0_0 l0_0.length c0_0), (.slice A0_1 l0_1.length c0_1), .int .i64 a0_2] 30 (0, 0))) ∧ Aside0 (Below w.heap.size w wc))
               case first => as_aux_lemma =>
                have H := HC65.out; clear HC65
                rcases t341 with _ | q345
                ·
                 have H1 : (if t340 = (mx 0 (wrap64 (t336 - t343))) then (pledgelaw21_CertSays.j5 kj55 false l0_0 l0_1 a0_2 l1_0 a1_1 a1_2 a1_3 a1_4 l0_0 l0_1 a0_2) else (pledgelaw21_CertSays.j5 kj55 true l0_0 l0_1 a0_2 l1_0 a1_1 a1_2 a1_3 a1_4 l0_0 l0_1 a0_2)) = some r := by rw [if_pos (show (none : Option Int).isNone = true by rfl)] at H; exact H
                 clear H; have H := H1; clear H1
                 try simp only [errW_none, errW_some]
                 obtain ⟨ji79, hji79⟩ : ∃ j_ : Int, (mx 0 (wrap64 (t336 - t343))) = j_ := ⟨_, rfl⟩; replace H : (if t340 = (ji79) then (pledgelaw21_CertSays.j5 kj55 false l0_0 l0_1 a0_2 l1_0 a1_1 a1_2 a1_3 a1_4 l0_0 l0_1 a0_2) else (pledgelaw21_CertSays.j5 kj55 true l0_0 l0_1 a0_2 l1_0 a1_1 a1_2 a1_3 a1_4 l0_0 l0_1 a0_2)) = some r := by first | (rw [hji79] at H; exact H) | (simp only [hji79] at H ⊢; exact H)
                 have hji79_ : (if 0 < (wrap64 (t336 - t343)) then (wrap64 (t336 - t343)) else 0) = ji79 := hji79; by_cases c80 : t340 = (ji79)
                 ·
                  rw [if_pos c80] at H; have c80b0 : (t340 == (ji79)) = true := beq_iff_eq.mpr c80; have c80b1 : (t340 != (ji79)) = false := bne_eq_false_iff_eq.mpr c80; clear c80
                  (first | rw [c80b0] | (simp only [i64_w, i32_w]; rw [c80b0]) | skip)
                  have H' := Aside0.mk H; clear H
                  go_wp2
                  go_meet
                  case rel => exact ⟨_, (false), (by first | rfl | (simp; done) | (simp [*]; done)), H', ⟨by have := HJ4.out; have := HJ25.out; have := HJ48.out; have := HJ50.out; have := HJ55.out; first | omega | exact Nat.le_refl _⟩, ⟨zB BK329.out⟩, ⟨zB BK330.out⟩, ⟨zB BK332.out⟩, ⟨zH3 HB.out GE329.out GE330.out GE332.out⟩⟩
                 ·
                  rw [if_neg c80] at H; have c80b0 : (t340 == (ji79)) = false := beq_eq_false_iff_ne.mpr c80; have c80b1 : (t340 != (ji79)) = true := bne_iff_ne.mpr c80
                  (first | rw [c80b0] | (simp only [i64_w, i32_w]; rw [c80b0]) | skip)
                  have H' := Aside0.mk H; clear H
                  go_wp2
                  go_meet
                  case rel => exact ⟨_, (true), (by first | rfl | (simp; done) | (simp [*]; done)), H', ⟨by have := HJ4.out; have := HJ25.out; have := HJ48.out; have := HJ50.out; have := HJ55.out; first | omega | exact Nat.le_refl _⟩, ⟨zB BK329.out⟩, ⟨zB BK330.out⟩, ⟨zB BK332.out⟩, ⟨zH3 HB.out GE329.out GE330.out GE332.out⟩⟩
                ·
                 have H1 : (pledgelaw21_CertSays.j5 kj55 (t340 != 0) l0_0 l0_1 a0_2 l1_0 a1_1 a1_2 a1_3 a1_4 l0_0 l0_1 a0_2) = some r := by rw [if_neg (show ¬ (some q345).isNone = true by simp)] at H; exact H
                 clear H; have H := H1; clear H1
                 try simp only [errW_none, errW_some]
                 have H' := Aside0.mk H; clear H
                 go_wp2
                 go_meet
                 case rel => exact ⟨_, ((t340 != 0)), (by first | rfl | (simp; done) | (simp [*]; done)), H', ⟨by have := HJ4.out; have := HJ25.out; have := HJ48.out; have := HJ50.out; have := HJ55.out; first | omega | exact Nat.le_refl _⟩, ⟨zB BK329.out⟩, ⟨zB BK330.out⟩, ⟨zB BK332.out⟩, ⟨zH3 HB.out GE329.out GE330.out GE332.out⟩⟩
               case rest => as_aux_lemma =>
                clear HC65
                try clear c1
                try clear c2
                try clear p2
                try clear c3
                try clear q3
                try clear c4
                try clear c5
                try clear c6
                try clear p6
                try clear c7
                try clear c8
                try clear c9
                try clear c9b0
                try clear c9b1
                try clear c10
                try clear c11
                try clear c12
                try clear c12b0
                try clear c12b1
                try clear c13
                try clear c15
                try clear c15b0
                try clear c15b1
                try clear c16
                try clear c19
                try clear c22
                try clear c27
                try clear c30
                try clear c31
                try clear q34
                try clear c40
                try clear c40b0
                try clear c40b1
                try clear c41
                try clear c42
                try clear c42b0
                try clear c42b1
                try clear c43
                try clear c44
                try clear c46
                try clear c47
                try clear c50
                try clear c52
                try clear c52b0
                try clear c52b1
                try clear c53
                try clear c54
                try clear c57
                try clear c60
                try clear c63
                try clear p64
                try clear c66
                try clear c67
                try clear c69
                try clear c80
                try clear c80b0
                try clear c80b1
                try clear hcz11_0
                try clear hcz11_1
                try clear hcz11_2
                try clear hcz14_0
                try clear hcz14_1
                try clear hcz14_2
                try clear hcz17_0
                try clear hcz17_1
                try clear hcz17_2
                try clear hcz18_0
                try clear hcz18_1
                try clear hcz18_2
                try clear hcz18_3
                try clear hcz18_4
                try clear hcz20_0
                try clear hcz20_1
                try clear hcz20_2
                try clear hcz21_0
                try clear hcz21_1
                try clear hcz21_2
                try clear hcz21_3
                try clear hcz21_4
                try clear hcz28_0
                try clear hcz28_1
                try clear hcz28_2
                try clear hcz32_0
                try clear hcz32_1
                try clear hcz32_2
                try clear hcz34_0
                try clear hcz34_1
                try clear hcz34_2
                try clear hcz35_0
                try clear hcz35_1
                try clear hcz35_2
                try clear hcz35_3
                try clear hcz35_4
                try clear hcz37_0
                try clear hcz37_1
                try clear hcz37_2
                try clear hcz38_0
                try clear hcz38_1
                try clear hcz38_2
                try clear hcz38_3
                try clear hcz38_4
                try clear hcz45_0
                try clear hcz45_1
                try clear hcz45_2
                try clear hcz45_3
                try clear hcz45_4
                try clear hcz48_0
                try clear hcz48_1
                try clear hcz48_2
                try clear hcz48_3
                try clear hcz48_4
                try clear hcz55_0
                try clear hcz55_1
                try clear hcz55_2
                try clear hcz68_0
                try clear hcz68_1
                try clear hcz68_2
                try clear hcz70_0
                try clear hcz70_1
                try clear hcz70_2
                try clear hcz70_3
                try clear hcz70_4
                try clear hcz73_0
                try clear hcz73_1
                try clear hcz73_2
                try clear hcz74_0
                try clear hcz74_1
                try clear hcz74_2
                try clear hcz74_3
                try clear hcz74_4
                try clear hcz77_0
                try clear hcz77_1
                try clear hcz77_2
                try clear hfz11_0
                try clear hfz11_1
                try clear hfz11_2
                try clear hfz14_0
                try clear hfz14_1
                try clear hfz14_2
                try clear hfz17_0
                try clear hfz17_1
                try clear hfz17_2
                try clear hfz18_0
                try clear hfz18_1
                try clear hfz18_2
                try clear hfz18_3
                try clear hfz18_4
                try clear hfz20_0
                try clear hfz20_1
                try clear hfz20_2
                try clear hfz21_0
                try clear hfz21_1
                try clear hfz21_2
                try clear hfz21_3
                try clear hfz21_4
                try clear hfz28_0
                try clear hfz28_1
                try clear hfz28_2
                try clear hfz32_0
                try clear hfz32_1
                try clear hfz32_2
                try clear hfz34_0
                try clear hfz34_1
                try clear hfz34_2
                try clear hfz35_0
                try clear hfz35_1
                try clear hfz35_2
                try clear hfz35_3
                try clear hfz35_4
                try clear hfz37_0
                try clear hfz37_1
                try clear hfz37_2
                try clear hfz38_0
                try clear hfz38_1
                try clear hfz38_2
                try clear hfz38_3
                try clear hfz38_4
                try clear hfz45_0
                try clear hfz45_1
                try clear hfz45_2
                try clear hfz45_3
                try clear hfz45_4
                try clear hfz48_0
                try clear hfz48_1
                try clear hfz48_2
                try clear hfz48_3
                try clear hfz48_4
                try clear hfz55_0
                try clear hfz55_1
                try clear hfz55_2
                try clear hfz68_0
                try clear hfz68_1
                try clear hfz68_2
                try clear hfz70_0
                try clear hfz70_1
                try clear hfz70_2
                try clear hfz70_3
                try clear hfz70_4
                try clear hfz73_0
                try clear hfz73_1
                try clear hfz73_2
                try clear hfz74_0
                try clear hfz74_1
                try clear hfz74_2
                try clear hfz74_3
                try clear hfz74_4
                try clear hfz77_0
                try clear hfz77_1
                try clear hfz77_2
                try clear p2
                try clear q345
                obtain ⟨kq, x136_64, rfl, HA, HJ64, BK329, BK330, BK332, HB⟩ := hcut
                cases kq with
                | zero => exact absurd HA.out (by simp [pledgelaw21_CertSays.j5])
                | succ kj64 =>
                 have H := HA.out; clear HA; simp only [pledgelaw21_CertSays.j5] at H; by_cases c81 : x136_64 = true
                 ·
                  subst c81; have H1 : (some false) = some r := by rw [if_pos rfl] at H; exact H
                  clear H; have H := H1; clear H1; obtain rfl := Option.some.inj H
                  go_wp2
                  go_ret
                  exact ⟨zE, zH3 HB.out GE329.out GE330.out GE332.out⟩
                 ·
                  replace c81 := Bool.eq_false_iff.mpr c81; subst c81; have H1 : ((cert_Swap.f kj64 l0_0 l0_1 a0_2 l1_0).bind fun bt346 => (pledgelaw21_CertSays.l0 kj64 bt346.1 bt346.2 (-1) 0 l1_0 a1_1 a1_2 a1_3 a1_4 l0_0 l0_1 a0_2)) = some r := by rw [if_neg (show ¬ (false = true) by decide)] at H; exact H
                  clear H; have H := H1; clear H1; replace H := Option.bind_eq_some_iff.mp H; obtain ⟨⟨t346, t349⟩, A820, H⟩ := H; replace H : (pledgelaw21_CertSays.l0 kj64 t346 t349 (-1) 0 l1_0 a1_1 a1_2 a1_3 a1_4 l0_0 l0_1 a0_2) = some r := H; have A82 := Aside0.mk A820; clear A820; have H' := Aside0.mk H; clear H; have hnb83 := NB329_330.out; have hnc83 := NB330_329.out; have hnb84 := NB329_332.out; have hnc84 := NB332_329.out; have hcz85_0 : wc.cell? ⟨gb329, 0, none⟩ = some (.slice A0_0 l0_0.length c0_0) := (blk_cell BK329.out 0).trans rfl; have hcz85_1 : wc.cell? ⟨gb329, 1, none⟩ = some (.slice A0_1 l0_1.length c0_1) := (blk_cell BK329.out 1).trans rfl; have hcz85_2 : wc.cell? ⟨gb329, 2, none⟩ = some (.int .i64 a0_2) := (blk_cell BK329.out 2).trans rfl; have hfz85_0 := blk_frozen BK329.out 0; have hfz85_1 := blk_frozen BK329.out 1; have hfz85_2 := blk_frozen BK329.out 2; have hnb86 := NB330_332.out; have hnc86 := NB332_330.out; have hcz87_0 : wc.cell? ⟨gb330, 0, none⟩ = some (.slice A1_0 l1_0.length c1_0) := (blk_cell BK330.out 0).trans rfl; have hcz87_1 : wc.cell? ⟨gb330, 1, none⟩ = some (.int .i64 a1_1) := (blk_cell BK330.out 1).trans rfl; have hcz87_2 : wc.cell? ⟨gb330, 2, none⟩ = some (.int .i64 a1_2) := (blk_cell BK330.out 2).trans rfl; have hcz87_3 : wc.cell? ⟨gb330, 3, none⟩ = some (.bool a1_3) := (blk_cell BK330.out 3).trans rfl; have hcz87_4 : wc.cell? ⟨gb330, 4, none⟩ = some (.int .i64 a1_4) := (blk_cell BK330.out 4).trans rfl; have hfz87_0 := blk_frozen BK330.out 0; have hfz87_1 := blk_frozen BK330.out 1; have hfz87_2 := blk_frozen BK330.out 2; have hfz87_3 := blk_frozen BK330.out 3; have hfz87_4 := blk_frozen BK330.out 4
                  go_wp2_with (first | ((with_reducible refine gate_callee (f := 13) rfl ?_); refine goesL_ (some 141) rfl rfl Tryd.func13 (by kernel_rfl) rfl #[.agg #[.slice A0_0 l0_0.length c0_0, .slice A0_1 l0_1.length c0_1, .int .i64 a0_2], .slice A1_0 l1_0.length c1_0] rfl zM ?_; (with_reducible refine (cert_Swap.calls kj64 _ _ l0_0 _ _ l0_1 a0_2 _ _ l1_0 t346 t349 _ ?side1 ?side2 ?side3 ?side4 ?side5 ?side6 ?side7 A82.out).mono ?_); (case side1 => exact GlobOK.below HG.out (zH3 HB.out GE329.out GE330.out GE332.out)); (case side2 => exact zC HR0_0.out HB.out); (case side3 => exact HC0_0.out); (case side4 => exact zC HR0_1.out HB.out); (case side5 => exact HC0_1.out); (case side6 => exact zC HR1_0.out HB.out); (case side7 => exact HC1_0.out); rintro e w88 ⟨v347, rfl, ho0, hb⟩; refine ⟨_, rfl, ?_⟩; have n0_ := Aside0.mk (Kd.R_lower ho0 (below_size (zH3 HB.out GE329.out GE330.out GE332.out))); have n1_ := zBB BK329 hb; have n2_ := zBB BK330 hb; have n3_ := zBB BK332 hb; have n4_ := Aside0.mk (below_step (zH3 HB.out GE329.out GE330.out GE332.out) hb); clear BK329; clear BK330; clear BK332; clear HB; have HO348 := n0_; have BK329 := n1_; have BK330 := n2_; have BK332 := n3_; have HB := n4_; clear n0_ n1_ n2_ n3_ n4_; (try clear hb); (try clear hb2); (try clear hk); (try clear hi); (try clear ho0)))
                  go_loopg [18, 19] kj64 (fun kq v18 v19 w' => ∃ (x16_7 : List Int) (x18_7 : Int) (x19_7 : Int), v18 = .int .i64 x18_7 ∧ v19 = .int .i64 x19_7 ∧ Aside0 (pledgelaw21_CertSays.l0 kq x16_7 t349 x18_7 x19_7 l1_0 a1_1 a1_2 a1_3 a1_4 l0_0 l0_1 a0_2 = some r) ∧ Aside0 (kq ≤ kj64) ∧ Aside0 (Kd.R (Kd.int .i64) 3 w' w.heap.size (fun _ => True) v347 x16_7) ∧ Aside0 (w'.heap[gb329]? = some (.cells #[(.slice A0_0 l0_0.length c0_0), (.slice A0_1 l0_1.length c0_1), .int .i64 a0_2] 25 (0, 0))) ∧ Aside0 (w'.heap[gb330]? = some (.cells #[(.slice A1_0 l1_0.length c1_0), .int .i64 a1_1, .int .i64 a1_2, .bool a1_3, .int .i64 a1_4] 28 (0, 0))) ∧ Aside0 (w'.heap[gb332]? = some (.cells #[(.slice A0_0 l0_0.length c0_0), (.slice A0_1 l0_1.length c0_1), .int .i64 a0_2] 30 (0, 0))) ∧ Aside0 (Below w.heap.size w w'))
                  case atStart => exact ⟨(t346), ((-1)), (0), (by first | rfl | (simp; done) | (simp [*]; done)), (by first | rfl | (simp; done) | (simp [*]; done)), H', ⟨Nat.le_refl _⟩, ⟨by (with_reducible repeat (first | apply Kd.R_alloc | apply Kd.R_drewN | apply Kd.R_drew)); exact HO348.out⟩, ⟨zB BK329.out⟩, ⟨zB BK330.out⟩, ⟨zB BK332.out⟩, ⟨zH3 HB.out GE329.out GE330.out GE332.out⟩⟩
                  case round => as_aux_lemma =>
                   clear H'
                   try clear c1
                   try clear c2
                   try clear p2
                   try clear c3
                   try clear q3
                   try clear c4
                   try clear c5
                   try clear c6
                   try clear p6
                   try clear c7
                   try clear c8
                   try clear c9
                   try clear c9b0
                   try clear c9b1
                   try clear c10
                   try clear c11
                   try clear c12
                   try clear c12b0
                   try clear c12b1
                   try clear c13
                   try clear c15
                   try clear c15b0
                   try clear c15b1
                   try clear c16
                   try clear c19
                   try clear c22
                   try clear c27
                   try clear c30
                   try clear c31
                   try clear q34
                   try clear c40
                   try clear c40b0
                   try clear c40b1
                   try clear c41
                   try clear c42
                   try clear c42b0
                   try clear c42b1
                   try clear c43
                   try clear c44
                   try clear c46
                   try clear c47
                   try clear c50
                   try clear c52
                   try clear c52b0
                   try clear c52b1
                   try clear c53
                   try clear c54
                   try clear c57
                   try clear c60
                   try clear c63
                   try clear p64
                   try clear c66
                   try clear c67
                   try clear c69
                   try clear c80
                   try clear c80b0
                   try clear c80b1
                   try clear c81
                   try clear c83
                   try clear c84
                   try clear c86
                   try clear hcz11_0
                   try clear hcz11_1
                   try clear hcz11_2
                   try clear hcz14_0
                   try clear hcz14_1
                   try clear hcz14_2
                   try clear hcz17_0
                   try clear hcz17_1
                   try clear hcz17_2
                   try clear hcz18_0
                   try clear hcz18_1
                   try clear hcz18_2
                   try clear hcz18_3
                   try clear hcz18_4
                   try clear hcz20_0
                   try clear hcz20_1
                   try clear hcz20_2
                   try clear hcz21_0
                   try clear hcz21_1
                   try clear hcz21_2
                   try clear hcz21_3
                   try clear hcz21_4
                   try clear hcz28_0
                   try clear hcz28_1
                   try clear hcz28_2
                   try clear hcz32_0
                   try clear hcz32_1
                   try clear hcz32_2
                   try clear hcz34_0
                   try clear hcz34_1
                   try clear hcz34_2
                   try clear hcz35_0
                   try clear hcz35_1
                   try clear hcz35_2
                   try clear hcz35_3
                   try clear hcz35_4
                   try clear hcz37_0
                   try clear hcz37_1
                   try clear hcz37_2
                   try clear hcz38_0
                   try clear hcz38_1
                   try clear hcz38_2
                   try clear hcz38_3
                   try clear hcz38_4
                   try clear hcz45_0
                   try clear hcz45_1
                   try clear hcz45_2
                   try clear hcz45_3
                   try clear hcz45_4
                   try clear hcz48_0
                   try clear hcz48_1
                   try clear hcz48_2
                   try clear hcz48_3
                   try clear hcz48_4
                   try clear hcz55_0
                   try clear hcz55_1
                   try clear hcz55_2
                   try clear hcz68_0
                   try clear hcz68_1
                   try clear hcz68_2
                   try clear hcz70_0
                   try clear hcz70_1
                   try clear hcz70_2
                   try clear hcz70_3
                   try clear hcz70_4
                   try clear hcz73_0
                   try clear hcz73_1
                   try clear hcz73_2
                   try clear hcz74_0
                   try clear hcz74_1
                   try clear hcz74_2
                   try clear hcz74_3
                   try clear hcz74_4
                   try clear hcz77_0
                   try clear hcz77_1
                   try clear hcz77_2
                   try clear hcz85_0
                   try clear hcz85_1
                   try clear hcz85_2
                   try clear hcz87_0
                   try clear hcz87_1
                   try clear hcz87_2
                   try clear hcz87_3
                   try clear hcz87_4
                   try clear hfz11_0
                   try clear hfz11_1
                   try clear hfz11_2
                   try clear hfz14_0
                   try clear hfz14_1
                   try clear hfz14_2
                   try clear hfz17_0
                   try clear hfz17_1
                   try clear hfz17_2
                   try clear hfz18_0
                   try clear hfz18_1
                   try clear hfz18_2
                   try clear hfz18_3
                   try clear hfz18_4
                   try clear hfz20_0
                   try clear hfz20_1
                   try clear hfz20_2
                   try clear hfz21_0
                   try clear hfz21_1
                   try clear hfz21_2
                   try clear hfz21_3
                   try clear hfz21_4
                   try clear hfz28_0
                   try clear hfz28_1
                   try clear hfz28_2
                   try clear hfz32_0
                   try clear hfz32_1
                   try clear hfz32_2
                   try clear hfz34_0
                   try clear hfz34_1
                   try clear hfz34_2
                   try clear hfz35_0
                   try clear hfz35_1
                   try clear hfz35_2
                   try clear hfz35_3
                   try clear hfz35_4
                   try clear hfz37_0
                   try clear hfz37_1
                   try clear hfz37_2
                   try clear hfz38_0
                   try clear hfz38_1
                   try clear hfz38_2
                   try clear hfz38_3
                   try clear hfz38_4
                   try clear hfz45_0
                   try clear hfz45_1
                   try clear hfz45_2
                   try clear hfz45_3
                   try clear hfz45_4
                   try clear hfz48_0
                   try clear hfz48_1
                   try clear hfz48_2
                   try clear hfz48_3
                   try clear hfz48_4
                   try clear hfz55_0
                   try clear hfz55_1
                   try clear hfz55_2
                   try clear hfz68_0
                   try clear hfz68_1
                   try clear hfz68_2
                   try clear hfz70_0
                   try clear hfz70_1
                   try clear hfz70_2
                   try clear hfz70_3
                   try clear hfz70_4
                   try clear hfz73_0
                   try clear hfz73_1
                   try clear hfz73_2
                   try clear hfz74_0
                   try clear hfz74_1
                   try clear hfz74_2
                   try clear hfz74_3
                   try clear hfz74_4
                   try clear hfz77_0
                   try clear hfz77_1
                   try clear hfz77_2
                   try clear hfz85_0
                   try clear hfz85_1
                   try clear hfz85_2
                   try clear hfz87_0
                   try clear hfz87_1
                   try clear hfz87_2
                   try clear hfz87_3
                   try clear hfz87_4
                   try clear p2
                   try clear p6
                   try clear p64
                   try clear q3
                   try clear q34
                   try clear q345
                   obtain ⟨x16_7, x18_7, x19_7, rfl, rfl, HA, HK7, HO_16, BK329, BK330, BK332, HB⟩ := hrel
                   cases gk with
                   | zero => exact absurd HA.out (by simp [pledgelaw21_CertSays.l0])
                   | succ k7 =>
                    have H := HA.out; clear HA; simp only [pledgelaw21_CertSays.l0] at H; have HC89 := Aside0.mk H; clear H
                    go_upto_region 25 with (fail)
                    go_cut [158] (fun v158 wc => ∃ (kq : Nat) (x158_88 : Bool), v158 = .bool x158_88 ∧ Aside0 (pledgelaw21_CertSays.j7 kq x16_7 t349 x18_7 x19_7 x158_88 l1_0 a1_1 a1_2 a1_3 a1_4 l0_0 l0_1 a0_2 = some r) ∧ Aside0 (kq ≤ k7) ∧ Aside0 (Kd.R (Kd.int .i64) 3 wc w.heap.size (fun _ => True) v347 x16_7) ∧ Aside0 (wc.heap[gb329]? = some (.cells #[(.slice A0_0 l0_0.length c0_0), (.slice A0_1 l0_1.length c0_1), .int .i64 a0_2] 25 (0, 0))) ∧ Aside0 (wc.heap[gb330]? = some (.cells #[(.slice A1_0 l1_0.length c1_0), .int .i64 a1_1, .int .i64 a1_2, .bool a1_3, .int .i64 a1_4] 28 (0, 0))) ∧ Aside0 (wc.heap[gb332]? = some (.cells #[(.slice A0_0 l0_0.length c0_0), (.slice A0_1 l0_1.length c0_1), .int .i64 a0_2] 30 (0, 0))) ∧ Aside0 (Below w.heap.size w wc))
                    case first => as_aux_lemma =>
                     have H := HC89.out; clear HC89; by_cases c90 : x19_7 < (l1_0.length : Int)
                     ·
                      rw [if_pos c90] at H; have c90b0 : decide (x19_7 < (l1_0.length : Int)) = true := decide_eq_true c90; clear c90
                      (first | rw [c90b0] | (simp only [i64_w, i32_w]; rw [c90b0]) | skip)
                      by_cases c91 : x18_7 < 0
                      ·
                       rw [if_pos c91] at H; have c91b0 : decide (x18_7 < 0) = true := decide_eq_true c91; clear c91; replace H := Option.bind_eq_some_iff.mp H; obtain ⟨t350, A920, H⟩ := H; replace H : (pledgelaw21_CertSays.j7 k7 x16_7 t349 x18_7 x19_7 t350 l1_0 a1_1 a1_2 a1_3 a1_4 l0_0 l0_1 a0_2) = some r := H; have A92 := Aside0.mk A920; clear A920; have H' := Aside0.mk H; clear H; have hnb93 := NB330_329.out; have hnc93 := NB329_330.out; have hnb94 := NB330_332.out; have hnc94 := NB332_330.out; have hcz95_0 : wr.cell? ⟨gb330, 0, none⟩ = some (.slice A1_0 l1_0.length c1_0) := (blk_cell BK330.out 0).trans rfl; have hcz95_1 : wr.cell? ⟨gb330, 1, none⟩ = some (.int .i64 a1_1) := (blk_cell BK330.out 1).trans rfl; have hcz95_2 : wr.cell? ⟨gb330, 2, none⟩ = some (.int .i64 a1_2) := (blk_cell BK330.out 2).trans rfl; have hcz95_3 : wr.cell? ⟨gb330, 3, none⟩ = some (.bool a1_3) := (blk_cell BK330.out 3).trans rfl; have hcz95_4 : wr.cell? ⟨gb330, 4, none⟩ = some (.int .i64 a1_4) := (blk_cell BK330.out 4).trans rfl; have hfz95_0 := blk_frozen BK330.out 0; have hfz95_1 := blk_frozen BK330.out 1; have hfz95_2 := blk_frozen BK330.out 2; have hfz95_3 := blk_frozen BK330.out 3; have hfz95_4 := blk_frozen BK330.out 4; have hnb96 := NB332_329.out; have hnc96 := NB329_332.out; have hcz97_0 : wr.cell? ⟨gb332, 0, none⟩ = some (.slice A0_0 l0_0.length c0_0) := (blk_cell BK332.out 0).trans rfl; have hcz97_1 : wr.cell? ⟨gb332, 1, none⟩ = some (.slice A0_1 l0_1.length c0_1) := (blk_cell BK332.out 1).trans rfl; have hcz97_2 : wr.cell? ⟨gb332, 2, none⟩ = some (.int .i64 a0_2) := (blk_cell BK332.out 2).trans rfl; have hfz97_0 := blk_frozen BK332.out 0; have hfz97_1 := blk_frozen BK332.out 1; have hfz97_2 := blk_frozen BK332.out 2
                       go_wp2_with (first | (go_at_call 14; (with_reducible refine (pledgeref18_Fits.calls k7 _ _ l0_0 _ _ l0_1 a0_2 _ _ l1_0 t350 _ ?side1 ?side2 ?side3 ?side4 ?side5 ?side6 A92.out).mono ?_); (case side1 => exact zC HR0_0.out HB.out); (case side2 => exact HC0_0.out); (case side3 => exact zC HR0_1.out HB.out); (case side4 => exact HC0_1.out); (case side5 => exact zC HR1_0.out HB.out); (case side6 => exact HC1_0.out); rintro e w98 ⟨rfl, hb⟩; have n0_ := Aside0.mk (Kd.R_below (zR HO_16.out) hb); have n1_ := zBB BK329 hb; have n2_ := zBB BK330 hb; have n3_ := zBB BK332 hb; have n4_ := Aside0.mk (below_step (zH3 HB.out GE329.out GE330.out GE332.out) hb); clear HO_16; clear BK329; clear BK330; clear BK332; clear HB; have HO_16 := n0_; have BK329 := n1_; have BK330 := n2_; have BK332 := n3_; have HB := n4_; clear n0_ n1_ n2_ n3_ n4_; (try clear hb); (try clear hb2); (try clear hk); (try clear hi)))
                       go_meet
                       case rel => exact ⟨_, (t350), (by first | rfl | (simp; done) | (simp [*]; done)), H', ⟨by have := HJ4.out; have := HJ25.out; have := HJ48.out; have := HJ50.out; have := HJ55.out; have := HJ64.out; have := HK7.out; first | omega | exact Nat.le_refl _⟩, ⟨by (with_reducible repeat (first | apply Kd.R_alloc | apply Kd.R_drewN | apply Kd.R_drew)); exact HO_16.out⟩, ⟨zB BK329.out⟩, ⟨zB BK330.out⟩, ⟨zB BK332.out⟩, ⟨zH3 HB.out GE329.out GE330.out GE332.out⟩⟩
                      ·
                       rw [if_neg c91] at H; have c91b0 : decide (x18_7 < 0) = false := decide_eq_false c91; clear c91; have H' := Aside0.mk H; clear H; have hnb99 := NB330_329.out; have hnc99 := NB329_330.out; have hnb100 := NB330_332.out; have hnc100 := NB332_330.out; have hcz101_0 : wr.cell? ⟨gb330, 0, none⟩ = some (.slice A1_0 l1_0.length c1_0) := (blk_cell BK330.out 0).trans rfl; have hcz101_1 : wr.cell? ⟨gb330, 1, none⟩ = some (.int .i64 a1_1) := (blk_cell BK330.out 1).trans rfl; have hcz101_2 : wr.cell? ⟨gb330, 2, none⟩ = some (.int .i64 a1_2) := (blk_cell BK330.out 2).trans rfl; have hcz101_3 : wr.cell? ⟨gb330, 3, none⟩ = some (.bool a1_3) := (blk_cell BK330.out 3).trans rfl; have hcz101_4 : wr.cell? ⟨gb330, 4, none⟩ = some (.int .i64 a1_4) := (blk_cell BK330.out 4).trans rfl; have hfz101_0 := blk_frozen BK330.out 0; have hfz101_1 := blk_frozen BK330.out 1; have hfz101_2 := blk_frozen BK330.out 2; have hfz101_3 := blk_frozen BK330.out 3; have hfz101_4 := blk_frozen BK330.out 4
                       go_wp2
                       go_meet
                       case rel => exact ⟨_, (false), (by first | rfl | (simp; done) | (simp [*]; done)), H', ⟨by have := HJ4.out; have := HJ25.out; have := HJ48.out; have := HJ50.out; have := HJ55.out; have := HJ64.out; have := HK7.out; first | omega | exact Nat.le_refl _⟩, ⟨by (with_reducible repeat (first | apply Kd.R_alloc | apply Kd.R_drewN | apply Kd.R_drew)); exact HO_16.out⟩, ⟨zB BK329.out⟩, ⟨zB BK330.out⟩, ⟨zB BK332.out⟩, ⟨zH3 HB.out GE329.out GE330.out GE332.out⟩⟩
                     ·
                      rw [if_neg c90] at H; have c90b0 : decide (x19_7 < (l1_0.length : Int)) = false := decide_eq_false c90; clear c90
                      (first | rw [c90b0] | (simp only [i64_w, i32_w]; rw [c90b0]) | skip)
                      have H' := Aside0.mk H; clear H; have hnb102 := NB330_329.out; have hnc102 := NB329_330.out; have hnb103 := NB330_332.out; have hnc103 := NB332_330.out; have hcz104_0 : wr.cell? ⟨gb330, 0, none⟩ = some (.slice A1_0 l1_0.length c1_0) := (blk_cell BK330.out 0).trans rfl; have hcz104_1 : wr.cell? ⟨gb330, 1, none⟩ = some (.int .i64 a1_1) := (blk_cell BK330.out 1).trans rfl; have hcz104_2 : wr.cell? ⟨gb330, 2, none⟩ = some (.int .i64 a1_2) := (blk_cell BK330.out 2).trans rfl; have hcz104_3 : wr.cell? ⟨gb330, 3, none⟩ = some (.bool a1_3) := (blk_cell BK330.out 3).trans rfl; have hcz104_4 : wr.cell? ⟨gb330, 4, none⟩ = some (.int .i64 a1_4) := (blk_cell BK330.out 4).trans rfl; have hfz104_0 := blk_frozen BK330.out 0; have hfz104_1 := blk_frozen BK330.out 1; have hfz104_2 := blk_frozen BK330.out 2; have hfz104_3 := blk_frozen BK330.out 3; have hfz104_4 := blk_frozen BK330.out 4
                      go_wp2
                      go_meet
                      case rel => exact ⟨_, (false), (by first | rfl | (simp; done) | (simp [*]; done)), H', ⟨by have := HJ4.out; have := HJ25.out; have := HJ48.out; have := HJ50.out; have := HJ55.out; have := HJ64.out; have := HK7.out; first | omega | exact Nat.le_refl _⟩, ⟨by (with_reducible repeat (first | apply Kd.R_alloc | apply Kd.R_drewN | apply Kd.R_drew)); exact HO_16.out⟩, ⟨zB BK329.out⟩, ⟨zB BK330.out⟩, ⟨zB BK332.out⟩, ⟨zH3 HB.out GE329.out GE330.out GE332.out⟩⟩
                    case rest => as_aux_lemma =>
                     clear HC89
                     try clear c1
                     try clear c2
                     try clear p2
                     try clear c3
                     try clear q3
                     try clear c4
                     try clear c5
                     try clear c6
                     try clear p6
                     try clear c7
                     try clear c8
                     try clear c9
                     try clear c9b0
                     try clear c9b1
                     try clear c10
                     try clear c11
                     try clear c12
                     try clear c12b0
                     try clear c12b1
                     try clear c13
                     try clear c15
                     try clear c15b0
                     try clear c15b1
                     try clear c16
                     try clear c19
                     try clear c22
                     try clear c27
                     try clear c30
                     try clear c31
                     try clear q34
                     try clear c40
                     try clear c40b0
                     try clear c40b1
                     try clear c41
                     try clear c42
                     try clear c42b0
                     try clear c42b1
                     try clear c43
                     try clear c44
                     try clear c46
                     try clear c47
                     try clear c50
                     try clear c52
                     try clear c52b0
                     try clear c52b1
                     try clear c53
                     try clear c54
                     try clear c57
                     try clear c60
                     try clear c63
                     try clear p64
                     try clear c66
                     try clear c67
                     try clear c69
                     try clear c80
                     try clear c80b0
                     try clear c80b1
                     try clear c81
                     try clear c83
                     try clear c84
                     try clear c86
                     try clear c90
                     try clear c90b0
                     try clear c91
                     try clear c91b0
                     try clear c93
                     try clear c94
                     try clear c96
                     try clear c99
                     try clear c100
                     try clear c102
                     try clear c103
                     try clear hcz101_0
                     try clear hcz101_1
                     try clear hcz101_2
                     try clear hcz101_3
                     try clear hcz101_4
                     try clear hcz104_0
                     try clear hcz104_1
                     try clear hcz104_2
                     try clear hcz104_3
                     try clear hcz104_4
                     try clear hcz11_0
                     try clear hcz11_1
                     try clear hcz11_2
                     try clear hcz14_0
                     try clear hcz14_1
                     try clear hcz14_2
                     try clear hcz17_0
                     try clear hcz17_1
                     try clear hcz17_2
                     try clear hcz18_0
                     try clear hcz18_1
                     try clear hcz18_2
                     try clear hcz18_3
                     try clear hcz18_4
                     try clear hcz20_0
                     try clear hcz20_1
                     try clear hcz20_2
                     try clear hcz21_0
                     try clear hcz21_1
                     try clear hcz21_2
                     try clear hcz21_3
                     try clear hcz21_4
                     try clear hcz28_0
                     try clear hcz28_1
                     try clear hcz28_2
                     try clear hcz32_0
                     try clear hcz32_1
                     try clear hcz32_2
                     try clear hcz34_0
                     try clear hcz34_1
                     try clear hcz34_2
                     try clear hcz35_0
                     try clear hcz35_1
                     try clear hcz35_2
                     try clear hcz35_3
                     try clear hcz35_4
                     try clear hcz37_0
                     try clear hcz37_1
                     try clear hcz37_2
                     try clear hcz38_0
                     try clear hcz38_1
                     try clear hcz38_2
                     try clear hcz38_3
                     try clear hcz38_4
                     try clear hcz45_0
                     try clear hcz45_1
                     try clear hcz45_2
                     try clear hcz45_3
                     try clear hcz45_4
                     try clear hcz48_0
                     try clear hcz48_1
                     try clear hcz48_2
                     try clear hcz48_3
                     try clear hcz48_4
                     try clear hcz55_0
                     try clear hcz55_1
                     try clear hcz55_2
                     try clear hcz68_0
                     try clear hcz68_1
                     try clear hcz68_2
                     try clear hcz70_0
                     try clear hcz70_1
                     try clear hcz70_2
                     try clear hcz70_3
                     try clear hcz70_4
                     try clear hcz73_0
                     try clear hcz73_1
                     try clear hcz73_2
                     try clear hcz74_0
                     try clear hcz74_1
                     try clear hcz74_2
                     try clear hcz74_3
                     try clear hcz74_4
                     try clear hcz77_0
                     try clear hcz77_1
                     try clear hcz77_2
                     try clear hcz85_0
                     try clear hcz85_1
                     try clear hcz85_2
                     try clear hcz87_0
                     try clear hcz87_1
                     try clear hcz87_2
                     try clear hcz87_3
                     try clear hcz87_4
                     try clear hcz95_0
                     try clear hcz95_1
                     try clear hcz95_2
                     try clear hcz95_3
                     try clear hcz95_4
                     try clear hcz97_0
                     try clear hcz97_1
                     try clear hcz97_2
                     try clear hfz101_0
                     try clear hfz101_1
                     try clear hfz101_2
                     try clear hfz101_3
                     try clear hfz101_4
                     try clear hfz104_0
                     try clear hfz104_1
                     try clear hfz104_2
                     try clear hfz104_3
                     try clear hfz104_4
                     try clear hfz11_0
                     try clear hfz11_1
                     try clear hfz11_2
                     try clear hfz14_0
                     try clear hfz14_1
                     try clear hfz14_2
                     try clear hfz17_0
                     try clear hfz17_1
                     try clear hfz17_2
                     try clear hfz18_0
                     try clear hfz18_1
                     try clear hfz18_2
                     try clear hfz18_3
                     try clear hfz18_4
                     try clear hfz20_0
                     try clear hfz20_1
                     try clear hfz20_2
                     try clear hfz21_0
                     try clear hfz21_1
                     try clear hfz21_2
                     try clear hfz21_3
                     try clear hfz21_4
                     try clear hfz28_0
                     try clear hfz28_1
                     try clear hfz28_2
                     try clear hfz32_0
                     try clear hfz32_1
                     try clear hfz32_2
                     try clear hfz34_0
                     try clear hfz34_1
                     try clear hfz34_2
                     try clear hfz35_0
                     try clear hfz35_1
                     try clear hfz35_2
                     try clear hfz35_3
                     try clear hfz35_4
                     try clear hfz37_0
                     try clear hfz37_1
                     try clear hfz37_2
                     try clear hfz38_0
                     try clear hfz38_1
                     try clear hfz38_2
                     try clear hfz38_3
                     try clear hfz38_4
                     try clear hfz45_0
                     try clear hfz45_1
                     try clear hfz45_2
                     try clear hfz45_3
                     try clear hfz45_4
                     try clear hfz48_0
                     try clear hfz48_1
                     try clear hfz48_2
                     try clear hfz48_3
                     try clear hfz48_4
                     try clear hfz55_0
                     try clear hfz55_1
                     try clear hfz55_2
                     try clear hfz68_0
                     try clear hfz68_1
                     try clear hfz68_2
                     try clear hfz70_0
                     try clear hfz70_1
                     try clear hfz70_2
                     try clear hfz70_3
                     try clear hfz70_4
                     try clear hfz73_0
                     try clear hfz73_1
                     try clear hfz73_2
                     try clear hfz74_0
                     try clear hfz74_1
                     try clear hfz74_2
                     try clear hfz74_3
                     try clear hfz74_4
                     try clear hfz77_0
                     try clear hfz77_1
                     try clear hfz77_2
                     try clear hfz85_0
                     try clear hfz85_1
                     try clear hfz85_2
                     try clear hfz87_0
                     try clear hfz87_1
                     try clear hfz87_2
                     try clear hfz87_3
                     try clear hfz87_4
                     try clear hfz95_0
                     try clear hfz95_1
                     try clear hfz95_2
                     try clear hfz95_3
                     try clear hfz95_4
                     try clear hfz97_0
                     try clear hfz97_1
                     try clear hfz97_2
                     try clear p2
                     try clear p6
                     try clear p64
                     try clear q3
                     try clear q34
                     try clear q345
                     obtain ⟨kq, x158_88, rfl, HA, HJ88, HO_16, BK329, BK330, BK332, HB⟩ := hcut
                     cases kq with
                     | zero => exact absurd HA.out (by simp [pledgelaw21_CertSays.j7])
                     | succ kj88 =>
                      have H := HA.out; clear HA; simp only [pledgelaw21_CertSays.j7] at H; by_cases c105 : x158_88 = true
                      ·
                       subst c105; have H1 : (if 0 ≤ x19_7 then (if x19_7 < (l1_0.length : Int) then (if (rd l1_0 x19_7) < 1 then (pledgelaw21_CertSays.l0 kj88 x16_7 t349 x18_7 (wrap64 (x19_7 + 1)) l1_0 a1_1 a1_2 a1_3 a1_4 l0_0 l0_1 a0_2) else ((pledgeref_Ints.f kj88 l1_0).bind fun t352 => (if x19_7 < (t352.length : Int) then ((pledgeref18_Fits.f kj88 l0_0 l0_1 a0_2 (t352.set (x19_7 : Int).toNat (wrap64 ((rd t352 x19_7) - 1)))).bind fun t357 => (if t357 = true then (pledgelaw21_CertSays.l0 kj88 x16_7 t349 x19_7 (wrap64 (x19_7 + 1)) l1_0 a1_1 a1_2 a1_3 a1_4 l0_0 l0_1 a0_2) else (pledgelaw21_CertSays.l0 kj88 x16_7 t349 x18_7 (wrap64 (x19_7 + 1)) l1_0 a1_1 a1_2 a1_3 a1_4 l0_0 l0_1 a0_2))) else (none)))) else (none)) else (none)) = some r := by rw [if_pos rfl] at H; exact H
                       clear H; have H := H1; clear H1; by_cases c106 : 0 ≤ x19_7
                       ·
                        rw [if_pos c106] at H; have c106b0 : decide (0 ≤ x19_7) = true := decide_eq_true c106; clear c106; by_cases c107 : x19_7 < (l1_0.length : Int)
                        ·
                         rw [if_pos c107] at H; have c107b0 : decide (x19_7 < (l1_0.length : Int)) = true := decide_eq_true c107; clear c107; by_cases c108 : (rd l1_0 x19_7) < 1
                         ·
                          rw [if_pos c108] at H; have c108b0 : decide ((rd l1_0 x19_7) < 1) = true := decide_eq_true c108; clear c108; have H' := Aside0.mk H; clear H; have hnb109 := NB330_329.out; have hnc109 := NB329_330.out; have hnb110 := NB330_332.out; have hnc110 := NB332_330.out; have hcz111_0 : wc.cell? ⟨gb330, 0, none⟩ = some (.slice A1_0 l1_0.length c1_0) := (blk_cell BK330.out 0).trans rfl; have hcz111_1 : wc.cell? ⟨gb330, 1, none⟩ = some (.int .i64 a1_1) := (blk_cell BK330.out 1).trans rfl; have hcz111_2 : wc.cell? ⟨gb330, 2, none⟩ = some (.int .i64 a1_2) := (blk_cell BK330.out 2).trans rfl; have hcz111_3 : wc.cell? ⟨gb330, 3, none⟩ = some (.bool a1_3) := (blk_cell BK330.out 3).trans rfl; have hcz111_4 : wc.cell? ⟨gb330, 4, none⟩ = some (.int .i64 a1_4) := (blk_cell BK330.out 4).trans rfl; have hfz111_0 := blk_frozen BK330.out 0; have hfz111_1 := blk_frozen BK330.out 1; have hfz111_2 := blk_frozen BK330.out 2; have hfz111_3 := blk_frozen BK330.out 3; have hfz111_4 := blk_frozen BK330.out 4; have p351 : 0 ≤ (x19_7 : Int) := of_decide_eq_true zA; have q351 : x19_7 < (l1_0.length : Int) := of_decide_eq_true zA; obtain ⟨ad351, e351, hx351_0⟩ := Kd.at_int HR1_0.out x19_7 p351 q351
                          cases e351
                          replace hx351_0 := (HB.out.cell (World.block_lt_of_cell? w _ hx351_0)).trans hx351_0; replace p351 := eq_true p351; replace q351 := eq_true q351
                          go_wp2
                          go_roundg kj88
                          case measure => have := HJ4.out; have := HJ25.out; have := HJ48.out; have := HJ50.out; have := HJ55.out; have := HJ64.out; have := HK7.out; have := HJ88.out; omega
                          case rel => exact ⟨(x16_7), (x18_7), (wrap64 (x19_7 + 1)), (by first | rfl | (simp; done) | (simp [*]; done)), (by first | rfl | (simp; done) | (simp [*]; done)), H', ⟨by have := HJ4.out; have := HJ25.out; have := HJ48.out; have := HJ50.out; have := HJ55.out; have := HJ64.out; have := HK7.out; have := HJ88.out; omega⟩, ⟨by (with_reducible repeat (first | apply Kd.R_alloc | apply Kd.R_drewN | apply Kd.R_drew)); exact HO_16.out⟩, ⟨zB BK329.out⟩, ⟨zB BK330.out⟩, ⟨zB BK332.out⟩, ⟨zH3 HB.out GE329.out GE330.out GE332.out⟩⟩
                         ·
                          rw [if_neg c108] at H; have c108b0 : decide ((rd l1_0 x19_7) < 1) = false := decide_eq_false c108; clear c108; replace H := Option.bind_eq_some_iff.mp H; obtain ⟨t352, A1120, H⟩ := H; replace H : (if x19_7 < (t352.length : Int) then ((pledgeref18_Fits.f kj88 l0_0 l0_1 a0_2 (t352.set (x19_7 : Int).toNat (wrap64 ((rd t352 x19_7) - 1)))).bind fun t357 => (if t357 = true then (pledgelaw21_CertSays.l0 kj88 x16_7 t349 x19_7 (wrap64 (x19_7 + 1)) l1_0 a1_1 a1_2 a1_3 a1_4 l0_0 l0_1 a0_2) else (pledgelaw21_CertSays.l0 kj88 x16_7 t349 x18_7 (wrap64 (x19_7 + 1)) l1_0 a1_1 a1_2 a1_3 a1_4 l0_0 l0_1 a0_2))) else (none)) = some r := H; have A112 := Aside0.mk A1120; clear A1120; by_cases c113 : x19_7 < (t352.length : Int)
                          ·
                           rw [if_pos c113] at H; have c113b0 : decide (x19_7 < (t352.length : Int)) = true := decide_eq_true c113; clear c113; obtain ⟨y356, hy356⟩ : ∃ y_ : List Int, y_ = (t352.set (x19_7 : Int).toNat (wrap64 ((rd t352 x19_7) - 1))) := ⟨_, rfl⟩; replace H : ((pledgeref18_Fits.f kj88 l0_0 l0_1 a0_2 y356).bind fun t357 => (if t357 = true then (pledgelaw21_CertSays.l0 kj88 x16_7 t349 x19_7 (wrap64 (x19_7 + 1)) l1_0 a1_1 a1_2 a1_3 a1_4 l0_0 l0_1 a0_2) else (pledgelaw21_CertSays.l0 kj88 x16_7 t349 x18_7 (wrap64 (x19_7 + 1)) l1_0 a1_1 a1_2 a1_3 a1_4 l0_0 l0_1 a0_2))) = some r := by first | (rw [hy356]; with_reducible exact H) | (have H2_ := (Option.bind_some _ _).symm.trans H; rw [hy356]; with_reducible exact H2_) | (have H2_ := (Option.bind_some _ _).symm.trans H; with_reducible exact H2_) | with_reducible exact H | (rw [hy356]; exact H) | exact H
                           have Ny356 := Aside0.mk hy356; clear hy356; replace H := Option.bind_eq_some_iff.mp H; obtain ⟨t357, A1150, H⟩ := H; replace H : (if t357 = true then (pledgelaw21_CertSays.l0 kj88 x16_7 t349 x19_7 (wrap64 (x19_7 + 1)) l1_0 a1_1 a1_2 a1_3 a1_4 l0_0 l0_1 a0_2) else (pledgelaw21_CertSays.l0 kj88 x16_7 t349 x18_7 (wrap64 (x19_7 + 1)) l1_0 a1_1 a1_2 a1_3 a1_4 l0_0 l0_1 a0_2)) = some r := H; have A115 := Aside0.mk A1150; clear A1150; by_cases c116 : t357 = true
                           ·
                            subst c116; have H1 : (pledgelaw21_CertSays.l0 kj88 x16_7 t349 x19_7 (wrap64 (x19_7 + 1)) l1_0 a1_1 a1_2 a1_3 a1_4 l0_0 l0_1 a0_2) = some r := by rw [if_pos rfl] at H; exact H
                            clear H; have H := H1; clear H1; have H' := Aside0.mk H; clear H; have hnb117 := NB330_329.out; have hnc117 := NB329_330.out; have hnb118 := NB330_332.out; have hnc118 := NB332_330.out; have hcz119_0 : wc.cell? ⟨gb330, 0, none⟩ = some (.slice A1_0 l1_0.length c1_0) := (blk_cell BK330.out 0).trans rfl; have hcz119_1 : wc.cell? ⟨gb330, 1, none⟩ = some (.int .i64 a1_1) := (blk_cell BK330.out 1).trans rfl; have hcz119_2 : wc.cell? ⟨gb330, 2, none⟩ = some (.int .i64 a1_2) := (blk_cell BK330.out 2).trans rfl; have hcz119_3 : wc.cell? ⟨gb330, 3, none⟩ = some (.bool a1_3) := (blk_cell BK330.out 3).trans rfl; have hcz119_4 : wc.cell? ⟨gb330, 4, none⟩ = some (.int .i64 a1_4) := (blk_cell BK330.out 4).trans rfl; have hfz119_0 := blk_frozen BK330.out 0; have hfz119_1 := blk_frozen BK330.out 1; have hfz119_2 := blk_frozen BK330.out 2; have hfz119_3 := blk_frozen BK330.out 3; have hfz119_4 := blk_frozen BK330.out 4; have p351 : 0 ≤ (x19_7 : Int) := of_decide_eq_true zA; have q351 : x19_7 < (l1_0.length : Int) := of_decide_eq_true zA; obtain ⟨ad351, e351, hx351_0⟩ := Kd.at_int HR1_0.out x19_7 p351 q351
                            cases e351
                            replace hx351_0 := (HB.out.cell (World.block_lt_of_cell? w _ hx351_0)).trans hx351_0; replace p351 := eq_true p351; replace q351 := eq_true q351
                            go_wp2_with (first | ((with_reducible refine gate_callee (f := 15) rfl ?_); refine goesL_ (some 169) rfl rfl Tryd.func15 (by kernel_rfl) rfl #[.slice (some ad351) l1_0.length c1_0] rfl zM ?_; (with_reducible refine (pledgeref_Ints.calls kj88 _ _ l1_0 t352 _ ?side1 ?side2 A112.out).mono ?_); (case side1 => exact zC HR1_0.out HB.out); (case side2 => exact HC1_0.out); rintro e w120 ⟨v353, rfl, ho0, hb⟩; refine ⟨_, rfl, ?_⟩; have n0_ := Aside0.mk (Kd.R_elder' (zR HO_16.out) (Kd.R_base ho0) hb); have n1_ := Aside0.mk (Kd.R_lower (Kd.R_new' ho0 (Kd.R_lt (zR HO_16.out))) (below_size (zH3 HB.out GE329.out GE330.out GE332.out))); have n2_ := zBB BK329 hb; have n3_ := zBB BK330 hb; have n4_ := zBB BK332 hb; have n5_ := Aside0.mk (below_step (zH3 HB.out GE329.out GE330.out GE332.out) hb); clear HO_16; clear BK329; clear BK330; clear BK332; clear HB; have HO_16 := n0_; have HO354 := n1_; have BK329 := n2_; have BK330 := n3_; have BK332 := n4_; have HB := n5_; clear n0_ n1_ n2_ n3_ n4_ n5_; (try clear hb); (try clear hb2); (try clear hk); (try clear hi); (try clear ho0); obtain ⟨Ao121, co121, eo121⟩ := Kd.R_slice HO354.out; subst eo121; have p355 : 0 ≤ (x19_7 : Int) := of_decide_eq_true zA; have q355 : x19_7 < (t352.length : Int) := of_decide_eq_true zA; obtain ⟨ad355, e355, hx355_0⟩ := Kd.at_int (Kd.R_reads' HO354.out).2.2 x19_7 p355 q355; cases e355; replace p355 := eq_true p355; replace q355 := eq_true q355; have p114 : 0 ≤ (x19_7 : Int) := of_decide_eq_true zA; have q114 : (x19_7 : Int) < ((t352.length : Int) : Int) := of_decide_eq_true zA; obtain ⟨go114, co114, eo114, gb114, gl114, cl114, HG114⟩ := Kd.R_form HO354.out (by omega); (first | cases eo114 | (injection eo114 with ea_ en_ ec_; (first | subst ea_ | (injection ea_ with ea_; subst ea_)); subst ec_; clear en_)); have GB114 := Aside0.mk gb114; have GG114 := Aside0.mk HG114; clear gb114 gl114 HG114; (first | simp only [add_plain] at hx355_0 | skip); obtain ⟨hx114_0, hf114_0⟩ := Kd.R_celln 0 HO354.out (x19_7 : Int) p114 q114; replace p114 := eq_true p114; replace q114 := eq_true q114; have n_ := Aside0.mk (Kd.R_mono (ok' := (fun k_ => some k_ ≠ (v347 : Value).ownBlock)) HO354.out (fun k_ hk => hk.2)); clear HO354; have HO354 := n_; clear n_; obtain ⟨hy122_, hz122_⟩ := Kd.R_celln 0 HO354.out (x19_7 : Int) (of_decide_eq_true zA) (of_decide_eq_true zA); have HP122 := Kd.R_putg HO354.out (x19_7 : Int) (wrap64 ((rd t352 x19_7) - 1))) | ((with_reducible refine gate_store (t := 3) (p := 175) rfl ?_); refine store_event (t := 3) (p := 175) (v := ?vo_w123) (w1 := (w120.setCell ⟨go114, (x19_7 : Int).toNat, none⟩ (.int .i64 (wrap64 ((rd t352 x19_7) - 1))))) ?hg ?ho ?hn ?hr ?_; (case ho => rfl); (case hg => rfl); (case hn => rfl); (case hr => first | (go_simp; done) | (go_simp; rfl)); intro w123 hw; have hg : w120.grownBy w123 (some go114) := (by rw [hw]; exact HP122.2); have hp_ : Kd.R (Kd.int .i64) 3 w123 w.heap.size (fun k_ => some k_ ≠ (v347 : Value).ownBlock) (.slice (some ⟨go114, 0, none⟩) t352.length co121) y356 := (by rw [hw, Ny356.out]; exact HP122.1); clear HP122; have n0_ := Aside0.mk (Kd.R_after (v := (.slice (some ⟨go114, 0, none⟩) t352.length co121)) (v1 := (.slice (some ⟨go114, 0, none⟩) t352.length co121)) (ok := (fun _ => True)) (zR HO_16.out) hg (.inl rfl)); have n1_ := Aside0.mk (blk_grown (g := gb329) (o := .cells #[.slice A0_0 l0_0.length c0_0, .slice A0_1 l0_1.length c0_1, .int .i64 a0_2] 25 (0, 0)) (zB BK329.out) hg (Kd.R_ne HO354.out BK329.out (by decide))); have n2_ := Aside0.mk (blk_grown (g := gb330) (o := .cells #[.slice (some ad351) l1_0.length c1_0, .int .i64 a1_1, .int .i64 a1_2, .bool a1_3, .int .i64 a1_4] 28 (0, 0)) (zB BK330.out) hg (Kd.R_ne HO354.out BK330.out (by decide))); have n3_ := Aside0.mk (blk_grown (g := gb332) (o := .cells #[.slice A0_0 l0_0.length c0_0, .slice A0_1 l0_1.length c0_1, .int .i64 a0_2] 30 (0, 0)) (zB BK332.out) hg (Kd.R_ne HO354.out BK332.out (by decide))); have n4_ := Aside0.mk (hp_); have n5_ := Aside0.mk ((by rw [hw]; exact below_set (HB.out) GB114.out : Below w.heap.size w w123)); clear HO_16; clear BK329; clear BK330; clear BK332; clear HO354; clear HB; have HO_16 := n0_; have BK329 := n1_; have BK330 := n2_; have BK332 := n3_; have HO354 := n4_; have HB := n5_; clear n0_ n1_ n2_ n3_ n4_ n5_; clear hg hw hp_; have hnb124 := NB332_329.out; have hnc124 := NB329_332.out; have hcz125_0 : w123.cell? ⟨gb332, 0, none⟩ = some (.slice A0_0 l0_0.length c0_0) := (blk_cell BK332.out 0).trans rfl; have hcz125_1 : w123.cell? ⟨gb332, 1, none⟩ = some (.slice A0_1 l0_1.length c0_1) := (blk_cell BK332.out 1).trans rfl; have hcz125_2 : w123.cell? ⟨gb332, 2, none⟩ = some (.int .i64 a0_2) := (blk_cell BK332.out 2).trans rfl; have hfz125_0 := blk_frozen BK332.out 0; have hfz125_1 := blk_frozen BK332.out 1; have hfz125_2 := blk_frozen BK332.out 2) | ((with_reducible refine gate_callee (f := 14) rfl ?_); refine goesL_ (some 178) rfl rfl Tryd.func14 (by kernel_rfl) rfl #[.agg #[.slice A0_0 l0_0.length c0_0, .slice A0_1 l0_1.length c0_1, .int .i64 a0_2], .slice (some ⟨go114, 0, none⟩) y356.length co121] rfl (by (try simp only [List.map_toArray, List.map_cons, List.map_nil]); first | done | (rw [show y356.length = t352.length from (Kd.R_reads' HO354.out).1.symm] <;> rfl) | rfl | (simp only [List.length_drop, List.length_take]; rfl)) ?_; (with_reducible refine (pledgeref18_Fits.calls kj88 _ _ l0_0 _ _ l0_1 a0_2 _ _ y356 true _ ?side1 ?side2 ?side3 ?side4 ?side5 ?side6 A115.out).mono ?_); (case side1 => exact zC HR0_0.out HB.out); (case side2 => exact HC0_0.out); (case side3 => exact zC HR0_1.out HB.out); (case side4 => exact HC0_1.out); (case side5 => repeat (first | exact (Kd.R_reads' HO354.out).2.2 | (with_reducible refine Kd.C_alloc ?_ _) | (with_reducible refine Kd.C_drewN ?_ _) | (with_reducible refine Kd.C_drew ?_))); (case side6 => rw [show y356.length = t352.length from (Kd.R_reads' HO354.out).1.symm]; exact (Kd.R_reads' HO354.out).2.1); rintro e w126 ⟨rfl, hb⟩; refine ⟨_, rfl, ?_⟩; have n0_ := Aside0.mk (Kd.R_below (zR HO_16.out) hb); have n1_ := Aside0.mk (Kd.R_below (zR HO354.out) hb); have n2_ := zBB BK329 hb; have n3_ := zBB BK330 hb; have n4_ := zBB BK332 hb; have n5_ := Aside0.mk (below_step (zH3 HB.out GE329.out GE330.out GE332.out) hb); clear HO_16; clear HO354; clear BK329; clear BK330; clear BK332; clear HB; have HO_16 := n0_; have HO354 := n1_; have BK329 := n2_; have BK330 := n3_; have BK332 := n4_; have HB := n5_; clear n0_ n1_ n2_ n3_ n4_ n5_; (try clear hb); (try clear hb2); (try clear hk); (try clear hi)))
                            go_roundg kj88
                            case measure => have := HJ4.out; have := HJ25.out; have := HJ48.out; have := HJ50.out; have := HJ55.out; have := HJ64.out; have := HK7.out; have := HJ88.out; omega
                            case rel => exact ⟨(x16_7), (x19_7), (wrap64 (x19_7 + 1)), (by first | rfl | (simp; done) | (simp [*]; done)), (by first | rfl | (simp; done) | (simp [*]; done)), H', ⟨by have := HJ4.out; have := HJ25.out; have := HJ48.out; have := HJ50.out; have := HJ55.out; have := HJ64.out; have := HK7.out; have := HJ88.out; omega⟩, ⟨by (with_reducible repeat (first | apply Kd.R_alloc | apply Kd.R_drewN | apply Kd.R_drew)); exact Kd.R_mono HO_16.out (fun _ hk => trivial)⟩, ⟨zB BK329.out⟩, ⟨zB BK330.out⟩, ⟨zB BK332.out⟩, ⟨zH3 HB.out GE329.out GE330.out GE332.out⟩⟩
                           ·
                            replace c116 := Bool.eq_false_iff.mpr c116; subst c116; have H1 : (pledgelaw21_CertSays.l0 kj88 x16_7 t349 x18_7 (wrap64 (x19_7 + 1)) l1_0 a1_1 a1_2 a1_3 a1_4 l0_0 l0_1 a0_2) = some r := by rw [if_neg (show ¬ (false = true) by decide)] at H; exact H
                            clear H; have H := H1; clear H1; have H' := Aside0.mk H; clear H; have hnb127 := NB330_329.out; have hnc127 := NB329_330.out; have hnb128 := NB330_332.out; have hnc128 := NB332_330.out; have hcz129_0 : wc.cell? ⟨gb330, 0, none⟩ = some (.slice A1_0 l1_0.length c1_0) := (blk_cell BK330.out 0).trans rfl; have hcz129_1 : wc.cell? ⟨gb330, 1, none⟩ = some (.int .i64 a1_1) := (blk_cell BK330.out 1).trans rfl; have hcz129_2 : wc.cell? ⟨gb330, 2, none⟩ = some (.int .i64 a1_2) := (blk_cell BK330.out 2).trans rfl; have hcz129_3 : wc.cell? ⟨gb330, 3, none⟩ = some (.bool a1_3) := (blk_cell BK330.out 3).trans rfl; have hcz129_4 : wc.cell? ⟨gb330, 4, none⟩ = some (.int .i64 a1_4) := (blk_cell BK330.out 4).trans rfl; have hfz129_0 := blk_frozen BK330.out 0; have hfz129_1 := blk_frozen BK330.out 1; have hfz129_2 := blk_frozen BK330.out 2; have hfz129_3 := blk_frozen BK330.out 3; have hfz129_4 := blk_frozen BK330.out 4; have p351 : 0 ≤ (x19_7 : Int) := of_decide_eq_true zA; have q351 : x19_7 < (l1_0.length : Int) := of_decide_eq_true zA; obtain ⟨ad351, e351, hx351_0⟩ := Kd.at_int HR1_0.out x19_7 p351 q351
                            cases e351
                            replace hx351_0 := (HB.out.cell (World.block_lt_of_cell? w _ hx351_0)).trans hx351_0; replace p351 := eq_true p351; replace q351 := eq_true q351
                            go_wp2_with (first | ((with_reducible refine gate_callee (f := 15) rfl ?_); refine goesL_ (some 169) rfl rfl Tryd.func15 (by kernel_rfl) rfl #[.slice (some ad351) l1_0.length c1_0] rfl zM ?_; (with_reducible refine (pledgeref_Ints.calls kj88 _ _ l1_0 t352 _ ?side1 ?side2 A112.out).mono ?_); (case side1 => exact zC HR1_0.out HB.out); (case side2 => exact HC1_0.out); rintro e w130 ⟨v353, rfl, ho0, hb⟩; refine ⟨_, rfl, ?_⟩; have n0_ := Aside0.mk (Kd.R_elder' (zR HO_16.out) (Kd.R_base ho0) hb); have n1_ := Aside0.mk (Kd.R_lower (Kd.R_new' ho0 (Kd.R_lt (zR HO_16.out))) (below_size (zH3 HB.out GE329.out GE330.out GE332.out))); have n2_ := zBB BK329 hb; have n3_ := zBB BK330 hb; have n4_ := zBB BK332 hb; have n5_ := Aside0.mk (below_step (zH3 HB.out GE329.out GE330.out GE332.out) hb); clear HO_16; clear BK329; clear BK330; clear BK332; clear HB; have HO_16 := n0_; have HO354 := n1_; have BK329 := n2_; have BK330 := n3_; have BK332 := n4_; have HB := n5_; clear n0_ n1_ n2_ n3_ n4_ n5_; (try clear hb); (try clear hb2); (try clear hk); (try clear hi); (try clear ho0); obtain ⟨Ao131, co131, eo131⟩ := Kd.R_slice HO354.out; subst eo131; have p355 : 0 ≤ (x19_7 : Int) := of_decide_eq_true zA; have q355 : x19_7 < (t352.length : Int) := of_decide_eq_true zA; obtain ⟨ad355, e355, hx355_0⟩ := Kd.at_int (Kd.R_reads' HO354.out).2.2 x19_7 p355 q355; cases e355; replace p355 := eq_true p355; replace q355 := eq_true q355; have p114 : 0 ≤ (x19_7 : Int) := of_decide_eq_true zA; have q114 : (x19_7 : Int) < ((t352.length : Int) : Int) := of_decide_eq_true zA; obtain ⟨go114, co114, eo114, gb114, gl114, cl114, HG114⟩ := Kd.R_form HO354.out (by omega); (first | cases eo114 | (injection eo114 with ea_ en_ ec_; (first | subst ea_ | (injection ea_ with ea_; subst ea_)); subst ec_; clear en_)); have GB114 := Aside0.mk gb114; have GG114 := Aside0.mk HG114; clear gb114 gl114 HG114; (first | simp only [add_plain] at hx355_0 | skip); obtain ⟨hx114_0, hf114_0⟩ := Kd.R_celln 0 HO354.out (x19_7 : Int) p114 q114; replace p114 := eq_true p114; replace q114 := eq_true q114; have n_ := Aside0.mk (Kd.R_mono (ok' := (fun k_ => some k_ ≠ (v347 : Value).ownBlock)) HO354.out (fun k_ hk => hk.2)); clear HO354; have HO354 := n_; clear n_; obtain ⟨hy132_, hz132_⟩ := Kd.R_celln 0 HO354.out (x19_7 : Int) (of_decide_eq_true zA) (of_decide_eq_true zA); have HP132 := Kd.R_putg HO354.out (x19_7 : Int) (wrap64 ((rd t352 x19_7) - 1))) | ((with_reducible refine gate_store (t := 3) (p := 175) rfl ?_); refine store_event (t := 3) (p := 175) (v := ?vo_w133) (w1 := (w130.setCell ⟨go114, (x19_7 : Int).toNat, none⟩ (.int .i64 (wrap64 ((rd t352 x19_7) - 1))))) ?hg ?ho ?hn ?hr ?_; (case ho => rfl); (case hg => rfl); (case hn => rfl); (case hr => first | (go_simp; done) | (go_simp; rfl)); intro w133 hw; have hg : w130.grownBy w133 (some go114) := (by rw [hw]; exact HP132.2); have hp_ : Kd.R (Kd.int .i64) 3 w133 w.heap.size (fun k_ => some k_ ≠ (v347 : Value).ownBlock) (.slice (some ⟨go114, 0, none⟩) t352.length co131) y356 := (by rw [hw, Ny356.out]; exact HP132.1); clear HP132; have n0_ := Aside0.mk (Kd.R_after (v := (.slice (some ⟨go114, 0, none⟩) t352.length co131)) (v1 := (.slice (some ⟨go114, 0, none⟩) t352.length co131)) (ok := (fun _ => True)) (zR HO_16.out) hg (.inl rfl)); have n1_ := Aside0.mk (blk_grown (g := gb329) (o := .cells #[.slice A0_0 l0_0.length c0_0, .slice A0_1 l0_1.length c0_1, .int .i64 a0_2] 25 (0, 0)) (zB BK329.out) hg (Kd.R_ne HO354.out BK329.out (by decide))); have n2_ := Aside0.mk (blk_grown (g := gb330) (o := .cells #[.slice (some ad351) l1_0.length c1_0, .int .i64 a1_1, .int .i64 a1_2, .bool a1_3, .int .i64 a1_4] 28 (0, 0)) (zB BK330.out) hg (Kd.R_ne HO354.out BK330.out (by decide))); have n3_ := Aside0.mk (blk_grown (g := gb332) (o := .cells #[.slice A0_0 l0_0.length c0_0, .slice A0_1 l0_1.length c0_1, .int .i64 a0_2] 30 (0, 0)) (zB BK332.out) hg (Kd.R_ne HO354.out BK332.out (by decide))); have n4_ := Aside0.mk (hp_); have n5_ := Aside0.mk ((by rw [hw]; exact below_set (HB.out) GB114.out : Below w.heap.size w w133)); clear HO_16; clear BK329; clear BK330; clear BK332; clear HO354; clear HB; have HO_16 := n0_; have BK329 := n1_; have BK330 := n2_; have BK332 := n3_; have HO354 := n4_; have HB := n5_; clear n0_ n1_ n2_ n3_ n4_ n5_; clear hg hw hp_; have hnb134 := NB332_329.out; have hnc134 := NB329_332.out; have hcz135_0 : w133.cell? ⟨gb332, 0, none⟩ = some (.slice A0_0 l0_0.length c0_0) := (blk_cell BK332.out 0).trans rfl; have hcz135_1 : w133.cell? ⟨gb332, 1, none⟩ = some (.slice A0_1 l0_1.length c0_1) := (blk_cell BK332.out 1).trans rfl; have hcz135_2 : w133.cell? ⟨gb332, 2, none⟩ = some (.int .i64 a0_2) := (blk_cell BK332.out 2).trans rfl; have hfz135_0 := blk_frozen BK332.out 0; have hfz135_1 := blk_frozen BK332.out 1; have hfz135_2 := blk_frozen BK332.out 2) | ((with_reducible refine gate_callee (f := 14) rfl ?_); refine goesL_ (some 178) rfl rfl Tryd.func14 (by kernel_rfl) rfl #[.agg #[.slice A0_0 l0_0.length c0_0, .slice A0_1 l0_1.length c0_1, .int .i64 a0_2], .slice (some ⟨go114, 0, none⟩) y356.length co131] rfl (by (try simp only [List.map_toArray, List.map_cons, List.map_nil]); first | done | (rw [show y356.length = t352.length from (Kd.R_reads' HO354.out).1.symm] <;> rfl) | rfl | (simp only [List.length_drop, List.length_take]; rfl)) ?_; (with_reducible refine (pledgeref18_Fits.calls kj88 _ _ l0_0 _ _ l0_1 a0_2 _ _ y356 false _ ?side1 ?side2 ?side3 ?side4 ?side5 ?side6 A115.out).mono ?_); (case side1 => exact zC HR0_0.out HB.out); (case side2 => exact HC0_0.out); (case side3 => exact zC HR0_1.out HB.out); (case side4 => exact HC0_1.out); (case side5 => repeat (first | exact (Kd.R_reads' HO354.out).2.2 | (with_reducible refine Kd.C_alloc ?_ _) | (with_reducible refine Kd.C_drewN ?_ _) | (with_reducible refine Kd.C_drew ?_))); (case side6 => rw [show y356.length = t352.length from (Kd.R_reads' HO354.out).1.symm]; exact (Kd.R_reads' HO354.out).2.1); rintro e w136 ⟨rfl, hb⟩; refine ⟨_, rfl, ?_⟩; have n0_ := Aside0.mk (Kd.R_below (zR HO_16.out) hb); have n1_ := Aside0.mk (Kd.R_below (zR HO354.out) hb); have n2_ := zBB BK329 hb; have n3_ := zBB BK330 hb; have n4_ := zBB BK332 hb; have n5_ := Aside0.mk (below_step (zH3 HB.out GE329.out GE330.out GE332.out) hb); clear HO_16; clear HO354; clear BK329; clear BK330; clear BK332; clear HB; have HO_16 := n0_; have HO354 := n1_; have BK329 := n2_; have BK330 := n3_; have BK332 := n4_; have HB := n5_; clear n0_ n1_ n2_ n3_ n4_ n5_; (try clear hb); (try clear hb2); (try clear hk); (try clear hi)))
                            go_roundg kj88
                            case measure => have := HJ4.out; have := HJ25.out; have := HJ48.out; have := HJ50.out; have := HJ55.out; have := HJ64.out; have := HK7.out; have := HJ88.out; omega
                            case rel => exact ⟨(x16_7), (x18_7), (wrap64 (x19_7 + 1)), (by first | rfl | (simp; done) | (simp [*]; done)), (by first | rfl | (simp; done) | (simp [*]; done)), H', ⟨by have := HJ4.out; have := HJ25.out; have := HJ48.out; have := HJ50.out; have := HJ55.out; have := HJ64.out; have := HK7.out; have := HJ88.out; omega⟩, ⟨by (with_reducible repeat (first | apply Kd.R_alloc | apply Kd.R_drewN | apply Kd.R_drew)); exact Kd.R_mono HO_16.out (fun _ hk => trivial)⟩, ⟨zB BK329.out⟩, ⟨zB BK330.out⟩, ⟨zB BK332.out⟩, ⟨zH3 HB.out GE329.out GE330.out GE332.out⟩⟩
                          ·
                           rw [if_neg c113] at H; exact absurd H (by simp)
                        ·
                         rw [if_neg c107] at H; exact absurd H (by simp)
                       ·
                        rw [if_neg c106] at H; exact absurd H (by simp)
                      ·
                       replace c105 := Bool.eq_false_iff.mpr c105; subst c105; have H1 : (if (t349 != (decide (x18_7 ≥ 0))) = true then (some false) else (pledgelaw21_CertSays.l1 kj88 x16_7 t349 x18_7 0 l1_0 a1_1 a1_2 a1_3 a1_4)) = some r := by rw [if_neg (show ¬ (false = true) by decide)] at H; exact H
                       clear H; have H := H1; clear H1; by_cases c137 : (t349 != (decide (x18_7 ≥ 0))) = true
                       ·
                        rw [if_pos c137] at H; have c137b0 : (t349 != (decide (x18_7 ≥ 0))) = true := c137; (try (have c137b1 : decide (t349 = (decide (x18_7 ≥ 0))) = false := by simpa using c137)); (try (have c137b2 : (t349 == (decide (x18_7 ≥ 0))) = false := by simpa using c137)); (try (have c137b3 : ¬ (t349 = (decide (x18_7 ≥ 0))) := by simpa using c137)); clear c137; obtain rfl := Option.some.inj H
                        go_wp2
                        go_ret
                        exact ⟨zE, zH3 HB.out GE329.out GE330.out GE332.out⟩
                       ·
                        rw [if_neg c137] at H; have c137b0 : (t349 != (decide (x18_7 ≥ 0))) = false := by simpa using c137
                        (try (have c137b1 : decide (t349 = (decide (x18_7 ≥ 0))) = true := by simpa using c137)); (try (have c137b2 : (t349 == (decide (x18_7 ≥ 0))) = true := by simpa using c137)); clear c137; have H' := Aside0.mk H; clear H
                        go_wp2
                        go_loopg [21] kj88 (fun kq v21 w' => ∃ (x21_9 : Int), v21 = .int .i64 x21_9 ∧ Aside0 (pledgelaw21_CertSays.l1 kq x16_7 t349 x18_7 x21_9 l1_0 a1_1 a1_2 a1_3 a1_4 = some r) ∧ Aside0 (kq ≤ kj88) ∧ Aside0 (Kd.R (Kd.int .i64) 3 w' w.heap.size (fun _ => True) v347 x16_7) ∧ Aside0 (w'.heap[gb329]? = some (.cells #[(.slice A0_0 l0_0.length c0_0), (.slice A0_1 l0_1.length c0_1), .int .i64 a0_2] 25 (0, 0))) ∧ Aside0 (w'.heap[gb330]? = some (.cells #[(.slice A1_0 l1_0.length c1_0), .int .i64 a1_1, .int .i64 a1_2, .bool a1_3, .int .i64 a1_4] 28 (0, 0))) ∧ Aside0 (w'.heap[gb332]? = some (.cells #[(.slice A0_0 l0_0.length c0_0), (.slice A0_1 l0_1.length c0_1), .int .i64 a0_2] 30 (0, 0))) ∧ Aside0 (Below w.heap.size w w'))
                        case atStart => exact ⟨(0), (by first | rfl | (simp; done) | (simp [*]; done)), H', ⟨Nat.le_refl _⟩, ⟨by (with_reducible repeat (first | apply Kd.R_alloc | apply Kd.R_drewN | apply Kd.R_drew)); exact HO_16.out⟩, ⟨zB BK329.out⟩, ⟨zB BK330.out⟩, ⟨zB BK332.out⟩, ⟨zH3 HB.out GE329.out GE330.out GE332.out⟩⟩
                        case round => as_aux_lemma =>
                         clear H'
                         try clear c1
                         try clear p1
                         try clear q1
                         try clear hx1
                         try clear c2
                         try clear p2
                         try clear c3
                         try clear p3
                         try clear q3
                         try clear hx3
                         try clear c4
                         try clear c5
                         try clear c6
                         try clear p6
                         try clear c7
                         try clear c8
                         try clear c9
                         try clear c9b0
                         try clear c9b1
                         try clear c10
                         try clear c11
                         try clear p11
                         try clear q11
                         try clear hx11
                         try clear hf11
                         try clear c12
                         try clear c12b0
                         try clear c12b1
                         try clear c13
                         try clear c14
                         try clear c15
                         try clear c15b0
                         try clear c15b1
                         try clear c16
                         try clear c19
                         try clear c22
                         try clear c27
                         try clear c30
                         try clear c31
                         try clear q34
                         try clear p35
                         try clear q35
                         try clear hx35
                         try clear c40
                         try clear c40b0
                         try clear c40b1
                         try clear c41
                         try clear c42
                         try clear c42b0
                         try clear c42b1
                         try clear c43
                         try clear c44
                         try clear c46
                         try clear c47
                         try clear c50
                         try clear c52
                         try clear c52b0
                         try clear c52b1
                         try clear c53
                         try clear c54
                         try clear c57
                         try clear c60
                         try clear c63
                         try clear p64
                         try clear c66
                         try clear c67
                         try clear c69
                         try clear c80
                         try clear c80b0
                         try clear c80b1
                         try clear c81
                         try clear c83
                         try clear c84
                         try clear c86
                         try clear c90
                         try clear c90b0
                         try clear c91
                         try clear c91b0
                         try clear c93
                         try clear c94
                         try clear c96
                         try clear c99
                         try clear c100
                         try clear c102
                         try clear c103
                         try clear c105
                         try clear c106
                         try clear c106b0
                         try clear c107
                         try clear c107b0
                         try clear c108
                         try clear c108b0
                         try clear c109
                         try clear c110
                         try clear c113
                         try clear c113b0
                         try clear p114
                         try clear q114
                         try clear hx114
                         try clear hf114
                         try clear c116
                         try clear c117
                         try clear c118
                         try clear c124
                         try clear c127
                         try clear c128
                         try clear c134
                         try clear c137
                         try clear c137b0
                         try clear c137b1
                         try clear c137b2
                         try clear hcz101_0
                         try clear hcz101_1
                         try clear hcz101_2
                         try clear hcz101_3
                         try clear hcz101_4
                         try clear hcz104_0
                         try clear hcz104_1
                         try clear hcz104_2
                         try clear hcz104_3
                         try clear hcz104_4
                         try clear hcz111_0
                         try clear hcz111_1
                         try clear hcz111_2
                         try clear hcz111_3
                         try clear hcz111_4
                         try clear hcz119_0
                         try clear hcz119_1
                         try clear hcz119_2
                         try clear hcz119_3
                         try clear hcz119_4
                         try clear hcz11_0
                         try clear hcz11_1
                         try clear hcz11_2
                         try clear hcz125_0
                         try clear hcz125_1
                         try clear hcz125_2
                         try clear hcz129_0
                         try clear hcz129_1
                         try clear hcz129_2
                         try clear hcz129_3
                         try clear hcz129_4
                         try clear hcz135_0
                         try clear hcz135_1
                         try clear hcz135_2
                         try clear hcz14_0
                         try clear hcz14_1
                         try clear hcz14_2
                         try clear hcz17_0
                         try clear hcz17_1
                         try clear hcz17_2
                         try clear hcz18_0
                         try clear hcz18_1
                         try clear hcz18_2
                         try clear hcz18_3
                         try clear hcz18_4
                         try clear hcz20_0
                         try clear hcz20_1
                         try clear hcz20_2
                         try clear hcz21_0
                         try clear hcz21_1
                         try clear hcz21_2
                         try clear hcz21_3
                         try clear hcz21_4
                         try clear hcz28_0
                         try clear hcz28_1
                         try clear hcz28_2
                         try clear hcz32_0
                         try clear hcz32_1
                         try clear hcz32_2
                         try clear hcz34_0
                         try clear hcz34_1
                         try clear hcz34_2
                         try clear hcz35_0
                         try clear hcz35_1
                         try clear hcz35_2
                         try clear hcz35_3
                         try clear hcz35_4
                         try clear hcz37_0
                         try clear hcz37_1
                         try clear hcz37_2
                         try clear hcz38_0
                         try clear hcz38_1
                         try clear hcz38_2
                         try clear hcz38_3
                         try clear hcz38_4
                         try clear hcz45_0
                         try clear hcz45_1
                         try clear hcz45_2
                         try clear hcz45_3
                         try clear hcz45_4
                         try clear hcz48_0
                         try clear hcz48_1
                         try clear hcz48_2
                         try clear hcz48_3
                         try clear hcz48_4
                         try clear hcz55_0
                         try clear hcz55_1
                         try clear hcz55_2
                         try clear hcz68_0
                         try clear hcz68_1
                         try clear hcz68_2
                         try clear hcz70_0
                         try clear hcz70_1
                         try clear hcz70_2
                         try clear hcz70_3
                         try clear hcz70_4
                         try clear hcz73_0
                         try clear hcz73_1
                         try clear hcz73_2
                         try clear hcz74_0
                         try clear hcz74_1
                         try clear hcz74_2
                         try clear hcz74_3
                         try clear hcz74_4
                         try clear hcz77_0
                         try clear hcz77_1
                         try clear hcz77_2
                         try clear hcz85_0
                         try clear hcz85_1
                         try clear hcz85_2
                         try clear hcz87_0
                         try clear hcz87_1
                         try clear hcz87_2
                         try clear hcz87_3
                         try clear hcz87_4
                         try clear hcz95_0
                         try clear hcz95_1
                         try clear hcz95_2
                         try clear hcz95_3
                         try clear hcz95_4
                         try clear hcz97_0
                         try clear hcz97_1
                         try clear hcz97_2
                         try clear hfz101_0
                         try clear hfz101_1
                         try clear hfz101_2
                         try clear hfz101_3
                         try clear hfz101_4
                         try clear hfz104_0
                         try clear hfz104_1
                         try clear hfz104_2
                         try clear hfz104_3
                         try clear hfz104_4
                         try clear hfz111_0
                         try clear hfz111_1
                         try clear hfz111_2
                         try clear hfz111_3
                         try clear hfz111_4
                         try clear hfz119_0
                         try clear hfz119_1
                         try clear hfz119_2
                         try clear hfz119_3
                         try clear hfz119_4
                         try clear hfz11_0
                         try clear hfz11_1
                         try clear hfz11_2
                         try clear hfz125_0
                         try clear hfz125_1
                         try clear hfz125_2
                         try clear hfz129_0
                         try clear hfz129_1
                         try clear hfz129_2
                         try clear hfz129_3
                         try clear hfz129_4
                         try clear hfz135_0
                         try clear hfz135_1
                         try clear hfz135_2
                         try clear hfz14_0
                         try clear hfz14_1
                         try clear hfz14_2
                         try clear hfz17_0
                         try clear hfz17_1
                         try clear hfz17_2
                         try clear hfz18_0
                         try clear hfz18_1
                         try clear hfz18_2
                         try clear hfz18_3
                         try clear hfz18_4
                         try clear hfz20_0
                         try clear hfz20_1
                         try clear hfz20_2
                         try clear hfz21_0
                         try clear hfz21_1
                         try clear hfz21_2
                         try clear hfz21_3
                         try clear hfz21_4
                         try clear hfz28_0
                         try clear hfz28_1
                         try clear hfz28_2
                         try clear hfz32_0
                         try clear hfz32_1
                         try clear hfz32_2
                         try clear hfz34_0
                         try clear hfz34_1
                         try clear hfz34_2
                         try clear hfz35_0
                         try clear hfz35_1
                         try clear hfz35_2
                         try clear hfz35_3
                         try clear hfz35_4
                         try clear hfz37_0
                         try clear hfz37_1
                         try clear hfz37_2
                         try clear hfz38_0
                         try clear hfz38_1
                         try clear hfz38_2
                         try clear hfz38_3
                         try clear hfz38_4
                         try clear hfz45_0
                         try clear hfz45_1
                         try clear hfz45_2
                         try clear hfz45_3
                         try clear hfz45_4
                         try clear hfz48_0
                         try clear hfz48_1
                         try clear hfz48_2
                         try clear hfz48_3
                         try clear hfz48_4
                         try clear hfz55_0
                         try clear hfz55_1
                         try clear hfz55_2
                         try clear hfz68_0
                         try clear hfz68_1
                         try clear hfz68_2
                         try clear hfz70_0
                         try clear hfz70_1
                         try clear hfz70_2
                         try clear hfz70_3
                         try clear hfz70_4
                         try clear hfz73_0
                         try clear hfz73_1
                         try clear hfz73_2
                         try clear hfz74_0
                         try clear hfz74_1
                         try clear hfz74_2
                         try clear hfz74_3
                         try clear hfz74_4
                         try clear hfz77_0
                         try clear hfz77_1
                         try clear hfz77_2
                         try clear hfz85_0
                         try clear hfz85_1
                         try clear hfz85_2
                         try clear hfz87_0
                         try clear hfz87_1
                         try clear hfz87_2
                         try clear hfz87_3
                         try clear hfz87_4
                         try clear hfz95_0
                         try clear hfz95_1
                         try clear hfz95_2
                         try clear hfz95_3
                         try clear hfz95_4
                         try clear hfz97_0
                         try clear hfz97_1
                         try clear hfz97_2
                         try clear hx114_0
                         try clear hx351_0
                         try clear hx355_0
                         try clear p114
                         try clear p2
                         try clear p351
                         try clear p355
                         try clear p6
                         try clear p64
                         try clear q114
                         try clear q3
                         try clear q34
                         try clear q345
                         try clear q351
                         try clear q355
                         obtain ⟨x21_9, rfl, HA, HK9, HO_16, BK329, BK330, BK332, HB⟩ := hrel
                         cases gk with
                         | zero => exact absurd HA.out (by simp [pledgelaw21_CertSays.l1])
                         | succ k9 =>
                          have H := HA.out; clear HA; simp only [pledgelaw21_CertSays.l1] at H; by_cases c138 : x21_9 < (x16_7.length : Int)
                          ·
                           rw [if_pos c138] at H; have c138b0 : decide (x21_9 < (x16_7.length : Int)) = true := decide_eq_true c138; clear c138; by_cases c139 : 0 ≤ x21_9
                           ·
                            rw [if_pos c139] at H; have c139b0 : decide (0 ≤ x21_9) = true := decide_eq_true c139; clear c139; by_cases c140 : x21_9 < (l1_0.length : Int)
                            ·
                             rw [if_pos c140] at H; have c140b0 : decide (x21_9 < (l1_0.length : Int)) = true := decide_eq_true c140; clear c140; by_cases c141 : x21_9 = x18_7
                             ·
                              rw [if_pos c141] at H; have c141b0 : (x21_9 == x18_7) = true := beq_iff_eq.mpr c141; have c141b1 : (x21_9 != x18_7) = false := bne_eq_false_iff_eq.mpr c141; clear c141; by_cases c142 : (rd x16_7 x21_9) = (wrap64 ((rd l1_0 x21_9) - 1))
                              ·
                               rw [if_pos c142] at H; have c142b0 : ((rd x16_7 x21_9) == (wrap64 ((rd l1_0 x21_9) - 1))) = true := beq_iff_eq.mpr c142; have c142b1 : ((rd x16_7 x21_9) != (wrap64 ((rd l1_0 x21_9) - 1))) = false := bne_eq_false_iff_eq.mpr c142; clear c142; have H' := Aside0.mk H; clear H; obtain ⟨Ao143, co143, eo143⟩ := Kd.R_slice HO_16.out; subst eo143; have hnb144 := NB330_329.out; have hnc144 := NB329_330.out; have hnb145 := NB330_332.out; have hnc145 := NB332_330.out; have hcz146_0 : wr.cell? ⟨gb330, 0, none⟩ = some (.slice A1_0 l1_0.length c1_0) := (blk_cell BK330.out 0).trans rfl; have hcz146_1 : wr.cell? ⟨gb330, 1, none⟩ = some (.int .i64 a1_1) := (blk_cell BK330.out 1).trans rfl; have hcz146_2 : wr.cell? ⟨gb330, 2, none⟩ = some (.int .i64 a1_2) := (blk_cell BK330.out 2).trans rfl; have hcz146_3 : wr.cell? ⟨gb330, 3, none⟩ = some (.bool a1_3) := (blk_cell BK330.out 3).trans rfl; have hcz146_4 : wr.cell? ⟨gb330, 4, none⟩ = some (.int .i64 a1_4) := (blk_cell BK330.out 4).trans rfl; have hfz146_0 := blk_frozen BK330.out 0; have hfz146_1 := blk_frozen BK330.out 1; have hfz146_2 := blk_frozen BK330.out 2; have hfz146_3 := blk_frozen BK330.out 3; have hfz146_4 := blk_frozen BK330.out 4; have p358 : 0 ≤ (x21_9 : Int) := of_decide_eq_true zA; have q358 : x21_9 < (l1_0.length : Int) := of_decide_eq_true zA; obtain ⟨ad358, e358, hx358_0⟩ := Kd.at_int HR1_0.out x21_9 p358 q358
                               cases e358
                               replace hx358_0 := (HB.out.cell (World.block_lt_of_cell? w _ hx358_0)).trans hx358_0; replace p358 := eq_true p358; replace q358 := eq_true q358; have p359 : 0 ≤ (x21_9 : Int) := of_decide_eq_true zA; have q359 : x21_9 < (x16_7.length : Int) := of_decide_eq_true zA; obtain ⟨ad359, e359, hx359_0⟩ := Kd.at_int (Kd.R_reads' HO_16.out).2.2 x21_9 p359 q359
                               cases e359
                               replace p359 := eq_true p359; replace q359 := eq_true q359
                               go_wp2
                               go_roundg k9
                               case measure => have := HJ4.out; have := HJ25.out; have := HJ48.out; have := HJ50.out; have := HJ55.out; have := HJ64.out; have := HK7.out; have := HJ88.out; have := HK9.out; omega
                               case rel => exact ⟨(wrap64 (x21_9 + 1)), (by first | rfl | (simp; done) | (simp [*]; done)), H', ⟨by have := HJ4.out; have := HJ25.out; have := HJ48.out; have := HJ50.out; have := HJ55.out; have := HJ64.out; have := HK7.out; have := HJ88.out; have := HK9.out; omega⟩, ⟨by (with_reducible repeat (first | apply Kd.R_alloc | apply Kd.R_drewN | apply Kd.R_drew)); exact HO_16.out⟩, ⟨zB BK329.out⟩, ⟨zB BK330.out⟩, ⟨zB BK332.out⟩, ⟨zH3 HB.out GE329.out GE330.out GE332.out⟩⟩
                              ·
                               rw [if_neg c142] at H; have c142b0 : ((rd x16_7 x21_9) == (wrap64 ((rd l1_0 x21_9) - 1))) = false := beq_eq_false_iff_ne.mpr c142; have c142b1 : ((rd x16_7 x21_9) != (wrap64 ((rd l1_0 x21_9) - 1))) = true := bne_iff_ne.mpr c142; obtain rfl := Option.some.inj H; obtain ⟨Ao147, co147, eo147⟩ := Kd.R_slice HO_16.out; subst eo147; have hnb148 := NB330_329.out; have hnc148 := NB329_330.out; have hnb149 := NB330_332.out; have hnc149 := NB332_330.out; have hcz150_0 : wr.cell? ⟨gb330, 0, none⟩ = some (.slice A1_0 l1_0.length c1_0) := (blk_cell BK330.out 0).trans rfl; have hcz150_1 : wr.cell? ⟨gb330, 1, none⟩ = some (.int .i64 a1_1) := (blk_cell BK330.out 1).trans rfl; have hcz150_2 : wr.cell? ⟨gb330, 2, none⟩ = some (.int .i64 a1_2) := (blk_cell BK330.out 2).trans rfl; have hcz150_3 : wr.cell? ⟨gb330, 3, none⟩ = some (.bool a1_3) := (blk_cell BK330.out 3).trans rfl; have hcz150_4 : wr.cell? ⟨gb330, 4, none⟩ = some (.int .i64 a1_4) := (blk_cell BK330.out 4).trans rfl; have hfz150_0 := blk_frozen BK330.out 0; have hfz150_1 := blk_frozen BK330.out 1; have hfz150_2 := blk_frozen BK330.out 2; have hfz150_3 := blk_frozen BK330.out 3; have hfz150_4 := blk_frozen BK330.out 4; have p358 : 0 ≤ (x21_9 : Int) := of_decide_eq_true zA; have q358 : x21_9 < (l1_0.length : Int) := of_decide_eq_true zA; obtain ⟨ad358, e358, hx358_0⟩ := Kd.at_int HR1_0.out x21_9 p358 q358
                               cases e358
                               replace hx358_0 := (HB.out.cell (World.block_lt_of_cell? w _ hx358_0)).trans hx358_0; replace p358 := eq_true p358; replace q358 := eq_true q358; have p359 : 0 ≤ (x21_9 : Int) := of_decide_eq_true zA; have q359 : x21_9 < (x16_7.length : Int) := of_decide_eq_true zA; obtain ⟨ad359, e359, hx359_0⟩ := Kd.at_int (Kd.R_reads' HO_16.out).2.2 x21_9 p359 q359
                               cases e359
                               replace p359 := eq_true p359; replace q359 := eq_true q359
                               go_wp2
                               go_ret
                               exact ⟨zE, zH3 HB.out GE329.out GE330.out GE332.out⟩
                             ·
                              rw [if_neg c141] at H; have c141b0 : (x21_9 == x18_7) = false := beq_eq_false_iff_ne.mpr c141; have c141b1 : (x21_9 != x18_7) = true := bne_iff_ne.mpr c141; by_cases c151 : (rd x16_7 x21_9) = (rd l1_0 x21_9)
                              ·
                               rw [if_pos c151] at H; have c151b0 : ((rd x16_7 x21_9) == (rd l1_0 x21_9)) = true := beq_iff_eq.mpr c151; have c151b1 : ((rd x16_7 x21_9) != (rd l1_0 x21_9)) = false := bne_eq_false_iff_eq.mpr c151; clear c151; have H' := Aside0.mk H; clear H; obtain ⟨Ao152, co152, eo152⟩ := Kd.R_slice HO_16.out; subst eo152; have hnb153 := NB330_329.out; have hnc153 := NB329_330.out; have hnb154 := NB330_332.out; have hnc154 := NB332_330.out; have hcz155_0 : wr.cell? ⟨gb330, 0, none⟩ = some (.slice A1_0 l1_0.length c1_0) := (blk_cell BK330.out 0).trans rfl; have hcz155_1 : wr.cell? ⟨gb330, 1, none⟩ = some (.int .i64 a1_1) := (blk_cell BK330.out 1).trans rfl; have hcz155_2 : wr.cell? ⟨gb330, 2, none⟩ = some (.int .i64 a1_2) := (blk_cell BK330.out 2).trans rfl; have hcz155_3 : wr.cell? ⟨gb330, 3, none⟩ = some (.bool a1_3) := (blk_cell BK330.out 3).trans rfl; have hcz155_4 : wr.cell? ⟨gb330, 4, none⟩ = some (.int .i64 a1_4) := (blk_cell BK330.out 4).trans rfl; have hfz155_0 := blk_frozen BK330.out 0; have hfz155_1 := blk_frozen BK330.out 1; have hfz155_2 := blk_frozen BK330.out 2; have hfz155_3 := blk_frozen BK330.out 3; have hfz155_4 := blk_frozen BK330.out 4; have p358 : 0 ≤ (x21_9 : Int) := of_decide_eq_true zA; have q358 : x21_9 < (l1_0.length : Int) := of_decide_eq_true zA; obtain ⟨ad358, e358, hx358_0⟩ := Kd.at_int HR1_0.out x21_9 p358 q358
                               cases e358
                               replace hx358_0 := (HB.out.cell (World.block_lt_of_cell? w _ hx358_0)).trans hx358_0; replace p358 := eq_true p358; replace q358 := eq_true q358; have p360 : 0 ≤ (x21_9 : Int) := of_decide_eq_true zA; have q360 : x21_9 < (x16_7.length : Int) := of_decide_eq_true zA; obtain ⟨ad360, e360, hx360_0⟩ := Kd.at_int (Kd.R_reads' HO_16.out).2.2 x21_9 p360 q360
                               cases e360
                               replace p360 := eq_true p360; replace q360 := eq_true q360
                               go_wp2
                               go_roundg k9
                               case measure => have := HJ4.out; have := HJ25.out; have := HJ48.out; have := HJ50.out; have := HJ55.out; have := HJ64.out; have := HK7.out; have := HJ88.out; have := HK9.out; omega
                               case rel => exact ⟨(wrap64 (x21_9 + 1)), (by first | rfl | (simp; done) | (simp [*]; done)), H', ⟨by have := HJ4.out; have := HJ25.out; have := HJ48.out; have := HJ50.out; have := HJ55.out; have := HJ64.out; have := HK7.out; have := HJ88.out; have := HK9.out; omega⟩, ⟨by (with_reducible repeat (first | apply Kd.R_alloc | apply Kd.R_drewN | apply Kd.R_drew)); exact HO_16.out⟩, ⟨zB BK329.out⟩, ⟨zB BK330.out⟩, ⟨zB BK332.out⟩, ⟨zH3 HB.out GE329.out GE330.out GE332.out⟩⟩
                              ·
                               rw [if_neg c151] at H; have c151b0 : ((rd x16_7 x21_9) == (rd l1_0 x21_9)) = false := beq_eq_false_iff_ne.mpr c151; have c151b1 : ((rd x16_7 x21_9) != (rd l1_0 x21_9)) = true := bne_iff_ne.mpr c151; obtain rfl := Option.some.inj H; obtain ⟨Ao156, co156, eo156⟩ := Kd.R_slice HO_16.out; subst eo156; have hnb157 := NB330_329.out; have hnc157 := NB329_330.out; have hnb158 := NB330_332.out; have hnc158 := NB332_330.out; have hcz159_0 : wr.cell? ⟨gb330, 0, none⟩ = some (.slice A1_0 l1_0.length c1_0) := (blk_cell BK330.out 0).trans rfl; have hcz159_1 : wr.cell? ⟨gb330, 1, none⟩ = some (.int .i64 a1_1) := (blk_cell BK330.out 1).trans rfl; have hcz159_2 : wr.cell? ⟨gb330, 2, none⟩ = some (.int .i64 a1_2) := (blk_cell BK330.out 2).trans rfl; have hcz159_3 : wr.cell? ⟨gb330, 3, none⟩ = some (.bool a1_3) := (blk_cell BK330.out 3).trans rfl; have hcz159_4 : wr.cell? ⟨gb330, 4, none⟩ = some (.int .i64 a1_4) := (blk_cell BK330.out 4).trans rfl; have hfz159_0 := blk_frozen BK330.out 0; have hfz159_1 := blk_frozen BK330.out 1; have hfz159_2 := blk_frozen BK330.out 2; have hfz159_3 := blk_frozen BK330.out 3; have hfz159_4 := blk_frozen BK330.out 4; have p358 : 0 ≤ (x21_9 : Int) := of_decide_eq_true zA; have q358 : x21_9 < (l1_0.length : Int) := of_decide_eq_true zA; obtain ⟨ad358, e358, hx358_0⟩ := Kd.at_int HR1_0.out x21_9 p358 q358
                               cases e358
                               replace hx358_0 := (HB.out.cell (World.block_lt_of_cell? w _ hx358_0)).trans hx358_0; replace p358 := eq_true p358; replace q358 := eq_true q358; have p360 : 0 ≤ (x21_9 : Int) := of_decide_eq_true zA; have q360 : x21_9 < (x16_7.length : Int) := of_decide_eq_true zA; obtain ⟨ad360, e360, hx360_0⟩ := Kd.at_int (Kd.R_reads' HO_16.out).2.2 x21_9 p360 q360
                               cases e360
                               replace p360 := eq_true p360; replace q360 := eq_true q360
                               go_wp2
                               go_ret
                               exact ⟨zE, zH3 HB.out GE329.out GE330.out GE332.out⟩
                            ·
                             rw [if_neg c140] at H; exact absurd H (by simp)
                           ·
                            rw [if_neg c139] at H; exact absurd H (by simp)
                          ·
                           rw [if_neg c138] at H; have c138b0 : decide (x21_9 < (x16_7.length : Int)) = false := decide_eq_false c138; clear c138; by_cases c160 : t349 = true
                           ·
                            subst c160; have H1 : (some ((x16_7.length : Int) == (l1_0.length : Int))) = some r := by rw [if_pos rfl] at H; exact H
                            clear H; have H := H1; clear H1; obtain rfl := Option.some.inj H; obtain ⟨Ao161, co161, eo161⟩ := Kd.R_slice HO_16.out; subst eo161; have hnb162 := NB330_329.out; have hnc162 := NB329_330.out; have hnb163 := NB330_332.out; have hnc163 := NB332_330.out; have hcz164_0 : wr.cell? ⟨gb330, 0, none⟩ = some (.slice A1_0 l1_0.length c1_0) := (blk_cell BK330.out 0).trans rfl; have hcz164_1 : wr.cell? ⟨gb330, 1, none⟩ = some (.int .i64 a1_1) := (blk_cell BK330.out 1).trans rfl; have hcz164_2 : wr.cell? ⟨gb330, 2, none⟩ = some (.int .i64 a1_2) := (blk_cell BK330.out 2).trans rfl; have hcz164_3 : wr.cell? ⟨gb330, 3, none⟩ = some (.bool a1_3) := (blk_cell BK330.out 3).trans rfl; have hcz164_4 : wr.cell? ⟨gb330, 4, none⟩ = some (.int .i64 a1_4) := (blk_cell BK330.out 4).trans rfl; have hfz164_0 := blk_frozen BK330.out 0; have hfz164_1 := blk_frozen BK330.out 1; have hfz164_2 := blk_frozen BK330.out 2; have hfz164_3 := blk_frozen BK330.out 3; have hfz164_4 := blk_frozen BK330.out 4
                            go_wp2
                            go_ret
                            exact ⟨zE, zH3 HB.out GE329.out GE330.out GE332.out⟩
                           ·
                            replace c160 := Bool.eq_false_iff.mpr c160; subst c160; have H1 : (some true) = some r := by rw [if_neg (show ¬ (false = true) by decide)] at H; exact H
                            clear H; have H := H1; clear H1; obtain rfl := Option.some.inj H; obtain ⟨Ao165, co165, eo165⟩ := Kd.R_slice HO_16.out; subst eo165
                            go_wp2
                            go_ret
                            exact ⟨zE, zH3 HB.out GE329.out GE330.out GE332.out⟩
              ·
               replace c63 := Bool.eq_false_iff.mpr c63; subst c63; have H1 : (some false) = some r := by rw [if_neg (show ¬ (false = true) by decide)] at H; exact H
               clear H; have H := H1; clear H1; obtain rfl := Option.some.inj H; have hnb166 := NB329_330.out; have hnc166 := NB330_329.out; have hnb167 := NB329_332.out; have hnc167 := NB332_329.out; have hcz168_0 : wc.cell? ⟨gb329, 0, none⟩ = some (.slice A0_0 l0_0.length c0_0) := (blk_cell BK329.out 0).trans rfl; have hcz168_1 : wc.cell? ⟨gb329, 1, none⟩ = some (.slice A0_1 l0_1.length c0_1) := (blk_cell BK329.out 1).trans rfl; have hcz168_2 : wc.cell? ⟨gb329, 2, none⟩ = some (.int .i64 a0_2) := (blk_cell BK329.out 2).trans rfl; have hfz168_0 := blk_frozen BK329.out 0; have hfz168_1 := blk_frozen BK329.out 1; have hfz168_2 := blk_frozen BK329.out 2; have hnb169 := NB330_332.out; have hnc169 := NB332_330.out; have hcz170_0 : wc.cell? ⟨gb330, 0, none⟩ = some (.slice A1_0 l1_0.length c1_0) := (blk_cell BK330.out 0).trans rfl; have hcz170_1 : wc.cell? ⟨gb330, 1, none⟩ = some (.int .i64 a1_1) := (blk_cell BK330.out 1).trans rfl; have hcz170_2 : wc.cell? ⟨gb330, 2, none⟩ = some (.int .i64 a1_2) := (blk_cell BK330.out 2).trans rfl; have hcz170_3 : wc.cell? ⟨gb330, 3, none⟩ = some (.bool a1_3) := (blk_cell BK330.out 3).trans rfl; have hcz170_4 : wc.cell? ⟨gb330, 4, none⟩ = some (.int .i64 a1_4) := (blk_cell BK330.out 4).trans rfl; have hfz170_0 := blk_frozen BK330.out 0; have hfz170_1 := blk_frozen BK330.out 1; have hfz170_2 := blk_frozen BK330.out 2; have hfz170_3 := blk_frozen BK330.out 3; have hfz170_4 := blk_frozen BK330.out 4
               go_wp2_with (first | ((with_reducible refine gate_callee (f := 10) rfl ?_); refine goesL_ (some 98) rfl rfl Tryd.func10 (by kernel_rfl) rfl #[.agg #[.slice A0_0 l0_0.length c0_0, .slice A0_1 l0_1.length c0_1, .int .i64 a0_2], .agg #[.slice A1_0 l1_0.length c1_0, .int .i64 a1_1, .int .i64 a1_2, .bool a1_3, .int .i64 a1_4]] rfl zM ?_; (with_reducible refine (cert_Check.calls kj55 _ _ l0_0 _ _ l0_1 a0_2 _ _ l1_0 a1_1 a1_2 a1_3 a1_4 t338 _ ?side1 ?side2 ?side3 ?side4 ?side5 ?side6 ?side7 A58.out).mono ?_); (case side1 => exact GlobOK.below HG.out (zH3 HB.out GE329.out GE330.out GE332.out)); (case side2 => exact zC HR0_0.out HB.out); (case side3 => exact HC0_0.out); (case side4 => exact zC HR0_1.out HB.out); (case side5 => exact HC0_1.out); (case side6 => exact zC HR1_0.out HB.out); (case side7 => exact HC1_0.out); rintro e w171 ⟨rfl, hb⟩; refine ⟨_, rfl, ?_⟩; have n0_ := zBB BK329 hb; have n1_ := zBB BK330 hb; have n2_ := zBB BK332 hb; have n3_ := Aside0.mk (below_step (zH3 HB.out GE329.out GE330.out GE332.out) hb); clear BK329; clear BK330; clear BK332; clear HB; have BK329 := n0_; have BK330 := n1_; have BK332 := n2_; have HB := n3_; clear n0_ n1_ n2_ n3_; (try clear hb); (try clear hb2); (try clear hk); (try clear hi); (try simp only [errW_none, errW_some]); have CA59 := fun W hG_ => pledgesee_Is.calls t338 x7_55 true W hG_ A59.out; try simp only [errW_none, errW_some] at CA59) | (go_at_call 9; (with_reducible refine (CA59 _ ?side1).mono ?_); (case side1 => exact GlobOK.below HG.out (zH3 HB.out GE329.out GE330.out GE332.out)); rintro e w172 ⟨rfl, hb⟩; have n0_ := zBB BK329 hb; have n1_ := zBB BK330 hb; have n2_ := zBB BK332 hb; have n3_ := Aside0.mk (below_step (zH3 HB.out GE329.out GE330.out GE332.out) hb); clear BK329; clear BK330; clear BK332; clear HB; have BK329 := n0_; have BK330 := n1_; have BK332 := n2_; have HB := n3_; clear n0_ n1_ n2_ n3_; (try clear hb); (try clear hb2); (try clear hk); (try clear hi); have hcz173_0 : w172.cell? ⟨gb329, 0, none⟩ = some (.slice A0_0 l0_0.length c0_0) := (blk_cell BK329.out 0).trans rfl; have hcz173_1 : w172.cell? ⟨gb329, 1, none⟩ = some (.slice A0_1 l0_1.length c0_1) := (blk_cell BK329.out 1).trans rfl; have hcz173_2 : w172.cell? ⟨gb329, 2, none⟩ = some (.int .i64 a0_2) := (blk_cell BK329.out 2).trans rfl; have hfz173_0 := blk_frozen BK329.out 0; have hfz173_1 := blk_frozen BK329.out 1; have hfz173_2 := blk_frozen BK329.out 2; have hcz174_0 : w172.cell? ⟨gb330, 0, none⟩ = some (.slice A1_0 l1_0.length c1_0) := (blk_cell BK330.out 0).trans rfl; have hcz174_1 : w172.cell? ⟨gb330, 1, none⟩ = some (.int .i64 a1_1) := (blk_cell BK330.out 1).trans rfl; have hcz174_2 : w172.cell? ⟨gb330, 2, none⟩ = some (.int .i64 a1_2) := (blk_cell BK330.out 2).trans rfl; have hcz174_3 : w172.cell? ⟨gb330, 3, none⟩ = some (.bool a1_3) := (blk_cell BK330.out 3).trans rfl; have hcz174_4 : w172.cell? ⟨gb330, 4, none⟩ = some (.int .i64 a1_4) := (blk_cell BK330.out 4).trans rfl; have hfz174_0 := blk_frozen BK330.out 0; have hfz174_1 := blk_frozen BK330.out 1; have hfz174_2 := blk_frozen BK330.out 2; have hfz174_3 := blk_frozen BK330.out 3; have hfz174_4 := blk_frozen BK330.out 4) | ((with_reducible refine gate_callee (f := 11) rfl ?_); refine goesL_ (some 105) rfl rfl Tryd.func11 (by kernel_rfl) rfl #[.agg #[.slice A0_0 l0_0.length c0_0, .slice A0_1 l0_1.length c0_1, .int .i64 a0_2], .agg #[.slice A1_0 l1_0.length c1_0, .int .i64 a1_1, .int .i64 a1_2, .bool a1_3, .int .i64 a1_4]] rfl zM ?_; (with_reducible refine (cert_Gap.calls kj55 _ _ l0_0 _ _ l0_1 a0_2 _ _ l1_0 a1_1 a1_2 a1_3 a1_4 t340 t341 _ ?side1 ?side2 ?side3 ?side4 ?side5 ?side6 ?side7 A61.out).mono ?_); (case side1 => exact GlobOK.below HG.out (zH3 HB.out GE329.out GE330.out GE332.out)); (case side2 => exact zC HR0_0.out HB.out); (case side3 => exact HC0_0.out); (case side4 => exact zC HR0_1.out HB.out); (case side5 => exact HC0_1.out); (case side6 => exact zC HR1_0.out HB.out); (case side7 => exact HC1_0.out); rintro e w175 ⟨rfl, hb⟩; refine ⟨_, rfl, ?_⟩; have n0_ := zBB BK329 hb; have n1_ := zBB BK330 hb; have n2_ := zBB BK332 hb; have n3_ := Aside0.mk (below_step (zH3 HB.out GE329.out GE330.out GE332.out) hb); clear BK329; clear BK330; clear BK332; clear HB; have BK329 := n0_; have BK330 := n1_; have BK332 := n2_; have HB := n3_; clear n0_ n1_ n2_ n3_; (try clear hb); (try clear hb2); (try clear hk); (try clear hi); (try simp only [errW_none, errW_some]); have CA62 := fun W hG_ => pledgesee_Is.calls t341 x7_55 false W hG_ A62.out; try simp only [errW_none, errW_some] at CA62) | (go_at_call 9; (with_reducible refine (CA62 _ ?side1).mono ?_); (case side1 => exact GlobOK.below HG.out (zH3 HB.out GE329.out GE330.out GE332.out)); rintro e w176 ⟨rfl, hb⟩; have n0_ := zBB BK329 hb; have n1_ := zBB BK330 hb; have n2_ := zBB BK332 hb; have n3_ := Aside0.mk (below_step (zH3 HB.out GE329.out GE330.out GE332.out) hb); clear BK329; clear BK330; clear BK332; clear HB; have BK329 := n0_; have BK330 := n1_; have BK332 := n2_; have HB := n3_; clear n0_ n1_ n2_ n3_; (try clear hb); (try clear hb2); (try clear hk); (try clear hi)))
               go_ret
               exact ⟨zE, zH3 HB.out GE329.out GE330.out GE332.out⟩
             ·
              replace c60 := Bool.eq_false_iff.mpr c60; subst c60; have H1 : (some false) = some r := by rw [if_neg (show ¬ (false = true) by decide)] at H; exact H
              clear H; have H := H1; clear H1; obtain rfl := Option.some.inj H; have hnb177 := NB329_330.out; have hnc177 := NB330_329.out; have hnb178 := NB329_332.out; have hnc178 := NB332_329.out; have hcz179_0 : wc.cell? ⟨gb329, 0, none⟩ = some (.slice A0_0 l0_0.length c0_0) := (blk_cell BK329.out 0).trans rfl; have hcz179_1 : wc.cell? ⟨gb329, 1, none⟩ = some (.slice A0_1 l0_1.length c0_1) := (blk_cell BK329.out 1).trans rfl; have hcz179_2 : wc.cell? ⟨gb329, 2, none⟩ = some (.int .i64 a0_2) := (blk_cell BK329.out 2).trans rfl; have hfz179_0 := blk_frozen BK329.out 0; have hfz179_1 := blk_frozen BK329.out 1; have hfz179_2 := blk_frozen BK329.out 2; have hnb180 := NB330_332.out; have hnc180 := NB332_330.out; have hcz181_0 : wc.cell? ⟨gb330, 0, none⟩ = some (.slice A1_0 l1_0.length c1_0) := (blk_cell BK330.out 0).trans rfl; have hcz181_1 : wc.cell? ⟨gb330, 1, none⟩ = some (.int .i64 a1_1) := (blk_cell BK330.out 1).trans rfl; have hcz181_2 : wc.cell? ⟨gb330, 2, none⟩ = some (.int .i64 a1_2) := (blk_cell BK330.out 2).trans rfl; have hcz181_3 : wc.cell? ⟨gb330, 3, none⟩ = some (.bool a1_3) := (blk_cell BK330.out 3).trans rfl; have hcz181_4 : wc.cell? ⟨gb330, 4, none⟩ = some (.int .i64 a1_4) := (blk_cell BK330.out 4).trans rfl; have hfz181_0 := blk_frozen BK330.out 0; have hfz181_1 := blk_frozen BK330.out 1; have hfz181_2 := blk_frozen BK330.out 2; have hfz181_3 := blk_frozen BK330.out 3; have hfz181_4 := blk_frozen BK330.out 4
              go_wp2_with (first | ((with_reducible refine gate_callee (f := 10) rfl ?_); refine goesL_ (some 98) rfl rfl Tryd.func10 (by kernel_rfl) rfl #[.agg #[.slice A0_0 l0_0.length c0_0, .slice A0_1 l0_1.length c0_1, .int .i64 a0_2], .agg #[.slice A1_0 l1_0.length c1_0, .int .i64 a1_1, .int .i64 a1_2, .bool a1_3, .int .i64 a1_4]] rfl zM ?_; (with_reducible refine (cert_Check.calls kj55 _ _ l0_0 _ _ l0_1 a0_2 _ _ l1_0 a1_1 a1_2 a1_3 a1_4 t338 _ ?side1 ?side2 ?side3 ?side4 ?side5 ?side6 ?side7 A58.out).mono ?_); (case side1 => exact GlobOK.below HG.out (zH3 HB.out GE329.out GE330.out GE332.out)); (case side2 => exact zC HR0_0.out HB.out); (case side3 => exact HC0_0.out); (case side4 => exact zC HR0_1.out HB.out); (case side5 => exact HC0_1.out); (case side6 => exact zC HR1_0.out HB.out); (case side7 => exact HC1_0.out); rintro e w182 ⟨rfl, hb⟩; refine ⟨_, rfl, ?_⟩; have n0_ := zBB BK329 hb; have n1_ := zBB BK330 hb; have n2_ := zBB BK332 hb; have n3_ := Aside0.mk (below_step (zH3 HB.out GE329.out GE330.out GE332.out) hb); clear BK329; clear BK330; clear BK332; clear HB; have BK329 := n0_; have BK330 := n1_; have BK332 := n2_; have HB := n3_; clear n0_ n1_ n2_ n3_; (try clear hb); (try clear hb2); (try clear hk); (try clear hi); (try simp only [errW_none, errW_some]); have CA59 := fun W hG_ => pledgesee_Is.calls t338 x7_55 false W hG_ A59.out; try simp only [errW_none, errW_some] at CA59) | (go_at_call 9; (with_reducible refine (CA59 _ ?side1).mono ?_); (case side1 => exact GlobOK.below HG.out (zH3 HB.out GE329.out GE330.out GE332.out)); rintro e w183 ⟨rfl, hb⟩; have n0_ := zBB BK329 hb; have n1_ := zBB BK330 hb; have n2_ := zBB BK332 hb; have n3_ := Aside0.mk (below_step (zH3 HB.out GE329.out GE330.out GE332.out) hb); clear BK329; clear BK330; clear BK332; clear HB; have BK329 := n0_; have BK330 := n1_; have BK332 := n2_; have HB := n3_; clear n0_ n1_ n2_ n3_; (try clear hb); (try clear hb2); (try clear hk); (try clear hi)))
              go_ret
              exact ⟨zE, zH3 HB.out GE329.out GE330.out GE332.out⟩
 ·
  replace c4 := Bool.eq_false_iff.mpr c4; subst c4; have H1 : (some false) = some r := by rw [if_neg (show ¬ (false = true) by decide)] at H; exact H
  clear H; have H := H1; clear H1; obtain rfl := Option.some.inj H
  go_enter Tryd.func3, Tryd.ntmps3
  go_wp2_with (first | ((with_reducible refine gate_dst (N := 2) rfl ?_); (try (refine gate_guard (by rfl) ?_; dsimp only)); refine box_event ?hg (N := 2) ?hd (cs := #[.slice A0_0 l0_0.length c0_0, .slice A0_1 l0_1.length c0_1, .int .i64 a0_2]) (t := 25) ?hr ?_; (case hd => rfl); (case hg => rfl); (case hr => first | (go_simp; done) | (go_simp; rfl)); intro gb329 hg w184 hbox hb; have n0_ := Aside0.mk (below_step (zH HB.out) hb); have n1_ := Aside0.mk (hbox); have n2_ := Aside0.mk (zg hg (below_size (zH HB.out)) : w.heap.size ≤ gb329); have n3_ := Aside0.mk (zg hg (below_size (zH HB.out)) : w.heap.size ≤ gb329); clear HB; have HB := n0_; have BK329 := n1_; have GW329 := n2_; have GE329 := n3_; clear n0_ n1_ n2_ n3_; clear hb hbox hg) | ((with_reducible refine gate_dst (N := 3) rfl ?_); (try (refine gate_guard (by rfl) ?_; dsimp only)); refine box_event ?hg (N := 3) ?hd (cs := #[.slice A1_0 l1_0.length c1_0, .int .i64 a1_1, .int .i64 a1_2, .bool a1_3, .int .i64 a1_4]) (t := 28) ?hr ?_; (case hd => rfl); (case hg => rfl); (case hr => first | (go_simp; done) | (go_simp; rfl)); intro gb330 hg w185 hbox hb; have n0_ := zBB BK329 hb; have n1_ := Aside0.mk (below_step (zH1 HB.out GE329.out) hb); have n2_ := Aside0.mk (hbox); have n3_ := Aside0.mk (zg hg (below_size (zH1 HB.out GE329.out)) : w.heap.size ≤ gb330); have n4_ := Aside0.mk (zg hg (below_size (zH1 HB.out GE329.out)) : w.heap.size ≤ gb330); have n5_ := Aside0.mk (zN hg BK329 : gb329 ≠ gb330); have n6_ := Aside0.mk (zO hg BK329 : gb330 ≠ gb329); clear BK329; clear HB; have BK329 := n0_; have HB := n1_; have BK330 := n2_; have GW330 := n3_; have GE330 := n4_; have NB329_330 := n5_; have NB330_329 := n6_; clear n0_ n1_ n2_ n3_ n4_ n5_ n6_; clear hb hbox hg) | ((with_reducible refine gate_callee (f := 5) rfl ?_); refine goesL_ (some 23) rfl rfl Tryd.func5 (by kernel_rfl) rfl #[] rfl zM ?_; (with_reducible refine (pledgelaw21_first.calls k  false _ ?side1 A3.out).mono ?_); (case side1 => exact GlobOK.below HG.out (zH2 HB.out GE329.out GE330.out)); rintro e w186 ⟨rfl, hb⟩; refine ⟨_, rfl, ?_⟩; have n0_ := zBB BK329 hb; have n1_ := zBB BK330 hb; have n2_ := Aside0.mk (below_step (zH2 HB.out GE329.out GE330.out) hb); clear BK329; clear BK330; clear HB; have BK329 := n0_; have BK330 := n1_; have HB := n2_; clear n0_ n1_ n2_; (try clear hb); (try clear hb2); (try clear hk); (try clear hi)))
  go_ret
  exact ⟨zE, zH2 HB.out GE329.out GE330.out⟩

/-- The pure statement of pledgelaw21_CertSays: numbers and lists alone. -/
def pledgelaw21_CertSays.Pure : Prop := ∀ (l0_0 : List (S47)) (l0_1 : List Int) (a0_2 : Int) (l1_0 : List Int) (a1_1 : Int) (a1_2 : Int) (a1_3 : Bool) (a1_4 : Int), (l0_0.length ≤ maxLen ∧ ∀ x ∈ l0_0, (Rng .i64 x.f0 ∧ Rng .i64 x.f1 ∧ Rng .i64 x.f2 ∧ Rng .i64 x.f3)) → (l0_1.length ≤ maxLen ∧ ∀ x ∈ l0_1, Rng .i64 x) → Rng .i64 a0_2 → (l1_0.length ≤ maxLen ∧ ∀ x ∈ l1_0, Rng .i64 x) → Rng .i64 a1_1 → Rng .i64 a1_2 → Rng .i64 a1_4 → ∃ k, pledgelaw21_CertSays.f k l0_0 l0_1 a0_2 l1_0 a1_1 a1_2 a1_3 a1_4 = some true

end Go.Proofs.YteooecifecaikaaDoor.ECertSays
