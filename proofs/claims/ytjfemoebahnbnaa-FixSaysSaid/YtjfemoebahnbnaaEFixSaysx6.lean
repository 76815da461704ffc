/- The functions that the law comes to, as plain functions, and for each a proof that the Go code comes to just these answers. Written by a program of this claim. Conditions: each theorem bears its own. -/
import Derived.Test.YtjfemoebahnbnaaEFixSaysx0
import Derived.Test.YtjfemoebahnbnaaEFixSaysx1
import Derived.Test.YtjfemoebahnbnaaEFixSaysx2
import Derived.Test.YtjfemoebahnbnaaEFixSaysx3
import Derived.Test.YtjfemoebahnbnaaEFixSaysx4
import Derived.Test.YtjfemoebahnbnaaEFixSaysx5
namespace Go.Proofs.Ytjfemoebahnbnaa.EFixSays
open Go.RowKit Go.Proofs.YtjfemoebahnbnaaW.PrintWords Go.Proofs.YtjfemoebahnbnaaW.PrintLast Go.Proofs.YtjfemoebahnbnaaW.PrintMore Go.Proofs.YtjfemoebahnbnaaW.PrintOpen
attribute [local go_sem] max2_int min2_int max_two min_two max_three min_three max_four min_four   -- for this text's walks alone
set_option linter.unusedVariables false
set_option linter.unusedSimpArgs false

/-! ### pledgelaw2_FixSays: function 7 -/
mutual
def pledgelaw2_FixSays.j0 : Nat → Int → Int → Int → Int → Bool → List Int → Bool → Bool → Option (Bool)
  | 0, _, _, _, _, _, _, _, _ => none
  | k + 1, x0, x1, x2, x3, x4, x5, x13, x31 => if x31 = true then (some x13) else ((fix_Add.f x0 x1).bind fun bt179 => ((pledgeref1_Add.f x0 x1).bind fun bt181 => (if bt179.1 = bt181.1 then (pledgelaw2_FixSays.j1 k x0 x1 x2 x3 x4 x5 (bt179.2 != bt181.2)) else (pledgelaw2_FixSays.j1 k x0 x1 x2 x3 x4 x5 true))))
def pledgelaw2_FixSays.j1 : Nat → Int → Int → Int → Int → Bool → List Int → Bool → Option (Bool)
  | 0, _, _, _, _, _, _, _ => none
  | k + 1, x0, x1, x2, x3, x4, x5, x52 => if x52 = true then (some false) else ((fix_Sub.f x0 x1).bind fun bt183 => ((pledgeref1_Sub.f x0 x1).bind fun bt185 => (if bt183.1 = bt185.1 then (pledgelaw2_FixSays.j2 k x0 x1 x2 x3 x4 x5 (bt183.2 != bt185.2)) else (pledgelaw2_FixSays.j2 k x0 x1 x2 x3 x4 x5 true))))
def pledgelaw2_FixSays.j2 : Nat → Int → Int → Int → Int → Bool → List Int → Bool → Option (Bool)
  | 0, _, _, _, _, _, _, _ => none
  | k + 1, x0, x1, x2, x3, x4, x5, x72 => if x72 = true then (some false) else ((fix_Mul.f k x0 x1).bind fun bt187 => ((pledgeref1_Mul.f x0 x1).bind fun bt189 => (if bt187.1 = bt189.1 then (pledgelaw2_FixSays.j3 k x0 x1 x2 x3 x4 x5 (bt187.2 != bt189.2)) else (pledgelaw2_FixSays.j3 k x0 x1 x2 x3 x4 x5 true))))
def pledgelaw2_FixSays.j3 : Nat → Int → Int → Int → Int → Bool → List Int → Bool → Option (Bool)
  | 0, _, _, _, _, _, _, _ => none
  | k + 1, x0, x1, x2, x3, x4, x5, x92 => if x92 = true then (some false) else ((fix_Div.f k x0 x1 x2 x4).bind fun bt191 => ((pledgeref1_Div.f k x0 x1 x2 x4).bind fun bt193 => (if bt191.1 = bt193.1 then (pledgelaw2_FixSays.j4 k x0 x1 x2 x3 x5 (bt191.2 != bt193.2)) else (pledgelaw2_FixSays.j4 k x0 x1 x2 x3 x5 true))))
def pledgelaw2_FixSays.j4 : Nat → Int → Int → Int → Int → List Int → Bool → Option (Bool)
  | 0, _, _, _, _, _, _ => none
  | k + 1, x0, x1, x2, x3, x5, x116 => if x116 = true then (some false) else ((fix_Sum.f k x5).bind fun bt195 => ((pledgeref1_Sum.f k x5).bind fun bt197 => ((fix_Wide.f (IntKind.u64.wrap (x0)) (IntKind.u64.wrap (x1))).bind fun bt199 => ((pledgeref1_Wide.f (IntKind.u64.wrap (x0)) (IntKind.u64.wrap (x1))).bind fun bt201 => (if bt195.1 = bt197.1 then (if (bt195.2 == bt197.2) = true then (if bt199.1 = bt201.1 then (if bt199.2 = bt201.2 then ((fix_Cmp.f k x0 x1 x2 x3).bind fun t203 => ((pledgeref1_Cmp.f k x0 x1 x2 x3).bind fun t204 => (some (t203 == t204)))) else (some false)) else (some false)) else (some false)) else (some false))))))
end
def pledgelaw2_FixSays.f (k : Nat) (a0 : Int) (a1 : Int) (a2 : Int) (a3 : Int) (a4 : Bool) (l5 : List Int) : Option (Bool) := (pledgelaw2_first.f k).bind fun t178 => (if t178 = true then (if (l5.length : Int) > 40 then (pledgelaw2_FixSays.j0 k a0 a1 a2 a3 a4 l5 t178 true) else (pledgelaw2_FixSays.j0 k a0 a1 a2 a3 a4 l5 t178 (!t178))) else (some false))
theorem pledgelaw2_FixSays.mono_l : ∀ k, (∀ y0 y1 y2 y3 y4 y5 y6 y7, LeO (pledgelaw2_FixSays.j0 k y0 y1 y2 y3 y4 y5 y6 y7) (pledgelaw2_FixSays.j0 (k + 1) y0 y1 y2 y3 y4 y5 y6 y7)) ∧ (∀ y0 y1 y2 y3 y4 y5 y6, LeO (pledgelaw2_FixSays.j1 k y0 y1 y2 y3 y4 y5 y6) (pledgelaw2_FixSays.j1 (k + 1) y0 y1 y2 y3 y4 y5 y6)) ∧ (∀ y0 y1 y2 y3 y4 y5 y6, LeO (pledgelaw2_FixSays.j2 k y0 y1 y2 y3 y4 y5 y6) (pledgelaw2_FixSays.j2 (k + 1) y0 y1 y2 y3 y4 y5 y6)) ∧ (∀ y0 y1 y2 y3 y4 y5 y6, LeO (pledgelaw2_FixSays.j3 k y0 y1 y2 y3 y4 y5 y6) (pledgelaw2_FixSays.j3 (k + 1) y0 y1 y2 y3 y4 y5 y6)) ∧ (∀ y0 y1 y2 y3 y4 y5, LeO (pledgelaw2_FixSays.j4 k y0 y1 y2 y3 y4 y5) (pledgelaw2_FixSays.j4 (k + 1) y0 y1 y2 y3 y4 y5))
  | 0 => ⟨fun _ _ _ _ _ _ _ _ r h => by simp [pledgelaw2_FixSays.j0] at h, fun _ _ _ _ _ _ _ r h => by simp [pledgelaw2_FixSays.j1] at h, fun _ _ _ _ _ _ _ r h => by simp [pledgelaw2_FixSays.j2] at h, fun _ _ _ _ _ _ _ r h => by simp [pledgelaw2_FixSays.j3] at h, fun _ _ _ _ _ _ r h => by simp [pledgelaw2_FixSays.j4] at h⟩
  | k + 1 => by
    obtain ⟨ih0, ih1, ih2, ih3, ih4⟩ := pledgelaw2_FixSays.mono_l k
    refine ⟨?_, ?_, ?_, ?_, ?_⟩
    · intro y0 y1 y2 y3 y4 y5 y6 y7
      unfold pledgelaw2_FixSays.j0
      repeat' first
      | (with_reducible exact ih0 _ _ _ _ _ _ _ _)
      | (with_reducible exact ih1 _ _ _ _ _ _ _)
      | (with_reducible exact ih2 _ _ _ _ _ _ _)
      | (with_reducible exact ih3 _ _ _ _ _ _ _)
      | (with_reducible exact ih4 _ _ _ _ _ _)
      | (with_reducible exact fix_Cmp.mono _ _ _ _ _)
      | (with_reducible exact fix_Div.mono _ _ _ _ _)
      | (with_reducible exact fix_Mul.mono _ _ _)
      | (with_reducible exact fix_Sum.mono _ _)
      | (with_reducible exact pledgelaw2_first.mono _)
      | (with_reducible exact pledgeref1_Cmp.mono _ _ _ _ _)
      | (with_reducible exact pledgeref1_Div.mono _ _ _ _ _)
      | (with_reducible exact pledgeref1_Sum.mono _ _)
      | (with_reducible exact LeO.refl _)
      | (with_reducible exact LeO.none _)
      | (with_reducible refine LeO.ite ?_ ?_)
      | (with_reducible refine LeO.bind ?_ (fun _ => ?_))
      | exact ih0 _ _ _ _ _ _ _ _
      | exact ih1 _ _ _ _ _ _ _
      | exact ih2 _ _ _ _ _ _ _
      | exact ih3 _ _ _ _ _ _ _
      | exact ih4 _ _ _ _ _ _
      | exact fix_Cmp.mono _ _ _ _ _
      | exact fix_Div.mono _ _ _ _ _
      | exact fix_Mul.mono _ _ _
      | exact fix_Sum.mono _ _
      | exact pledgelaw2_first.mono _
      | exact pledgeref1_Cmp.mono _ _ _ _ _
      | exact pledgeref1_Div.mono _ _ _ _ _
      | exact pledgeref1_Sum.mono _ _
      | exact LeO.none _
      | refine LeO.ite ?_ ?_
      | refine LeO.bind ?_ (fun _ => ?_)
    · intro y0 y1 y2 y3 y4 y5 y6
      unfold pledgelaw2_FixSays.j1
      repeat' first
      | (with_reducible exact ih0 _ _ _ _ _ _ _ _)
      | (with_reducible exact ih1 _ _ _ _ _ _ _)
      | (with_reducible exact ih2 _ _ _ _ _ _ _)
      | (with_reducible exact ih3 _ _ _ _ _ _ _)
      | (with_reducible exact ih4 _ _ _ _ _ _)
      | (with_reducible exact fix_Cmp.mono _ _ _ _ _)
      | (with_reducible exact fix_Div.mono _ _ _ _ _)
      | (with_reducible exact fix_Mul.mono _ _ _)
      | (with_reducible exact fix_Sum.mono _ _)
      | (with_reducible exact pledgelaw2_first.mono _)
      | (with_reducible exact pledgeref1_Cmp.mono _ _ _ _ _)
      | (with_reducible exact pledgeref1_Div.mono _ _ _ _ _)
      | (with_reducible exact pledgeref1_Sum.mono _ _)
      | (with_reducible exact LeO.refl _)
      | (with_reducible exact LeO.none _)
      | (with_reducible refine LeO.ite ?_ ?_)
      | (with_reducible refine LeO.bind ?_ (fun _ => ?_))
      | exact ih0 _ _ _ _ _ _ _ _
      | exact ih1 _ _ _ _ _ _ _
      | exact ih2 _ _ _ _ _ _ _
      | exact ih3 _ _ _ _ _ _ _
      | exact ih4 _ _ _ _ _ _
      | exact fix_Cmp.mono _ _ _ _ _
      | exact fix_Div.mono _ _ _ _ _
      | exact fix_Mul.mono _ _ _
      | exact fix_Sum.mono _ _
      | exact pledgelaw2_first.mono _
      | exact pledgeref1_Cmp.mono _ _ _ _ _
      | exact pledgeref1_Div.mono _ _ _ _ _
      | exact pledgeref1_Sum.mono _ _
      | exact LeO.none _
      | refine LeO.ite ?_ ?_
      | refine LeO.bind ?_ (fun _ => ?_)
    · intro y0 y1 y2 y3 y4 y5 y6
      unfold pledgelaw2_FixSays.j2
      repeat' first
      | (with_reducible exact ih0 _ _ _ _ _ _ _ _)
      | (with_reducible exact ih1 _ _ _ _ _ _ _)
      | (with_reducible exact ih2 _ _ _ _ _ _ _)
      | (with_reducible exact ih3 _ _ _ _ _ _ _)
      | (with_reducible exact ih4 _ _ _ _ _ _)
      | (with_reducible exact fix_Cmp.mono _ _ _ _ _)
      | (with_reducible exact fix_Div.mono _ _ _ _ _)
      | (with_reducible exact fix_Mul.mono _ _ _)
      | (with_reducible exact fix_Sum.mono _ _)
      | (with_reducible exact pledgelaw2_first.mono _)
      | (with_reducible exact pledgeref1_Cmp.mono _ _ _ _ _)
      | (with_reducible exact pledgeref1_Div.mono _ _ _ _ _)
      | (with_reducible exact pledgeref1_Sum.mono _ _)
      | (with_reducible exact LeO.refl _)
      | (with_reducible exact LeO.none _)
      | (with_reducible refine LeO.ite ?_ ?_)
      | (with_reducible refine LeO.bind ?_ (fun _ => ?_))
      | exact ih0 _ _ _ _ _ _ _ _
      | exact ih1 _ _ _ _ _ _ _
      | exact ih2 _ _ _ _ _ _ _
      | exact ih3 _ _ _ _ _ _ _
      | exact ih4 _ _ _ _ _ _
      | exact fix_Cmp.mono _ _ _ _ _
      | exact fix_Div.mono _ _ _ _ _
      | exact fix_Mul.mono _ _ _
      | exact fix_Sum.mono _ _
      | exact pledgelaw2_first.mono _
      | exact pledgeref1_Cmp.mono _ _ _ _ _
      | exact pledgeref1_Div.mono _ _ _ _ _
      | exact pledgeref1_Sum.mono _ _
      | exact LeO.none _
      | refine LeO.ite ?_ ?_
      | refine LeO.bind ?_ (fun _ => ?_)
    · intro y0 y1 y2 y3 y4 y5 y6
      unfold pledgelaw2_FixSays.j3
      repeat' first
      | (with_reducible exact ih0 _ _ _ _ _ _ _ _)
      | (with_reducible exact ih1 _ _ _ _ _ _ _)
      | (with_reducible exact ih2 _ _ _ _ _ _ _)
      | (with_reducible exact ih3 _ _ _ _ _ _ _)
      | (with_reducible exact ih4 _ _ _ _ _ _)
      | (with_reducible exact fix_Cmp.mono _ _ _ _ _)
      | (with_reducible exact fix_Div.mono _ _ _ _ _)
      | (with_reducible exact fix_Mul.mono _ _ _)
      | (with_reducible exact fix_Sum.mono _ _)
      | (with_reducible exact pledgelaw2_first.mono _)
      | (with_reducible exact pledgeref1_Cmp.mono _ _ _ _ _)
      | (with_reducible exact pledgeref1_Div.mono _ _ _ _ _)
      | (with_reducible exact pledgeref1_Sum.mono _ _)
      | (with_reducible exact LeO.refl _)
      | (with_reducible exact LeO.none _)
      | (with_reducible refine LeO.ite ?_ ?_)
      | (with_reducible refine LeO.bind ?_ (fun _ => ?_))
      | exact ih0 _ _ _ _ _ _ _ _
      | exact ih1 _ _ _ _ _ _ _
      | exact ih2 _ _ _ _ _ _ _
      | exact ih3 _ _ _ _ _ _ _
      | exact ih4 _ _ _ _ _ _
      | exact fix_Cmp.mono _ _ _ _ _
      | exact fix_Div.mono _ _ _ _ _
      | exact fix_Mul.mono _ _ _
      | exact fix_Sum.mono _ _
      | exact pledgelaw2_first.mono _
      | exact pledgeref1_Cmp.mono _ _ _ _ _
      | exact pledgeref1_Div.mono _ _ _ _ _
      | exact pledgeref1_Sum.mono _ _
      | exact LeO.none _
      | refine LeO.ite ?_ ?_
      | refine LeO.bind ?_ (fun _ => ?_)
    · intro y0 y1 y2 y3 y4 y5
      unfold pledgelaw2_FixSays.j4
      repeat' first
      | (with_reducible exact ih0 _ _ _ _ _ _ _ _)
      | (with_reducible exact ih1 _ _ _ _ _ _ _)
      | (with_reducible exact ih2 _ _ _ _ _ _ _)
      | (with_reducible exact ih3 _ _ _ _ _ _ _)
      | (with_reducible exact ih4 _ _ _ _ _ _)
      | (with_reducible exact fix_Cmp.mono _ _ _ _ _)
      | (with_reducible exact fix_Div.mono _ _ _ _ _)
      | (with_reducible exact fix_Mul.mono _ _ _)
      | (with_reducible exact fix_Sum.mono _ _)
      | (with_reducible exact pledgelaw2_first.mono _)
      | (with_reducible exact pledgeref1_Cmp.mono _ _ _ _ _)
      | (with_reducible exact pledgeref1_Div.mono _ _ _ _ _)
      | (with_reducible exact pledgeref1_Sum.mono _ _)
      | (with_reducible exact LeO.refl _)
      | (with_reducible exact LeO.none _)
      | (with_reducible refine LeO.ite ?_ ?_)
      | (with_reducible refine LeO.bind ?_ (fun _ => ?_))
      | exact ih0 _ _ _ _ _ _ _ _
      | exact ih1 _ _ _ _ _ _ _
      | exact ih2 _ _ _ _ _ _ _
      | exact ih3 _ _ _ _ _ _ _
      | exact ih4 _ _ _ _ _ _
      | exact fix_Cmp.mono _ _ _ _ _
      | exact fix_Div.mono _ _ _ _ _
      | exact fix_Mul.mono _ _ _
      | exact fix_Sum.mono _ _
      | exact pledgelaw2_first.mono _
      | exact pledgeref1_Cmp.mono _ _ _ _ _
      | exact pledgeref1_Div.mono _ _ _ _ _
      | exact pledgeref1_Sum.mono _ _
      | exact LeO.none _
      | refine LeO.ite ?_ ?_
      | refine LeO.bind ?_ (fun _ => ?_)
theorem pledgelaw2_FixSays.mono : ∀ a0 a1 a2 a3 a4 a5 k, LeO (pledgelaw2_FixSays.f k a0 a1 a2 a3 a4 a5) (pledgelaw2_FixSays.f (k + 1) a0 a1 a2 a3 a4 a5) := by
  intro a0 a1 a2 a3 a4 a5 k
  obtain ⟨ih0, ih1, ih2, ih3, ih4⟩ := pledgelaw2_FixSays.mono_l k
  unfold pledgelaw2_FixSays.f
  repeat' first
      | (with_reducible exact ih0 _ _ _ _ _ _ _ _)
      | (with_reducible exact ih1 _ _ _ _ _ _ _)
      | (with_reducible exact ih2 _ _ _ _ _ _ _)
      | (with_reducible exact ih3 _ _ _ _ _ _ _)
      | (with_reducible exact ih4 _ _ _ _ _ _)
      | (with_reducible exact fix_Cmp.mono _ _ _ _ _)
      | (with_reducible exact fix_Div.mono _ _ _ _ _)
      | (with_reducible exact fix_Mul.mono _ _ _)
      | (with_reducible exact fix_Sum.mono _ _)
      | (with_reducible exact pledgelaw2_first.mono _)
      | (with_reducible exact pledgeref1_Cmp.mono _ _ _ _ _)
      | (with_reducible exact pledgeref1_Div.mono _ _ _ _ _)
      | (with_reducible exact pledgeref1_Sum.mono _ _)
      | (with_reducible exact LeO.refl _)
      | (with_reducible exact LeO.none _)
      | (with_reducible refine LeO.ite ?_ ?_)
      | (with_reducible refine LeO.bind ?_ (fun _ => ?_))
      | exact ih0 _ _ _ _ _ _ _ _
      | exact ih1 _ _ _ _ _ _ _
      | exact ih2 _ _ _ _ _ _ _
      | exact ih3 _ _ _ _ _ _ _
      | exact ih4 _ _ _ _ _ _
      | exact fix_Cmp.mono _ _ _ _ _
      | exact fix_Div.mono _ _ _ _ _
      | exact fix_Mul.mono _ _ _
      | exact fix_Sum.mono _ _
      | exact pledgelaw2_first.mono _
      | exact pledgeref1_Cmp.mono _ _ _ _ _
      | exact pledgeref1_Div.mono _ _ _ _ _
      | exact pledgeref1_Sum.mono _ _
      | exact LeO.none _
      | refine LeO.ite ?_ ?_
      | refine LeO.bind ?_ (fun _ => ?_)
set_option maxHeartbeats 8000000 in
set_option maxRecDepth 100000 in
theorem pledgelaw2_FixSays.calls [Inhabited (Int → Addr)] (k : Nat) (a0 : Int) (a1 : Int) (a2 : Int) (a3 : Int) (a4 : Bool) (A5 : Option Addr) (c5 : Nat) (l5 : List Int) (r : Bool) (w : World) (hG : GlobOK w) (hr5 : Kd.C (Kd.int .i64) w A5 l5.length l5) (hc5 : l5.length ≤ c5) (h : pledgelaw2_FixSays.f k a0 a1 a2 a3 a4 l5 = some r) :
    Calls Try.prog 7 #[.int .i64 a0, .int .i64 a1, .int .i64 a2, .int .i64 a3, .bool a4, .slice A5 l5.length c5] w fun e w' => e = .returned (.bool r) ∧ Below w.heap.size w w' := by
  have HG := Aside0.mk hG
  clear hG
  have HR5 := Aside0.mk hr5
  have HC5 := Aside0.mk hc5
  clear hr5 hc5
  have HB := Aside0.mk (Below.refl w.heap.size w)
  have H : ((pledgelaw2_first.f k).bind fun t178 => (if t178 = true then (if (l5.length : Int) > 40 then (pledgelaw2_FixSays.j0 k a0 a1 a2 a3 a4 l5 t178 true) else (pledgelaw2_FixSays.j0 k a0 a1 a2 a3 a4 l5 t178 (!t178))) else (some false))) = some r := h
  clear h
  replace H := Option.bind_eq_some_iff.mp H
  obtain ⟨t178, A70, H⟩ := H
  replace H : (if t178 = true then (if (l5.length : Int) > 40 then (pledgelaw2_FixSays.j0 k a0 a1 a2 a3 a4 l5 t178 true) else (pledgelaw2_FixSays.j0 k a0 a1 a2 a3 a4 l5 t178 (!t178))) else (some false)) = some r := H
  have A7 := Aside0.mk A70
  clear A70
  by_cases c8 : t178 = true
  · subst c8
    have H1 : (if (l5.length : Int) > 40 then (pledgelaw2_FixSays.j0 k a0 a1 a2 a3 a4 l5 true true) else (pledgelaw2_FixSays.j0 k a0 a1 a2 a3 a4 l5 true (!true))) = some r := by rw [if_pos rfl] at H; exact H
    clear H
    have H := H1
    clear H1
    have HC9 := Aside0.mk H
    clear H
    go_enter Try.func7, Try.ntmps7
    go_upto_region 4 with (first | ((with_reducible refine gate_callee (f := 8) rfl ?_); refine goesL_ (some 22) rfl rfl Try.func8 (by kernel_rfl) rfl #[] rfl (by (try simp only [List.map_toArray, List.map_cons, List.map_nil]); first | done | rfl | (simp only [List.length_drop, List.length_take]; rfl)) ?_; (with_reducible refine (pledgelaw2_first.calls k  true _ ?side1 A7.out).mono ?_); (case side1 => exact GlobOK.below HG.out (by repeat (first | (with_reducible first | exact HB.out | apply below_alloc | apply pw_below_drewN | apply below_drew1) | exact HB.out))); rintro e w10 ⟨rfl, hb⟩; refine ⟨_, rfl, ?_⟩; have n0_ := Aside0.mk (below_step (by repeat (first | (with_reducible first | exact HB.out | apply below_alloc | apply pw_below_drewN | apply below_drew1) | exact HB.out)) hb); clear HB; have HB := n0_; clear n0_; (try clear hb); (try clear hb2); (try clear hk); (try clear hi)))
    (try simp only [Act.put, List.setIfInBounds_toArray, List.set_cons_zero, List.set_cons_succ])
    go_cut [31] (fun v31 wc => ∃ (kq : Nat) (x31_8 : Bool), v31 = .bool x31_8 ∧ Aside0 (pledgelaw2_FixSays.j0 kq a0 a1 a2 a3 a4 l5 true x31_8 = some r) ∧ Aside0 (kq ≤ k) ∧ Aside0 (Below w.heap.size w wc))
    case first =>
      have H := HC9.out
      clear HC9
      by_cases c11 : (l5.length : Int) > 40
      · rw [if_pos c11] at H
        have c11b0 : decide (40 < (l5.length : Int)) = true := decide_eq_true c11
        have c11b1 : decide (40 < l5.length) = true := decide_eq_true (by omega)
        clear c11
        (first | rw [c11b0] | (simp only [i64_w, i32_w]; rw [c11b0]) | skip)
        have H' := Aside0.mk H
        clear H
        go_wp2
        go_meet
        case rel => exact ⟨_, (true), (by first | rfl | (simp; done) | (simp [*]; done)), H', ⟨by first | omega | exact Nat.le_refl _⟩, ⟨by repeat (first | (with_reducible first | exact HB.out | apply below_alloc | apply pw_below_drewN | apply below_drew1) | exact HB.out)⟩⟩
      · rw [if_neg c11] at H
        have c11b0 : decide (40 < (l5.length : Int)) = false := decide_eq_false c11
        have c11b1 : decide (40 < l5.length) = false := decide_eq_false (by omega)
        clear c11
        (first | rw [c11b0] | (simp only [i64_w, i32_w]; rw [c11b0]) | skip)
        have H' := Aside0.mk H
        clear H
        go_wp2
        go_meet
        case rel => exact ⟨_, (!true), (by first | rfl | (simp; done) | (simp [*]; done)), H', ⟨by first | omega | exact Nat.le_refl _⟩, ⟨by repeat (first | (with_reducible first | exact HB.out | apply below_alloc | apply pw_below_drewN | apply below_drew1) | exact HB.out)⟩⟩
    case rest =>
      clear HC9
      try clear c1
      try clear p2
      try clear c5
      try clear c7
      try clear c8
      try clear c11
      try clear c11b0
      try clear c11b1
      obtain ⟨kq, x31_8, rfl, HA, HJ8, HB⟩ := hcut
      cases kq with
      | zero => exact absurd HA.out (by simp [pledgelaw2_FixSays.j0])
      | succ kj8 =>
        have H := HA.out
        clear HA
        simp only [pledgelaw2_FixSays.j0] at H
        by_cases c12 : x31_8 = true
        · subst c12
          have H1 : (some true) = some r := by rw [if_pos rfl] at H; exact H
          clear H
          have H := H1
          clear H1
          obtain rfl := Option.some.inj H
          go_wp2
          go_ret
          exact ⟨by first | rfl | (simp [errW_none, errW_some] <;> rfl) | (simp [*, errW_none, errW_some] <;> rfl), by repeat (first | (with_reducible first | exact HB.out | apply below_alloc | apply pw_below_drewN | apply below_drew1) | exact HB.out)⟩
        · replace c12 := Bool.eq_false_iff.mpr c12
          subst c12
          have H1 : ((fix_Add.f a0 a1).bind fun bt179 => ((pledgeref1_Add.f a0 a1).bind fun bt181 => (if bt179.1 = bt181.1 then (pledgelaw2_FixSays.j1 kj8 a0 a1 a2 a3 a4 l5 (bt179.2 != bt181.2)) else (pledgelaw2_FixSays.j1 kj8 a0 a1 a2 a3 a4 l5 true)))) = some r := by rw [if_neg (show ¬ (false = true) by decide)] at H; exact H
          clear H
          have H := H1
          clear H1
          replace H := Option.bind_eq_some_iff.mp H
          obtain ⟨⟨t179, t180⟩, A130, H⟩ := H
          replace H : ((pledgeref1_Add.f a0 a1).bind fun bt181 => (if t179 = bt181.1 then (pledgelaw2_FixSays.j1 kj8 a0 a1 a2 a3 a4 l5 (t180 != bt181.2)) else (pledgelaw2_FixSays.j1 kj8 a0 a1 a2 a3 a4 l5 true))) = some r := H
          have A13 := Aside0.mk A130
          clear A130
          replace H := Option.bind_eq_some_iff.mp H
          obtain ⟨⟨t181, t182⟩, A140, H⟩ := H
          replace H : (if t179 = t181 then (pledgelaw2_FixSays.j1 kj8 a0 a1 a2 a3 a4 l5 (t180 != t182)) else (pledgelaw2_FixSays.j1 kj8 a0 a1 a2 a3 a4 l5 true)) = some r := H
          have A14 := Aside0.mk A140
          clear A140
          have HC15 := Aside0.mk H
          clear H
          go_upto_region 8 with (first | ((with_reducible refine gate_callee (f := 10) rfl ?_); refine goesL_ (some 36) rfl rfl Try.func10 (by kernel_rfl) rfl #[.int .i64 a0, .int .i64 a1] rfl (by (try simp only [List.map_toArray, List.map_cons, List.map_nil]); first | done | rfl | (simp only [List.length_drop, List.length_take]; rfl)) ?_; (with_reducible refine (fix_Add.calls a0 a1 t179 t180 _ A13.out).mono ?_); rintro e w' ⟨rfl, ⟨nd, rfl⟩⟩; refine ⟨_, rfl, ?_⟩) | ((with_reducible refine gate_callee (f := 15) rfl ?_); refine goesL_ (some 42) rfl rfl Try.func15 (by kernel_rfl) rfl #[.int .i64 a0, .int .i64 a1] rfl (by (try simp only [List.map_toArray, List.map_cons, List.map_nil]); first | done | rfl | (simp only [List.length_drop, List.length_take]; rfl)) ?_; (with_reducible refine (pledgeref1_Add.calls a0 a1 t181 t182 _ A14.out).mono ?_); rintro e w' ⟨rfl, ⟨nd, rfl⟩⟩; refine ⟨_, rfl, ?_⟩))
          (try simp only [Act.put, List.setIfInBounds_toArray, List.set_cons_zero, List.set_cons_succ])
          go_cut [52] (fun v52 wc => ∃ (kq : Nat) (x52_14 : Bool), v52 = .bool x52_14 ∧ Aside0 (pledgelaw2_FixSays.j1 kq a0 a1 a2 a3 a4 l5 x52_14 = some r) ∧ Aside0 (kq ≤ kj8) ∧ Aside0 (Below w.heap.size w wc))
          case first =>
            have H := HC15.out
            clear HC15
            by_cases c16 : t179 = t181
            · rw [if_pos c16] at H
              have c16b0 : (t179 == t181) = true := beq_iff_eq.mpr c16
              have c16b1 : (t179 != t181) = false := bne_eq_false_iff_eq.mpr c16
              clear c16
              (first | rw [c16b0] | (simp only [i64_w, i32_w]; rw [c16b0]) | skip)
              have H' := Aside0.mk H
              clear H
              go_wp2
              go_meet
              case rel => exact ⟨_, ((t180 != t182)), (by first | rfl | (simp; done) | (simp [*]; done)), H', ⟨by have := HJ8.out; first | omega | exact Nat.le_refl _⟩, ⟨by repeat (first | (with_reducible first | exact HB.out | apply below_alloc | apply pw_below_drewN | apply below_drew1) | exact HB.out)⟩⟩
            · rw [if_neg c16] at H
              have c16b0 : (t179 == t181) = false := beq_eq_false_iff_ne.mpr c16
              have c16b1 : (t179 != t181) = true := bne_iff_ne.mpr c16
              (first | rw [c16b0] | (simp only [i64_w, i32_w]; rw [c16b0]) | skip)
              have H' := Aside0.mk H
              clear H
              go_wp2
              go_meet
              case rel => exact ⟨_, (true), (by first | rfl | (simp; done) | (simp [*]; done)), H', ⟨by have := HJ8.out; first | omega | exact Nat.le_refl _⟩, ⟨by repeat (first | (with_reducible first | exact HB.out | apply below_alloc | apply pw_below_drewN | apply below_drew1) | exact HB.out)⟩⟩
          case rest =>
            clear HC15
            try clear c1
            try clear p2
            try clear c5
            try clear c7
            try clear c8
            try clear c10
            try clear c11
            try clear c11b0
            try clear c11b1
            try clear c12
            try clear c15
            try clear c16
            try clear c16b0
            try clear c16b1
            try clear p2
            obtain ⟨kq, x52_14, rfl, HA, HJ14, HB⟩ := hcut
            cases kq with
            | zero => exact absurd HA.out (by simp [pledgelaw2_FixSays.j1])
            | succ kj14 =>
              have H := HA.out
              clear HA
              simp only [pledgelaw2_FixSays.j1] at H
              by_cases c17 : x52_14 = true
              · subst c17
                have H1 : (some false) = some r := by rw [if_pos rfl] at H; exact H
                clear H
                have H := H1
                clear H1
                obtain rfl := Option.some.inj H
                go_wp2
                go_ret
                exact ⟨by first | rfl | (simp [errW_none, errW_some] <;> rfl) | (simp [*, errW_none, errW_some] <;> rfl), by repeat (first | (with_reducible first | exact HB.out | apply below_alloc | apply pw_below_drewN | apply below_drew1) | exact HB.out)⟩
              · replace c17 := Bool.eq_false_iff.mpr c17
                subst c17
                have H1 : ((fix_Sub.f a0 a1).bind fun bt183 => ((pledgeref1_Sub.f a0 a1).bind fun bt185 => (if bt183.1 = bt185.1 then (pledgelaw2_FixSays.j2 kj14 a0 a1 a2 a3 a4 l5 (bt183.2 != bt185.2)) else (pledgelaw2_FixSays.j2 kj14 a0 a1 a2 a3 a4 l5 true)))) = some r := by rw [if_neg (show ¬ (false = true) by decide)] at H; exact H
                clear H
                have H := H1
                clear H1
                replace H := Option.bind_eq_some_iff.mp H
                obtain ⟨⟨t183, t184⟩, A180, H⟩ := H
                replace H : ((pledgeref1_Sub.f a0 a1).bind fun bt185 => (if t183 = bt185.1 then (pledgelaw2_FixSays.j2 kj14 a0 a1 a2 a3 a4 l5 (t184 != bt185.2)) else (pledgelaw2_FixSays.j2 kj14 a0 a1 a2 a3 a4 l5 true))) = some r := H
                have A18 := Aside0.mk A180
                clear A180
                replace H := Option.bind_eq_some_iff.mp H
                obtain ⟨⟨t185, t186⟩, A190, H⟩ := H
                replace H : (if t183 = t185 then (pledgelaw2_FixSays.j2 kj14 a0 a1 a2 a3 a4 l5 (t184 != t186)) else (pledgelaw2_FixSays.j2 kj14 a0 a1 a2 a3 a4 l5 true)) = some r := H
                have A19 := Aside0.mk A190
                clear A190
                have HC20 := Aside0.mk H
                clear H
                go_upto_region 12 with (first | ((with_reducible refine gate_callee (f := 11) rfl ?_); refine goesL_ (some 56) rfl rfl Try.func11 (by kernel_rfl) rfl #[.int .i64 a0, .int .i64 a1] rfl (by (try simp only [List.map_toArray, List.map_cons, List.map_nil]); first | done | rfl | (simp only [List.length_drop, List.length_take]; rfl)) ?_; (with_reducible refine (fix_Sub.calls a0 a1 t183 t184 _ A18.out).mono ?_); rintro e w' ⟨rfl, ⟨nd, rfl⟩⟩; refine ⟨_, rfl, ?_⟩) | ((with_reducible refine gate_callee (f := 16) rfl ?_); refine goesL_ (some 62) rfl rfl Try.func16 (by kernel_rfl) rfl #[.int .i64 a0, .int .i64 a1] rfl (by (try simp only [List.map_toArray, List.map_cons, List.map_nil]); first | done | rfl | (simp only [List.length_drop, List.length_take]; rfl)) ?_; (with_reducible refine (pledgeref1_Sub.calls a0 a1 t185 t186 _ A19.out).mono ?_); rintro e w' ⟨rfl, ⟨nd, rfl⟩⟩; refine ⟨_, rfl, ?_⟩))
                (try simp only [Act.put, List.setIfInBounds_toArray, List.set_cons_zero, List.set_cons_succ])
                go_cut [72] (fun v72 wc => ∃ (kq : Nat) (x72_19 : Bool), v72 = .bool x72_19 ∧ Aside0 (pledgelaw2_FixSays.j2 kq a0 a1 a2 a3 a4 l5 x72_19 = some r) ∧ Aside0 (kq ≤ kj14) ∧ Aside0 (Below w.heap.size w wc))
                case first =>
                  have H := HC20.out
                  clear HC20
                  by_cases c21 : t183 = t185
                  · rw [if_pos c21] at H
                    have c21b0 : (t183 == t185) = true := beq_iff_eq.mpr c21
                    have c21b1 : (t183 != t185) = false := bne_eq_false_iff_eq.mpr c21
                    clear c21
                    (first | rw [c21b0] | (simp only [i64_w, i32_w]; rw [c21b0]) | skip)
                    have H' := Aside0.mk H
                    clear H
                    go_wp2
                    go_meet
                    case rel => exact ⟨_, ((t184 != t186)), (by first | rfl | (simp; done) | (simp [*]; done)), H', ⟨by have := HJ8.out; have := HJ14.out; first | omega | exact Nat.le_refl _⟩, ⟨by repeat (first | (with_reducible first | exact HB.out | apply below_alloc | apply pw_below_drewN | apply below_drew1) | exact HB.out)⟩⟩
                  · rw [if_neg c21] at H
                    have c21b0 : (t183 == t185) = false := beq_eq_false_iff_ne.mpr c21
                    have c21b1 : (t183 != t185) = true := bne_iff_ne.mpr c21
                    (first | rw [c21b0] | (simp only [i64_w, i32_w]; rw [c21b0]) | skip)
                    have H' := Aside0.mk H
                    clear H
                    go_wp2
                    go_meet
                    case rel => exact ⟨_, (true), (by first | rfl | (simp; done) | (simp [*]; done)), H', ⟨by have := HJ8.out; have := HJ14.out; first | omega | exact Nat.le_refl _⟩, ⟨by repeat (first | (with_reducible first | exact HB.out | apply below_alloc | apply pw_below_drewN | apply below_drew1) | exact HB.out)⟩⟩
                case rest =>
                  clear HC20
                  try clear c1
                  try clear c2
                  try clear p2
                  try clear c5
                  try clear c7
                  try clear c8
                  try clear c10
                  try clear c11
                  try clear c11b0
                  try clear c11b1
                  try clear c12
                  try clear c15
                  try clear c16
                  try clear c16b0
                  try clear c16b1
                  try clear c17
                  try clear c21
                  try clear c21b0
                  try clear c21b1
                  try clear p2
                  obtain ⟨kq, x72_19, rfl, HA, HJ19, HB⟩ := hcut
                  cases kq with
                  | zero => exact absurd HA.out (by simp [pledgelaw2_FixSays.j2])
                  | succ kj19 =>
                    have H := HA.out
                    clear HA
                    simp only [pledgelaw2_FixSays.j2] at H
                    by_cases c22 : x72_19 = true
                    · subst c22
                      have H1 : (some false) = some r := by rw [if_pos rfl] at H; exact H
                      clear H
                      have H := H1
                      clear H1
                      obtain rfl := Option.some.inj H
                      go_wp2
                      go_ret
                      exact ⟨by first | rfl | (simp [errW_none, errW_some] <;> rfl) | (simp [*, errW_none, errW_some] <;> rfl), by repeat (first | (with_reducible first | exact HB.out | apply below_alloc | apply pw_below_drewN | apply below_drew1) | exact HB.out)⟩
                    · replace c22 := Bool.eq_false_iff.mpr c22
                      subst c22
                      have H1 : ((fix_Mul.f kj19 a0 a1).bind fun bt187 => ((pledgeref1_Mul.f a0 a1).bind fun bt189 => (if bt187.1 = bt189.1 then (pledgelaw2_FixSays.j3 kj19 a0 a1 a2 a3 a4 l5 (bt187.2 != bt189.2)) else (pledgelaw2_FixSays.j3 kj19 a0 a1 a2 a3 a4 l5 true)))) = some r := by rw [if_neg (show ¬ (false = true) by decide)] at H; exact H
                      clear H
                      have H := H1
                      clear H1
                      replace H := Option.bind_eq_some_iff.mp H
                      obtain ⟨⟨t187, t188⟩, A230, H⟩ := H
                      replace H : ((pledgeref1_Mul.f a0 a1).bind fun bt189 => (if t187 = bt189.1 then (pledgelaw2_FixSays.j3 kj19 a0 a1 a2 a3 a4 l5 (t188 != bt189.2)) else (pledgelaw2_FixSays.j3 kj19 a0 a1 a2 a3 a4 l5 true))) = some r := H
                      have A23 := Aside0.mk A230
                      clear A230
                      replace H := Option.bind_eq_some_iff.mp H
                      obtain ⟨⟨t189, t190⟩, A240, H⟩ := H
                      replace H : (if t187 = t189 then (pledgelaw2_FixSays.j3 kj19 a0 a1 a2 a3 a4 l5 (t188 != t190)) else (pledgelaw2_FixSays.j3 kj19 a0 a1 a2 a3 a4 l5 true)) = some r := H
                      have A24 := Aside0.mk A240
                      clear A240
                      have HC25 := Aside0.mk H
                      clear H
                      go_upto_region 16 with (first | ((with_reducible refine gate_callee (f := 12) rfl ?_); refine goesL_ (some 76) rfl rfl Try.func12 (by kernel_rfl) rfl #[.int .i64 a0, .int .i64 a1] rfl (by (try simp only [List.map_toArray, List.map_cons, List.map_nil]); first | done | rfl | (simp only [List.length_drop, List.length_take]; rfl)) ?_; (with_reducible refine (fix_Mul.calls kj19 a0 a1 t187 t188 _ ?side1 A23.out).mono ?_); (case side1 => exact GlobOK.below HG.out (by repeat (first | (with_reducible first | exact HB.out | apply below_alloc | apply pw_below_drewN | apply below_drew1) | exact HB.out))); rintro e w26 ⟨rfl, hb⟩; refine ⟨_, rfl, ?_⟩; have n0_ := Aside0.mk (below_step (by repeat (first | (with_reducible first | exact HB.out | apply below_alloc | apply pw_below_drewN | apply below_drew1) | exact HB.out)) hb); clear HB; have HB := n0_; clear n0_; (try clear hb); (try clear hb2); (try clear hk); (try clear hi)) | ((with_reducible refine gate_callee (f := 17) rfl ?_); refine goesL_ (some 82) rfl rfl Try.func17 (by kernel_rfl) rfl #[.int .i64 a0, .int .i64 a1] rfl (by (try simp only [List.map_toArray, List.map_cons, List.map_nil]); first | done | rfl | (simp only [List.length_drop, List.length_take]; rfl)) ?_; (with_reducible refine (pledgeref1_Mul.calls a0 a1 t189 t190 _ A24.out).mono ?_); rintro e w' ⟨rfl, ⟨nd, rfl⟩⟩; refine ⟨_, rfl, ?_⟩))
                      (try simp only [Act.put, List.setIfInBounds_toArray, List.set_cons_zero, List.set_cons_succ])
                      go_cut [92] (fun v92 wc => ∃ (kq : Nat) (x92_24 : Bool), v92 = .bool x92_24 ∧ Aside0 (pledgelaw2_FixSays.j3 kq a0 a1 a2 a3 a4 l5 x92_24 = some r) ∧ Aside0 (kq ≤ kj19) ∧ Aside0 (Below w.heap.size w wc))
                      case first =>
                        have H := HC25.out
                        clear HC25
                        by_cases c27 : t187 = t189
                        · rw [if_pos c27] at H
                          have c27b0 : (t187 == t189) = true := beq_iff_eq.mpr c27
                          have c27b1 : (t187 != t189) = false := bne_eq_false_iff_eq.mpr c27
                          clear c27
                          (first | rw [c27b0] | (simp only [i64_w, i32_w]; rw [c27b0]) | skip)
                          have H' := Aside0.mk H
                          clear H
                          go_wp2
                          go_meet
                          case rel => exact ⟨_, ((t188 != t190)), (by first | rfl | (simp; done) | (simp [*]; done)), H', ⟨by have := HJ8.out; have := HJ14.out; have := HJ19.out; first | omega | exact Nat.le_refl _⟩, ⟨by repeat (first | (with_reducible first | exact HB.out | apply below_alloc | apply pw_below_drewN | apply below_drew1) | exact HB.out)⟩⟩
                        · rw [if_neg c27] at H
                          have c27b0 : (t187 == t189) = false := beq_eq_false_iff_ne.mpr c27
                          have c27b1 : (t187 != t189) = true := bne_iff_ne.mpr c27
                          (first | rw [c27b0] | (simp only [i64_w, i32_w]; rw [c27b0]) | skip)
                          have H' := Aside0.mk H
                          clear H
                          go_wp2
                          go_meet
                          case rel => exact ⟨_, (true), (by first | rfl | (simp; done) | (simp [*]; done)), H', ⟨by have := HJ8.out; have := HJ14.out; have := HJ19.out; first | omega | exact Nat.le_refl _⟩, ⟨by repeat (first | (with_reducible first | exact HB.out | apply below_alloc | apply pw_below_drewN | apply below_drew1) | exact HB.out)⟩⟩
                      case rest =>
                        clear HC25
                        try clear c1
                        try clear c2
                        try clear p2
                        try clear c5
                        try clear c7
                        try clear c8
                        try clear c10
                        try clear c11
                        try clear c11b0
                        try clear c11b1
                        try clear c12
                        try clear c15
                        try clear c16
                        try clear c16b0
                        try clear c16b1
                        try clear c17
                        try clear c21
                        try clear c21b0
                        try clear c21b1
                        try clear c22
                        try clear c27
                        try clear c27b0
                        try clear c27b1
                        try clear p2
                        obtain ⟨kq, x92_24, rfl, HA, HJ24, HB⟩ := hcut
                        cases kq with
                        | zero => exact absurd HA.out (by simp [pledgelaw2_FixSays.j3])
                        | succ kj24 =>
                          have H := HA.out
                          clear HA
                          simp only [pledgelaw2_FixSays.j3] at H
                          by_cases c28 : x92_24 = true
                          · subst c28
                            have H1 : (some false) = some r := by rw [if_pos rfl] at H; exact H
                            clear H
                            have H := H1
                            clear H1
                            obtain rfl := Option.some.inj H
                            go_wp2
                            go_ret
                            exact ⟨by first | rfl | (simp [errW_none, errW_some] <;> rfl) | (simp [*, errW_none, errW_some] <;> rfl), by repeat (first | (with_reducible first | exact HB.out | apply below_alloc | apply pw_below_drewN | apply below_drew1) | exact HB.out)⟩
                          · replace c28 := Bool.eq_false_iff.mpr c28
                            subst c28
                            have H1 : ((fix_Div.f kj24 a0 a1 a2 a4).bind fun bt191 => ((pledgeref1_Div.f kj24 a0 a1 a2 a4).bind fun bt193 => (if bt191.1 = bt193.1 then (pledgelaw2_FixSays.j4 kj24 a0 a1 a2 a3 l5 (bt191.2 != bt193.2)) else (pledgelaw2_FixSays.j4 kj24 a0 a1 a2 a3 l5 true)))) = some r := by rw [if_neg (show ¬ (false = true) by decide)] at H; exact H
                            clear H
                            have H := H1
                            clear H1
                            replace H := Option.bind_eq_some_iff.mp H
                            obtain ⟨⟨t191, t192⟩, A290, H⟩ := H
                            replace H : ((pledgeref1_Div.f kj24 a0 a1 a2 a4).bind fun bt193 => (if t191 = bt193.1 then (pledgelaw2_FixSays.j4 kj24 a0 a1 a2 a3 l5 (t192 != bt193.2)) else (pledgelaw2_FixSays.j4 kj24 a0 a1 a2 a3 l5 true))) = some r := H
                            have A29 := Aside0.mk A290
                            clear A290
                            replace H := Option.bind_eq_some_iff.mp H
                            obtain ⟨⟨t193, t194⟩, A300, H⟩ := H
                            replace H : (if t191 = t193 then (pledgelaw2_FixSays.j4 kj24 a0 a1 a2 a3 l5 (t192 != t194)) else (pledgelaw2_FixSays.j4 kj24 a0 a1 a2 a3 l5 true)) = some r := H
                            have A30 := Aside0.mk A300
                            clear A300
                            have HC31 := Aside0.mk H
                            clear H
                            go_upto_region 20 with (first | ((with_reducible refine gate_callee (f := 9) rfl ?_); refine goesL_ (some 98) rfl rfl Try.func9 (by kernel_rfl) rfl #[.int .i64 a0, .int .i64 a1, .int .i64 a2, .bool a4] rfl (by (try simp only [List.map_toArray, List.map_cons, List.map_nil]); first | done | rfl | (simp only [List.length_drop, List.length_take]; rfl)) ?_; (with_reducible refine (fix_Div.calls kj24 a0 a1 a2 a4 t191 t192 _ ?side1 A29.out).mono ?_); (case side1 => exact GlobOK.below HG.out (by repeat (first | (with_reducible first | exact HB.out | apply below_alloc | apply pw_below_drewN | apply below_drew1) | exact HB.out))); rintro e w32 ⟨rfl, hb⟩; refine ⟨_, rfl, ?_⟩; have n0_ := Aside0.mk (below_step (by repeat (first | (with_reducible first | exact HB.out | apply below_alloc | apply pw_below_drewN | apply below_drew1) | exact HB.out)) hb); clear HB; have HB := n0_; clear n0_; (try clear hb); (try clear hb2); (try clear hk); (try clear hi)) | ((with_reducible refine gate_callee (f := 18) rfl ?_); refine goesL_ (some 106) rfl rfl Try.func18 (by kernel_rfl) rfl #[.int .i64 a0, .int .i64 a1, .int .i64 a2, .bool a4] rfl (by (try simp only [List.map_toArray, List.map_cons, List.map_nil]); first | done | rfl | (simp only [List.length_drop, List.length_take]; rfl)) ?_; (with_reducible refine (pledgeref1_Div.calls kj24 a0 a1 a2 a4 t193 t194 _ A30.out).mono ?_); rintro e w' ⟨rfl, ⟨nd, rfl⟩⟩; refine ⟨_, rfl, ?_⟩))
                            (try simp only [Act.put, List.setIfInBounds_toArray, List.set_cons_zero, List.set_cons_succ])
                            go_cut [116] (fun v116 wc => ∃ (kq : Nat) (x116_30 : Bool), v116 = .bool x116_30 ∧ Aside0 (pledgelaw2_FixSays.j4 kq a0 a1 a2 a3 l5 x116_30 = some r) ∧ Aside0 (kq ≤ kj24) ∧ Aside0 (Below w.heap.size w wc))
                            case first =>
                              have H := HC31.out
                              clear HC31
                              by_cases c33 : t191 = t193
                              · rw [if_pos c33] at H
                                have c33b0 : (t191 == t193) = true := beq_iff_eq.mpr c33
                                have c33b1 : (t191 != t193) = false := bne_eq_false_iff_eq.mpr c33
                                clear c33
                                (first | rw [c33b0] | (simp only [i64_w, i32_w]; rw [c33b0]) | skip)
                                have H' := Aside0.mk H
                                clear H
                                go_wp2
                                go_meet
                                case rel => exact ⟨_, ((t192 != t194)), (by first | rfl | (simp; done) | (simp [*]; done)), H', ⟨by have := HJ8.out; have := HJ14.out; have := HJ19.out; have := HJ24.out; first | omega | exact Nat.le_refl _⟩, ⟨by repeat (first | (with_reducible first | exact HB.out | apply below_alloc | apply pw_below_drewN | apply below_drew1) | exact HB.out)⟩⟩
                              · rw [if_neg c33] at H
                                have c33b0 : (t191 == t193) = false := beq_eq_false_iff_ne.mpr c33
                                have c33b1 : (t191 != t193) = true := bne_iff_ne.mpr c33
                                (first | rw [c33b0] | (simp only [i64_w, i32_w]; rw [c33b0]) | skip)
                                have H' := Aside0.mk H
                                clear H
                                go_wp2
                                go_meet
                                case rel => exact ⟨_, (true), (by first | rfl | (simp; done) | (simp [*]; done)), H', ⟨by have := HJ8.out; have := HJ14.out; have := HJ19.out; have := HJ24.out; first | omega | exact Nat.le_refl _⟩, ⟨by repeat (first | (with_reducible first | exact HB.out | apply below_alloc | apply pw_below_drewN | apply below_drew1) | exact HB.out)⟩⟩
                            case rest =>
                              clear HC31
                              try clear c1
                              try clear c2
                              try clear p2
                              try clear c3
                              try clear c5
                              try clear c7
                              try clear c8
                              try clear c9
                              try clear c10
                              try clear c11
                              try clear c11b0
                              try clear c11b1
                              try clear c12
                              try clear c15
                              try clear c16
                              try clear c16b0
                              try clear c16b1
                              try clear c17
                              try clear c18
                              try clear c21
                              try clear c21b0
                              try clear c21b1
                              try clear c22
                              try clear c27
                              try clear c27b0
                              try clear c27b1
                              try clear c28
                              try clear c33
                              try clear c33b0
                              try clear c33b1
                              try clear p2
                              obtain ⟨kq, x116_30, rfl, HA, HJ30, HB⟩ := hcut
                              cases kq with
                              | zero => exact absurd HA.out (by simp [pledgelaw2_FixSays.j4])
                              | succ kj30 =>
                                have H := HA.out
                                clear HA
                                simp only [pledgelaw2_FixSays.j4] at H
                                by_cases c34 : x116_30 = true
                                · subst c34
                                  have H1 : (some false) = some r := by rw [if_pos rfl] at H; exact H
                                  clear H
                                  have H := H1
                                  clear H1
                                  obtain rfl := Option.some.inj H
                                  go_wp2
                                  go_ret
                                  exact ⟨by first | rfl | (simp [errW_none, errW_some] <;> rfl) | (simp [*, errW_none, errW_some] <;> rfl), by repeat (first | (with_reducible first | exact HB.out | apply below_alloc | apply pw_below_drewN | apply below_drew1) | exact HB.out)⟩
                                · replace c34 := Bool.eq_false_iff.mpr c34
                                  subst c34
                                  have H1 : ((fix_Sum.f kj30 l5).bind fun bt195 => ((pledgeref1_Sum.f kj30 l5).bind fun bt197 => ((fix_Wide.f (IntKind.u64.wrap (a0)) (IntKind.u64.wrap (a1))).bind fun bt199 => ((pledgeref1_Wide.f (IntKind.u64.wrap (a0)) (IntKind.u64.wrap (a1))).bind fun bt201 => (if bt195.1 = bt197.1 then (if (bt195.2 == bt197.2) = true then (if bt199.1 = bt201.1 then (if bt199.2 = bt201.2 then ((fix_Cmp.f kj30 a0 a1 a2 a3).bind fun t203 => ((pledgeref1_Cmp.f kj30 a0 a1 a2 a3).bind fun t204 => (some (t203 == t204)))) else (some false)) else (some false)) else (some false)) else (some false)))))) = some r := by rw [if_neg (show ¬ (false = true) by decide)] at H; exact H
                                  clear H
                                  have H := H1
                                  clear H1
                                  replace H := Option.bind_eq_some_iff.mp H
                                  obtain ⟨⟨t195, t196⟩, A350, H⟩ := H
                                  replace H : ((pledgeref1_Sum.f kj30 l5).bind fun bt197 => ((fix_Wide.f (IntKind.u64.wrap (a0)) (IntKind.u64.wrap (a1))).bind fun bt199 => ((pledgeref1_Wide.f (IntKind.u64.wrap (a0)) (IntKind.u64.wrap (a1))).bind fun bt201 => (if t195 = bt197.1 then (if (t196 == bt197.2) = true then (if bt199.1 = bt201.1 then (if bt199.2 = bt201.2 then ((fix_Cmp.f kj30 a0 a1 a2 a3).bind fun t203 => ((pledgeref1_Cmp.f kj30 a0 a1 a2 a3).bind fun t204 => (some (t203 == t204)))) else (some false)) else (some false)) else (some false)) else (some false))))) = some r := H
                                  have A35 := Aside0.mk A350
                                  clear A350
                                  replace H := Option.bind_eq_some_iff.mp H
                                  obtain ⟨⟨t197, t198⟩, A360, H⟩ := H
                                  replace H : ((fix_Wide.f (IntKind.u64.wrap (a0)) (IntKind.u64.wrap (a1))).bind fun bt199 => ((pledgeref1_Wide.f (IntKind.u64.wrap (a0)) (IntKind.u64.wrap (a1))).bind fun bt201 => (if t195 = t197 then (if (t196 == t198) = true then (if bt199.1 = bt201.1 then (if bt199.2 = bt201.2 then ((fix_Cmp.f kj30 a0 a1 a2 a3).bind fun t203 => ((pledgeref1_Cmp.f kj30 a0 a1 a2 a3).bind fun t204 => (some (t203 == t204)))) else (some false)) else (some false)) else (some false)) else (some false)))) = some r := H
                                  have A36 := Aside0.mk A360
                                  clear A360
                                  replace H := Option.bind_eq_some_iff.mp H
                                  obtain ⟨⟨t199, t200⟩, A370, H⟩ := H
                                  replace H : ((pledgeref1_Wide.f (IntKind.u64.wrap (a0)) (IntKind.u64.wrap (a1))).bind fun bt201 => (if t195 = t197 then (if (t196 == t198) = true then (if t199 = bt201.1 then (if t200 = bt201.2 then ((fix_Cmp.f kj30 a0 a1 a2 a3).bind fun t203 => ((pledgeref1_Cmp.f kj30 a0 a1 a2 a3).bind fun t204 => (some (t203 == t204)))) else (some false)) else (some false)) else (some false)) else (some false))) = some r := H
                                  have A37 := Aside0.mk A370
                                  clear A370
                                  replace H := Option.bind_eq_some_iff.mp H
                                  obtain ⟨⟨t201, t202⟩, A380, H⟩ := H
                                  replace H : (if t195 = t197 then (if (t196 == t198) = true then (if t199 = t201 then (if t200 = t202 then ((fix_Cmp.f kj30 a0 a1 a2 a3).bind fun t203 => ((pledgeref1_Cmp.f kj30 a0 a1 a2 a3).bind fun t204 => (some (t203 == t204)))) else (some false)) else (some false)) else (some false)) else (some false)) = some r := H
                                  have A38 := Aside0.mk A380
                                  clear A380
                                  by_cases c39 : t195 = t197
                                  · rw [if_pos c39] at H
                                    have c39b0 : (t195 == t197) = true := beq_iff_eq.mpr c39
                                    have c39b1 : (t195 != t197) = false := bne_eq_false_iff_eq.mpr c39
                                    clear c39
                                    by_cases c40 : (t196 == t198) = true
                                    · rw [if_pos c40] at H
                                      have c40b0 : (t196 == t198) = true := c40
                                      (try (have c40b1 : decide (t196 = t198) = true := by simpa using c40))
                                      (try (have c40b2 : (t196 == t198) = true := by simpa using c40))
                                      clear c40
                                      by_cases c41 : t199 = t201
                                      · rw [if_pos c41] at H
                                        have c41b0 : (t199 == t201) = true := beq_iff_eq.mpr c41
                                        have c41b1 : (t199 != t201) = false := bne_eq_false_iff_eq.mpr c41
                                        clear c41
                                        by_cases c42 : t200 = t202
                                        · rw [if_pos c42] at H
                                          have c42b0 : (t200 == t202) = true := beq_iff_eq.mpr c42
                                          have c42b1 : (t200 != t202) = false := bne_eq_false_iff_eq.mpr c42
                                          clear c42
                                          replace H := Option.bind_eq_some_iff.mp H
                                          obtain ⟨t203, A430, H⟩ := H
                                          replace H : ((pledgeref1_Cmp.f kj30 a0 a1 a2 a3).bind fun t204 => (some (t203 == t204))) = some r := H
                                          have A43 := Aside0.mk A430
                                          clear A430
                                          replace H := Option.bind_eq_some_iff.mp H
                                          obtain ⟨t204, A440, H⟩ := H
                                          replace H : (some (t203 == t204)) = some r := H
                                          have A44 := Aside0.mk A440
                                          clear A440
                                          obtain rfl := Option.some.inj H
                                          go_wp2_with (first | ((with_reducible refine gate_callee (f := 14) rfl ?_); refine goesL_ (some 119) rfl rfl Try.func14 (by kernel_rfl) rfl #[.slice A5 l5.length c5] rfl (by (try simp only [List.map_toArray, List.map_cons, List.map_nil]); first | done | rfl | (simp only [List.length_drop, List.length_take]; rfl)) ?_; (with_reducible refine (fix_Sum.calls kj30 _ _ l5 t195 t196 _ ?side1 ?side2 A35.out).mono ?_); (case side1 => repeat (first | exact (Kd.C_below HR5.out HB.out) | (with_reducible refine Kd.C_alloc ?_ _) | (with_reducible refine Kd.C_drewN ?_ _) | (with_reducible refine Kd.C_drew ?_))); (case side2 => exact HC5.out); rintro e w45 ⟨rfl, hb⟩; refine ⟨_, rfl, ?_⟩; have n0_ := Aside0.mk (below_step (by repeat (first | (with_reducible first | exact HB.out | apply below_alloc | apply pw_below_drewN | apply below_drew1) | exact HB.out)) hb); clear HB; have HB := n0_; clear n0_; (try clear hb); (try clear hb2); (try clear hk); (try clear hi)) | ((with_reducible refine gate_callee (f := 19) rfl ?_); refine goesL_ (some 124) rfl rfl Try.func19 (by kernel_rfl) rfl #[.slice A5 l5.length c5] rfl (by (try simp only [List.map_toArray, List.map_cons, List.map_nil]); first | done | rfl | (simp only [List.length_drop, List.length_take]; rfl)) ?_; (with_reducible refine (pledgeref1_Sum.calls kj30 _ _ l5 t197 t198 _ ?side1 ?side2 A36.out).mono ?_); (case side1 => repeat (first | exact (Kd.C_below HR5.out HB.out) | (with_reducible refine Kd.C_alloc ?_ _) | (with_reducible refine Kd.C_drewN ?_ _) | (with_reducible refine Kd.C_drew ?_))); (case side2 => exact HC5.out); rintro e w' ⟨rfl, ⟨nd, rfl⟩⟩; refine ⟨_, rfl, ?_⟩) | ((with_reducible refine gate_callee (f := 20) rfl ?_); refine goesL_ (some 132) rfl rfl Try.func20 (by kernel_rfl) rfl #[.int .u64 (IntKind.u64.wrap (a0)), .int .u64 (IntKind.u64.wrap (a1))] rfl (by (try simp only [List.map_toArray, List.map_cons, List.map_nil]); first | done | rfl | (simp only [List.length_drop, List.length_take]; rfl)) ?_; (with_reducible refine (fix_Wide.calls (IntKind.u64.wrap (a0)) (IntKind.u64.wrap (a1)) t199 t200 _ A37.out).mono ?_); rintro e w' ⟨rfl, ⟨nd, rfl⟩⟩; refine ⟨_, rfl, ?_⟩) | ((with_reducible refine gate_callee (f := 21) rfl ?_); refine goesL_ (some 140) rfl rfl Try.func21 (by kernel_rfl) rfl #[.int .u64 (IntKind.u64.wrap (a0)), .int .u64 (IntKind.u64.wrap (a1))] rfl (by (try simp only [List.map_toArray, List.map_cons, List.map_nil]); first | done | rfl | (simp only [List.length_drop, List.length_take]; rfl)) ?_; (with_reducible refine (pledgeref1_Wide.calls (IntKind.u64.wrap (a0)) (IntKind.u64.wrap (a1)) t201 t202 _ A38.out).mono ?_); rintro e w' ⟨rfl, ⟨nd, rfl⟩⟩; refine ⟨_, rfl, ?_⟩) | (go_at_call 22; (with_reducible refine (fix_Cmp.calls kj30 a0 a1 a2 a3 t203 _ A43.out).mono ?_); rintro e w46 ⟨rfl, hb⟩; have n0_ := Aside0.mk (below_step (by repeat (first | (with_reducible first | exact HB.out | apply below_alloc | apply pw_below_drewN | apply below_drew1) | exact HB.out)) hb); clear HB; have HB := n0_; clear n0_; (try clear hb); (try clear hb2); (try clear hk); (try clear hi)) | (go_at_call 23; (with_reducible refine (pledgeref1_Cmp.calls kj30 a0 a1 a2 a3 t204 _ A44.out).mono ?_); rintro e w' ⟨rfl, ⟨nd, rfl⟩⟩))
                                          go_ret
                                          exact ⟨by first | rfl | (simp [errW_none, errW_some] <;> rfl) | (simp [*, errW_none, errW_some] <;> rfl), by repeat (first | (with_reducible first | exact HB.out | apply below_alloc | apply pw_below_drewN | apply below_drew1) | exact HB.out)⟩
                                        · rw [if_neg c42] at H
                                          have c42b0 : (t200 == t202) = false := beq_eq_false_iff_ne.mpr c42
                                          have c42b1 : (t200 != t202) = true := bne_iff_ne.mpr c42
                                          obtain rfl := Option.some.inj H
                                          go_wp2_with (first | ((with_reducible refine gate_callee (f := 14) rfl ?_); refine goesL_ (some 119) rfl rfl Try.func14 (by kernel_rfl) rfl #[.slice A5 l5.length c5] rfl (by (try simp only [List.map_toArray, List.map_cons, List.map_nil]); first | done | rfl | (simp only [List.length_drop, List.length_take]; rfl)) ?_; (with_reducible refine (fix_Sum.calls kj30 _ _ l5 t195 t196 _ ?side1 ?side2 A35.out).mono ?_); (case side1 => repeat (first | exact (Kd.C_below HR5.out HB.out) | (with_reducible refine Kd.C_alloc ?_ _) | (with_reducible refine Kd.C_drewN ?_ _) | (with_reducible refine Kd.C_drew ?_))); (case side2 => exact HC5.out); rintro e w47 ⟨rfl, hb⟩; refine ⟨_, rfl, ?_⟩; have n0_ := Aside0.mk (below_step (by repeat (first | (with_reducible first | exact HB.out | apply below_alloc | apply pw_below_drewN | apply below_drew1) | exact HB.out)) hb); clear HB; have HB := n0_; clear n0_; (try clear hb); (try clear hb2); (try clear hk); (try clear hi)) | ((with_reducible refine gate_callee (f := 19) rfl ?_); refine goesL_ (some 124) rfl rfl Try.func19 (by kernel_rfl) rfl #[.slice A5 l5.length c5] rfl (by (try simp only [List.map_toArray, List.map_cons, List.map_nil]); first | done | rfl | (simp only [List.length_drop, List.length_take]; rfl)) ?_; (with_reducible refine (pledgeref1_Sum.calls kj30 _ _ l5 t197 t198 _ ?side1 ?side2 A36.out).mono ?_); (case side1 => repeat (first | exact (Kd.C_below HR5.out HB.out) | (with_reducible refine Kd.C_alloc ?_ _) | (with_reducible refine Kd.C_drewN ?_ _) | (with_reducible refine Kd.C_drew ?_))); (case side2 => exact HC5.out); rintro e w' ⟨rfl, ⟨nd, rfl⟩⟩; refine ⟨_, rfl, ?_⟩) | ((with_reducible refine gate_callee (f := 20) rfl ?_); refine goesL_ (some 132) rfl rfl Try.func20 (by kernel_rfl) rfl #[.int .u64 (IntKind.u64.wrap (a0)), .int .u64 (IntKind.u64.wrap (a1))] rfl (by (try simp only [List.map_toArray, List.map_cons, List.map_nil]); first | done | rfl | (simp only [List.length_drop, List.length_take]; rfl)) ?_; (with_reducible refine (fix_Wide.calls (IntKind.u64.wrap (a0)) (IntKind.u64.wrap (a1)) t199 t200 _ A37.out).mono ?_); rintro e w' ⟨rfl, ⟨nd, rfl⟩⟩; refine ⟨_, rfl, ?_⟩) | ((with_reducible refine gate_callee (f := 21) rfl ?_); refine goesL_ (some 140) rfl rfl Try.func21 (by kernel_rfl) rfl #[.int .u64 (IntKind.u64.wrap (a0)), .int .u64 (IntKind.u64.wrap (a1))] rfl (by (try simp only [List.map_toArray, List.map_cons, List.map_nil]); first | done | rfl | (simp only [List.length_drop, List.length_take]; rfl)) ?_; (with_reducible refine (pledgeref1_Wide.calls (IntKind.u64.wrap (a0)) (IntKind.u64.wrap (a1)) t201 t202 _ A38.out).mono ?_); rintro e w' ⟨rfl, ⟨nd, rfl⟩⟩; refine ⟨_, rfl, ?_⟩))
                                          go_ret
                                          exact ⟨by first | rfl | (simp [errW_none, errW_some] <;> rfl) | (simp [*, errW_none, errW_some] <;> rfl), by repeat (first | (with_reducible first | exact HB.out | apply below_alloc | apply pw_below_drewN | apply below_drew1) | exact HB.out)⟩
                                      · rw [if_neg c41] at H
                                        have c41b0 : (t199 == t201) = false := beq_eq_false_iff_ne.mpr c41
                                        have c41b1 : (t199 != t201) = true := bne_iff_ne.mpr c41
                                        obtain rfl := Option.some.inj H
                                        go_wp2_with (first | ((with_reducible refine gate_callee (f := 14) rfl ?_); refine goesL_ (some 119) rfl rfl Try.func14 (by kernel_rfl) rfl #[.slice A5 l5.length c5] rfl (by (try simp only [List.map_toArray, List.map_cons, List.map_nil]); first | done | rfl | (simp only [List.length_drop, List.length_take]; rfl)) ?_; (with_reducible refine (fix_Sum.calls kj30 _ _ l5 t195 t196 _ ?side1 ?side2 A35.out).mono ?_); (case side1 => repeat (first | exact (Kd.C_below HR5.out HB.out) | (with_reducible refine Kd.C_alloc ?_ _) | (with_reducible refine Kd.C_drewN ?_ _) | (with_reducible refine Kd.C_drew ?_))); (case side2 => exact HC5.out); rintro e w48 ⟨rfl, hb⟩; refine ⟨_, rfl, ?_⟩; have n0_ := Aside0.mk (below_step (by repeat (first | (with_reducible first | exact HB.out | apply below_alloc | apply pw_below_drewN | apply below_drew1) | exact HB.out)) hb); clear HB; have HB := n0_; clear n0_; (try clear hb); (try clear hb2); (try clear hk); (try clear hi)) | ((with_reducible refine gate_callee (f := 19) rfl ?_); refine goesL_ (some 124) rfl rfl Try.func19 (by kernel_rfl) rfl #[.slice A5 l5.length c5] rfl (by (try simp only [List.map_toArray, List.map_cons, List.map_nil]); first | done | rfl | (simp only [List.length_drop, List.length_take]; rfl)) ?_; (with_reducible refine (pledgeref1_Sum.calls kj30 _ _ l5 t197 t198 _ ?side1 ?side2 A36.out).mono ?_); (case side1 => repeat (first | exact (Kd.C_below HR5.out HB.out) | (with_reducible refine Kd.C_alloc ?_ _) | (with_reducible refine Kd.C_drewN ?_ _) | (with_reducible refine Kd.C_drew ?_))); (case side2 => exact HC5.out); rintro e w' ⟨rfl, ⟨nd, rfl⟩⟩; refine ⟨_, rfl, ?_⟩) | ((with_reducible refine gate_callee (f := 20) rfl ?_); refine goesL_ (some 132) rfl rfl Try.func20 (by kernel_rfl) rfl #[.int .u64 (IntKind.u64.wrap (a0)), .int .u64 (IntKind.u64.wrap (a1))] rfl (by (try simp only [List.map_toArray, List.map_cons, List.map_nil]); first | done | rfl | (simp only [List.length_drop, List.length_take]; rfl)) ?_; (with_reducible refine (fix_Wide.calls (IntKind.u64.wrap (a0)) (IntKind.u64.wrap (a1)) t199 t200 _ A37.out).mono ?_); rintro e w' ⟨rfl, ⟨nd, rfl⟩⟩; refine ⟨_, rfl, ?_⟩) | ((with_reducible refine gate_callee (f := 21) rfl ?_); refine goesL_ (some 140) rfl rfl Try.func21 (by kernel_rfl) rfl #[.int .u64 (IntKind.u64.wrap (a0)), .int .u64 (IntKind.u64.wrap (a1))] rfl (by (try simp only [List.map_toArray, List.map_cons, List.map_nil]); first | done | rfl | (simp only [List.length_drop, List.length_take]; rfl)) ?_; (with_reducible refine (pledgeref1_Wide.calls (IntKind.u64.wrap (a0)) (IntKind.u64.wrap (a1)) t201 t202 _ A38.out).mono ?_); rintro e w' ⟨rfl, ⟨nd, rfl⟩⟩; refine ⟨_, rfl, ?_⟩))
                                        go_ret
                                        exact ⟨by first | rfl | (simp [errW_none, errW_some] <;> rfl) | (simp [*, errW_none, errW_some] <;> rfl), by repeat (first | (with_reducible first | exact HB.out | apply below_alloc | apply pw_below_drewN | apply below_drew1) | exact HB.out)⟩
                                    · rw [if_neg c40] at H
                                      have c40b0 : (t196 == t198) = false := by simpa using c40
                                      (try (have c40b1 : decide (t196 = t198) = false := by simpa using c40))
                                      (try (have c40b2 : (t196 == t198) = false := by simpa using c40))
                                      (try (have c40b3 : ¬ (t196 = t198) := by simpa using c40))
                                      clear c40
                                      obtain rfl := Option.some.inj H
                                      go_wp2_with (first | ((with_reducible refine gate_callee (f := 14) rfl ?_); refine goesL_ (some 119) rfl rfl Try.func14 (by kernel_rfl) rfl #[.slice A5 l5.length c5] rfl (by (try simp only [List.map_toArray, List.map_cons, List.map_nil]); first | done | rfl | (simp only [List.length_drop, List.length_take]; rfl)) ?_; (with_reducible refine (fix_Sum.calls kj30 _ _ l5 t195 t196 _ ?side1 ?side2 A35.out).mono ?_); (case side1 => repeat (first | exact (Kd.C_below HR5.out HB.out) | (with_reducible refine Kd.C_alloc ?_ _) | (with_reducible refine Kd.C_drewN ?_ _) | (with_reducible refine Kd.C_drew ?_))); (case side2 => exact HC5.out); rintro e w49 ⟨rfl, hb⟩; refine ⟨_, rfl, ?_⟩; have n0_ := Aside0.mk (below_step (by repeat (first | (with_reducible first | exact HB.out | apply below_alloc | apply pw_below_drewN | apply below_drew1) | exact HB.out)) hb); clear HB; have HB := n0_; clear n0_; (try clear hb); (try clear hb2); (try clear hk); (try clear hi)) | ((with_reducible refine gate_callee (f := 19) rfl ?_); refine goesL_ (some 124) rfl rfl Try.func19 (by kernel_rfl) rfl #[.slice A5 l5.length c5] rfl (by (try simp only [List.map_toArray, List.map_cons, List.map_nil]); first | done | rfl | (simp only [List.length_drop, List.length_take]; rfl)) ?_; (with_reducible refine (pledgeref1_Sum.calls kj30 _ _ l5 t197 t198 _ ?side1 ?side2 A36.out).mono ?_); (case side1 => repeat (first | exact (Kd.C_below HR5.out HB.out) | (with_reducible refine Kd.C_alloc ?_ _) | (with_reducible refine Kd.C_drewN ?_ _) | (with_reducible refine Kd.C_drew ?_))); (case side2 => exact HC5.out); rintro e w' ⟨rfl, ⟨nd, rfl⟩⟩; refine ⟨_, rfl, ?_⟩) | ((with_reducible refine gate_callee (f := 20) rfl ?_); refine goesL_ (some 132) rfl rfl Try.func20 (by kernel_rfl) rfl #[.int .u64 (IntKind.u64.wrap (a0)), .int .u64 (IntKind.u64.wrap (a1))] rfl (by (try simp only [List.map_toArray, List.map_cons, List.map_nil]); first | done | rfl | (simp only [List.length_drop, List.length_take]; rfl)) ?_; (with_reducible refine (fix_Wide.calls (IntKind.u64.wrap (a0)) (IntKind.u64.wrap (a1)) t199 t200 _ A37.out).mono ?_); rintro e w' ⟨rfl, ⟨nd, rfl⟩⟩; refine ⟨_, rfl, ?_⟩) | ((with_reducible refine gate_callee (f := 21) rfl ?_); refine goesL_ (some 140) rfl rfl Try.func21 (by kernel_rfl) rfl #[.int .u64 (IntKind.u64.wrap (a0)), .int .u64 (IntKind.u64.wrap (a1))] rfl (by (try simp only [List.map_toArray, List.map_cons, List.map_nil]); first | done | rfl | (simp only [List.length_drop, List.length_take]; rfl)) ?_; (with_reducible refine (pledgeref1_Wide.calls (IntKind.u64.wrap (a0)) (IntKind.u64.wrap (a1)) t201 t202 _ A38.out).mono ?_); rintro e w' ⟨rfl, ⟨nd, rfl⟩⟩; refine ⟨_, rfl, ?_⟩))
                                      go_ret
                                      exact ⟨by first | rfl | (simp [errW_none, errW_some] <;> rfl) | (simp [*, errW_none, errW_some] <;> rfl), by repeat (first | (with_reducible first | exact HB.out | apply below_alloc | apply pw_below_drewN | apply below_drew1) | exact HB.out)⟩
                                  · rw [if_neg c39] at H
                                    have c39b0 : (t195 == t197) = false := beq_eq_false_iff_ne.mpr c39
                                    have c39b1 : (t195 != t197) = true := bne_iff_ne.mpr c39
                                    obtain rfl := Option.some.inj H
                                    go_wp2_with (first | ((with_reducible refine gate_callee (f := 14) rfl ?_); refine goesL_ (some 119) rfl rfl Try.func14 (by kernel_rfl) rfl #[.slice A5 l5.length c5] rfl (by (try simp only [List.map_toArray, List.map_cons, List.map_nil]); first | done | rfl | (simp only [List.length_drop, List.length_take]; rfl)) ?_; (with_reducible refine (fix_Sum.calls kj30 _ _ l5 t195 t196 _ ?side1 ?side2 A35.out).mono ?_); (case side1 => repeat (first | exact (Kd.C_below HR5.out HB.out) | (with_reducible refine Kd.C_alloc ?_ _) | (with_reducible refine Kd.C_drewN ?_ _) | (with_reducible refine Kd.C_drew ?_))); (case side2 => exact HC5.out); rintro e w50 ⟨rfl, hb⟩; refine ⟨_, rfl, ?_⟩; have n0_ := Aside0.mk (below_step (by repeat (first | (with_reducible first | exact HB.out | apply below_alloc | apply pw_below_drewN | apply below_drew1) | exact HB.out)) hb); clear HB; have HB := n0_; clear n0_; (try clear hb); (try clear hb2); (try clear hk); (try clear hi)) | ((with_reducible refine gate_callee (f := 19) rfl ?_); refine goesL_ (some 124) rfl rfl Try.func19 (by kernel_rfl) rfl #[.slice A5 l5.length c5] rfl (by (try simp only [List.map_toArray, List.map_cons, List.map_nil]); first | done | rfl | (simp only [List.length_drop, List.length_take]; rfl)) ?_; (with_reducible refine (pledgeref1_Sum.calls kj30 _ _ l5 t197 t198 _ ?side1 ?side2 A36.out).mono ?_); (case side1 => repeat (first | exact (Kd.C_below HR5.out HB.out) | (with_reducible refine Kd.C_alloc ?_ _) | (with_reducible refine Kd.C_drewN ?_ _) | (with_reducible refine Kd.C_drew ?_))); (case side2 => exact HC5.out); rintro e w' ⟨rfl, ⟨nd, rfl⟩⟩; refine ⟨_, rfl, ?_⟩) | ((with_reducible refine gate_callee (f := 20) rfl ?_); refine goesL_ (some 132) rfl rfl Try.func20 (by kernel_rfl) rfl #[.int .u64 (IntKind.u64.wrap (a0)), .int .u64 (IntKind.u64.wrap (a1))] rfl (by (try simp only [List.map_toArray, List.map_cons, List.map_nil]); first | done | rfl | (simp only [List.length_drop, List.length_take]; rfl)) ?_; (with_reducible refine (fix_Wide.calls (IntKind.u64.wrap (a0)) (IntKind.u64.wrap (a1)) t199 t200 _ A37.out).mono ?_); rintro e w' ⟨rfl, ⟨nd, rfl⟩⟩; refine ⟨_, rfl, ?_⟩) | ((with_reducible refine gate_callee (f := 21) rfl ?_); refine goesL_ (some 140) rfl rfl Try.func21 (by kernel_rfl) rfl #[.int .u64 (IntKind.u64.wrap (a0)), .int .u64 (IntKind.u64.wrap (a1))] rfl (by (try simp only [List.map_toArray, List.map_cons, List.map_nil]); first | done | rfl | (simp only [List.length_drop, List.length_take]; rfl)) ?_; (with_reducible refine (pledgeref1_Wide.calls (IntKind.u64.wrap (a0)) (IntKind.u64.wrap (a1)) t201 t202 _ A38.out).mono ?_); rintro e w' ⟨rfl, ⟨nd, rfl⟩⟩; refine ⟨_, rfl, ?_⟩))
                                    go_ret
                                    exact ⟨by first | rfl | (simp [errW_none, errW_some] <;> rfl) | (simp [*, errW_none, errW_some] <;> rfl), by repeat (first | (with_reducible first | exact HB.out | apply below_alloc | apply pw_below_drewN | apply below_drew1) | exact HB.out)⟩
  · replace c8 := Bool.eq_false_iff.mpr c8
    subst c8
    have H1 : (some false) = some r := by rw [if_neg (show ¬ (false = true) by decide)] at H; exact H
    clear H
    have H := H1
    clear H1
    obtain rfl := Option.some.inj H
    go_enter Try.func7, Try.ntmps7
    go_wp2_with (first | ((with_reducible refine gate_callee (f := 8) rfl ?_); refine goesL_ (some 22) rfl rfl Try.func8 (by kernel_rfl) rfl #[] rfl (by (try simp only [List.map_toArray, List.map_cons, List.map_nil]); first | done | rfl | (simp only [List.length_drop, List.length_take]; rfl)) ?_; (with_reducible refine (pledgelaw2_first.calls k  false _ ?side1 A7.out).mono ?_); (case side1 => exact GlobOK.below HG.out (by repeat (first | (with_reducible first | exact HB.out | apply below_alloc | apply pw_below_drewN | apply below_drew1) | exact HB.out))); rintro e w51 ⟨rfl, hb⟩; refine ⟨_, rfl, ?_⟩; have n0_ := Aside0.mk (below_step (by repeat (first | (with_reducible first | exact HB.out | apply below_alloc | apply pw_below_drewN | apply below_drew1) | exact HB.out)) hb); clear HB; have HB := n0_; clear n0_; (try clear hb); (try clear hb2); (try clear hk); (try clear hi)))
    go_ret
    exact ⟨by first | rfl | (simp [errW_none, errW_some] <;> rfl) | (simp [*, errW_none, errW_some] <;> rfl), by repeat (first | (with_reducible first | exact HB.out | apply below_alloc | apply pw_below_drewN | apply below_drew1) | exact HB.out)⟩

/-- The pure statement of pledgelaw2_FixSays: numbers and lists alone. -/
def pledgelaw2_FixSays.Pure : Prop := ∀ (a0 : Int) (a1 : Int) (a2 : Int) (a3 : Int) (a4 : Bool) (l5 : List Int), Rng .i64 a0 → Rng .i64 a1 → Rng .i64 a2 → Rng .i64 a3 → l5.length * 8 ≤ 140737488351232 → (l5.length ≤ maxLen ∧ ∀ x ∈ l5, Rng .i64 x) → ∃ k, pledgelaw2_FixSays.f k a0 a1 a2 a3 a4 l5 = some true

end Go.Proofs.Ytjfemoebahnbnaa.EFixSays
