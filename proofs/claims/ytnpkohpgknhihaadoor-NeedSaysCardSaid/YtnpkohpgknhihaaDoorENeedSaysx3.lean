/- The functions that the law comes to, as plain functions, and for each a proof that the Go code comes to just these answers. Written by a program of this claim. Conditions: each theorem bears its own. -/
import Derived.Test.YtnpkohpgknhihaaDoorENeedSaysx0
import Derived.Test.YtnpkohpgknhihaaDoorENeedSaysx1
import Derived.Test.YtnpkohpgknhihaaDoorENeedSaysx2
namespace Go.Proofs.YtnpkohpgknhihaaDoor.ENeedSays
open Go.RowKit Go.Proofs.YtnpkohpgknhihaaDoorW.PrintWords Go.Proofs.YtnpkohpgknhihaaDoorW.PrintLast Go.Proofs.YtnpkohpgknhihaaDoorW.PrintMore Go.Proofs.YtnpkohpgknhihaaDoorW.PrintOpen
attribute [local go_sem] max2_int min2_int max_two min_two max_three min_three max_four min_four   -- for this text's walks alone
set_option linter.unusedVariables false
set_option linter.unusedSimpArgs false

/-! ### pledgelaw17_NeedSays: function 5 -/
mutual
def pledgelaw17_NeedSays.j0 : Nat → List (S23) → Bool → Bool → Option (Bool)
  | 0, _, _, _ => none
  | k + 1, x0, x3, x25 => if x25 = true then (some x3) else (pledgelaw17_NeedSays.l0 k x0 (-1) 0 0 true 0)
def pledgelaw17_NeedSays.l0 : Nat → List (S23) → Int → Int → Int → Bool → Int → Option (Bool)
  | 0, _, _, _, _, _, _ => none
  | k + 1, x0, x4, x5, x6, x7, x8 => if x8 < (x0.length : Int) then (if 0 ≤ x8 then ((pledgelaw17_valid.f ((rd_T23 x0 x8).f0) ((rd_T23 x0 x8).f1)).bind fun t162 => (if x7 = true then (pledgelaw17_NeedSays.j2 k x0 x4 x5 x6 t162 x8 t162 ((rd_T23 x0 x8).f0) ((rd_T23 x0 x8).f1)) else (pledgelaw17_NeedSays.j2 k x0 x4 x5 x6 false x8 t162 ((rd_T23 x0 x8).f0) ((rd_T23 x0 x8).f1)))) else (none)) else ((need_Total.f k x0).bind fun bt173 => (if x7 = true then ((need_Worst.f k x0).bind fun bt176 => (if (bt176.2 != (decide (x4 ≥ 0))) = true then (pledgelaw17_NeedSays.j5 k x6 bt173.1 bt173.2 true) else (if bt176.2 = true then (pledgelaw17_NeedSays.j5 k x6 bt173.1 bt173.2 (bt176.1 != x4)) else (pledgelaw17_NeedSays.j5 k x6 bt173.1 bt173.2 false)))) else (if bt173.1 = 0 then ((pledgesee_Is.f bt173.2 103).bind fun t175 => (some t175)) else (some false))))
def pledgelaw17_NeedSays.j2 : Nat → List (S23) → Int → Int → Int → Bool → Int → Bool → Int → Int → Option (Bool)
  | 0, _, _, _, _, _, _, _, _, _ => none
  | k + 1, x0, x4, x5, x6, x7, x8, x10, x162000, x162001 => (need_Valid.f x162000 x162001).bind fun t163 => (if t163.isNone = true then (if (true != x10) = true then (pledgelaw17_NeedSays.j3 k x0 x4 x5 x6 x7 x8 x10 true x162000 x162001) else (if x10 = true then (pledgelaw17_NeedSays.j3 k x0 x4 x5 x6 x7 x8 x10 false x162000 x162001) else ((need_Valid.f x162000 x162001).bind fun t165 => ((pledgesee_Is.f t165 103).bind fun t166 => (pledgelaw17_NeedSays.j3 k x0 x4 x5 x6 x7 x8 x10 (!t166) x162000 x162001))))) else (if (false != x10) = true then (pledgelaw17_NeedSays.j3 k x0 x4 x5 x6 x7 x8 x10 true x162000 x162001) else (if x10 = true then (pledgelaw17_NeedSays.j3 k x0 x4 x5 x6 x7 x8 x10 false x162000 x162001) else ((need_Valid.f x162000 x162001).bind fun t167 => ((pledgesee_Is.f t167 103).bind fun t168 => (pledgelaw17_NeedSays.j3 k x0 x4 x5 x6 x7 x8 x10 (!t168) x162000 x162001))))))
def pledgelaw17_NeedSays.j3 : Nat → List (S23) → Int → Int → Int → Bool → Int → Bool → Bool → Int → Int → Option (Bool)
  | 0, _, _, _, _, _, _, _, _, _, _ => none
  | k + 1, x0, x4, x5, x6, x7, x8, x10, x57, x162000, x162001 => if x57 = true then (some false) else (if x10 = true then ((pledgeref10_Short.f x162000 x162001).bind fun t169 => ((need_Short.f x162000 x162001).bind fun t170 => (if t170 = t169 then ((need_Bound.f x162000 x162001).bind fun t171 => (if (t171 != (decide (t169 > 0))) = true then (pledgelaw17_NeedSays.j4 k x0 x4 x5 x6 x7 x8 t169 true) else ((need_Spare.f x162000 x162001).bind fun t172 => (pledgelaw17_NeedSays.j4 k x0 x4 x5 x6 x7 x8 t169 (t172 != (mx 0 (wrap64 (x162001 - x162000)))))))) else (pledgelaw17_NeedSays.j4 k x0 x4 x5 x6 x7 x8 t169 true)))) else (pledgelaw17_NeedSays.l0 k x0 x4 x5 x6 x7 (wrap64 (x8 + 1))))
def pledgelaw17_NeedSays.j4 : Nat → List (S23) → Int → Int → Int → Bool → Int → Int → Bool → Option (Bool)
  | 0, _, _, _, _, _, _, _, _ => none
  | k + 1, x0, x4, x5, x6, x7, x8, x11, x86 => if x86 = true then (some false) else (if x11 > x5 then (pledgelaw17_NeedSays.l0 k x0 x8 x11 (wrap64 (x6 + x11)) x7 (wrap64 (x8 + 1))) else (pledgelaw17_NeedSays.l0 k x0 x4 x5 (wrap64 (x6 + x11)) x7 (wrap64 (x8 + 1))))
def pledgelaw17_NeedSays.j5 : Nat → Int → Int → Option Int → Bool → Option (Bool)
  | 0, _, _, _, _ => none
  | k + 1, x6, x12, x13, x124 => if x124 = true then (some false) else (if x6 > 1000000000000000 then (if x12 = 0 then ((pledgesee_Is.f x13 104).bind fun t178 => (some t178)) else (some false)) else (if x13.isNone = true then (some (x12 == x6)) else (some false)))
end
def pledgelaw17_NeedSays.f (k : Nat) (l0 : List (S23)) : Option (Bool) := (pledgelaw17_first.f).bind fun t159 => (if t159 = true then (if (l0.length : Int) > 40 then (pledgelaw17_NeedSays.j0 k l0 t159 true) else (pledgelaw17_NeedSays.j0 k l0 t159 (!t159))) else (some false))
theorem pledgelaw17_NeedSays.mono_l : ∀ k, (∀ y0 y1 y2, LeO (pledgelaw17_NeedSays.j0 k y0 y1 y2) (pledgelaw17_NeedSays.j0 (k + 1) y0 y1 y2)) ∧ (∀ y0 y1 y2 y3 y4 y5, LeO (pledgelaw17_NeedSays.l0 k y0 y1 y2 y3 y4 y5) (pledgelaw17_NeedSays.l0 (k + 1) y0 y1 y2 y3 y4 y5)) ∧ (∀ y0 y1 y2 y3 y4 y5 y6 y7 y8, LeO (pledgelaw17_NeedSays.j2 k y0 y1 y2 y3 y4 y5 y6 y7 y8) (pledgelaw17_NeedSays.j2 (k + 1) y0 y1 y2 y3 y4 y5 y6 y7 y8)) ∧ (∀ y0 y1 y2 y3 y4 y5 y6 y7 y8 y9, LeO (pledgelaw17_NeedSays.j3 k y0 y1 y2 y3 y4 y5 y6 y7 y8 y9) (pledgelaw17_NeedSays.j3 (k + 1) y0 y1 y2 y3 y4 y5 y6 y7 y8 y9)) ∧ (∀ y0 y1 y2 y3 y4 y5 y6 y7, LeO (pledgelaw17_NeedSays.j4 k y0 y1 y2 y3 y4 y5 y6 y7) (pledgelaw17_NeedSays.j4 (k + 1) y0 y1 y2 y3 y4 y5 y6 y7)) ∧ (∀ y0 y1 y2 y3, LeO (pledgelaw17_NeedSays.j5 k y0 y1 y2 y3) (pledgelaw17_NeedSays.j5 (k + 1) y0 y1 y2 y3))
  | 0 => ⟨fun _ _ _ r h => by simp [pledgelaw17_NeedSays.j0] at h, fun _ _ _ _ _ _ r h => by simp [pledgelaw17_NeedSays.l0] at h, fun _ _ _ _ _ _ _ _ _ r h => by simp [pledgelaw17_NeedSays.j2] at h, fun _ _ _ _ _ _ _ _ _ _ r h => by simp [pledgelaw17_NeedSays.j3] at h, fun _ _ _ _ _ _ _ _ r h => by simp [pledgelaw17_NeedSays.j4] at h, fun _ _ _ _ r h => by simp [pledgelaw17_NeedSays.j5] at h⟩
  | k + 1 => by
    obtain ⟨ih0, ih1, ih2, ih3, ih4, ih5⟩ := pledgelaw17_NeedSays.mono_l k
    refine ⟨?_, ?_, ?_, ?_, ?_, ?_⟩
    · intro y0 y1 y2
      unfold pledgelaw17_NeedSays.j0
      repeat' first
      | (with_reducible exact ih0 _ _ _)
      | (with_reducible exact ih1 _ _ _ _ _ _)
      | (with_reducible exact ih2 _ _ _ _ _ _ _ _ _)
      | (with_reducible exact ih3 _ _ _ _ _ _ _ _ _ _)
      | (with_reducible exact ih4 _ _ _ _ _ _ _ _)
      | (with_reducible exact ih5 _ _ _ _)
      | (with_reducible exact need_Total.mono _ _)
      | (with_reducible exact need_Worst.mono _ _)
      | (with_reducible exact LeO.refl _)
      | (with_reducible exact LeO.none _)
      | (with_reducible refine LeO.ite ?_ ?_)
      | (with_reducible refine LeO.bind ?_ (fun _ => ?_))
      | exact ih0 _ _ _
      | exact ih1 _ _ _ _ _ _
      | exact ih2 _ _ _ _ _ _ _ _ _
      | exact ih3 _ _ _ _ _ _ _ _ _ _
      | exact ih4 _ _ _ _ _ _ _ _
      | exact ih5 _ _ _ _
      | exact need_Total.mono _ _
      | exact need_Worst.mono _ _
      | exact LeO.none _
      | refine LeO.ite ?_ ?_
      | refine LeO.bind ?_ (fun _ => ?_)
    · intro y0 y1 y2 y3 y4 y5
      unfold pledgelaw17_NeedSays.l0
      repeat' first
      | (with_reducible exact ih0 _ _ _)
      | (with_reducible exact ih1 _ _ _ _ _ _)
      | (with_reducible exact ih2 _ _ _ _ _ _ _ _ _)
      | (with_reducible exact ih3 _ _ _ _ _ _ _ _ _ _)
      | (with_reducible exact ih4 _ _ _ _ _ _ _ _)
      | (with_reducible exact ih5 _ _ _ _)
      | (with_reducible exact need_Total.mono _ _)
      | (with_reducible exact need_Worst.mono _ _)
      | (with_reducible exact LeO.refl _)
      | (with_reducible exact LeO.none _)
      | (with_reducible refine LeO.ite ?_ ?_)
      | (with_reducible refine LeO.bind ?_ (fun _ => ?_))
      | exact ih0 _ _ _
      | exact ih1 _ _ _ _ _ _
      | exact ih2 _ _ _ _ _ _ _ _ _
      | exact ih3 _ _ _ _ _ _ _ _ _ _
      | exact ih4 _ _ _ _ _ _ _ _
      | exact ih5 _ _ _ _
      | exact need_Total.mono _ _
      | exact need_Worst.mono _ _
      | exact LeO.none _
      | refine LeO.ite ?_ ?_
      | refine LeO.bind ?_ (fun _ => ?_)
    · intro y0 y1 y2 y3 y4 y5 y6 y7 y8
      unfold pledgelaw17_NeedSays.j2
      repeat' first
      | (with_reducible exact ih0 _ _ _)
      | (with_reducible exact ih1 _ _ _ _ _ _)
      | (with_reducible exact ih2 _ _ _ _ _ _ _ _ _)
      | (with_reducible exact ih3 _ _ _ _ _ _ _ _ _ _)
      | (with_reducible exact ih4 _ _ _ _ _ _ _ _)
      | (with_reducible exact ih5 _ _ _ _)
      | (with_reducible exact need_Total.mono _ _)
      | (with_reducible exact need_Worst.mono _ _)
      | (with_reducible exact LeO.refl _)
      | (with_reducible exact LeO.none _)
      | (with_reducible refine LeO.ite ?_ ?_)
      | (with_reducible refine LeO.bind ?_ (fun _ => ?_))
      | exact ih0 _ _ _
      | exact ih1 _ _ _ _ _ _
      | exact ih2 _ _ _ _ _ _ _ _ _
      | exact ih3 _ _ _ _ _ _ _ _ _ _
      | exact ih4 _ _ _ _ _ _ _ _
      | exact ih5 _ _ _ _
      | exact need_Total.mono _ _
      | exact need_Worst.mono _ _
      | exact LeO.none _
      | refine LeO.ite ?_ ?_
      | refine LeO.bind ?_ (fun _ => ?_)
    · intro y0 y1 y2 y3 y4 y5 y6 y7 y8 y9
      unfold pledgelaw17_NeedSays.j3
      repeat' first
      | (with_reducible exact ih0 _ _ _)
      | (with_reducible exact ih1 _ _ _ _ _ _)
      | (with_reducible exact ih2 _ _ _ _ _ _ _ _ _)
      | (with_reducible exact ih3 _ _ _ _ _ _ _ _ _ _)
      | (with_reducible exact ih4 _ _ _ _ _ _ _ _)
      | (with_reducible exact ih5 _ _ _ _)
      | (with_reducible exact need_Total.mono _ _)
      | (with_reducible exact need_Worst.mono _ _)
      | (with_reducible exact LeO.refl _)
      | (with_reducible exact LeO.none _)
      | (with_reducible refine LeO.ite ?_ ?_)
      | (with_reducible refine LeO.bind ?_ (fun _ => ?_))
      | exact ih0 _ _ _
      | exact ih1 _ _ _ _ _ _
      | exact ih2 _ _ _ _ _ _ _ _ _
      | exact ih3 _ _ _ _ _ _ _ _ _ _
      | exact ih4 _ _ _ _ _ _ _ _
      | exact ih5 _ _ _ _
      | exact need_Total.mono _ _
      | exact need_Worst.mono _ _
      | exact LeO.none _
      | refine LeO.ite ?_ ?_
      | refine LeO.bind ?_ (fun _ => ?_)
    · intro y0 y1 y2 y3 y4 y5 y6 y7
      unfold pledgelaw17_NeedSays.j4
      repeat' first
      | (with_reducible exact ih0 _ _ _)
      | (with_reducible exact ih1 _ _ _ _ _ _)
      | (with_reducible exact ih2 _ _ _ _ _ _ _ _ _)
      | (with_reducible exact ih3 _ _ _ _ _ _ _ _ _ _)
      | (with_reducible exact ih4 _ _ _ _ _ _ _ _)
      | (with_reducible exact ih5 _ _ _ _)
      | (with_reducible exact need_Total.mono _ _)
      | (with_reducible exact need_Worst.mono _ _)
      | (with_reducible exact LeO.refl _)
      | (with_reducible exact LeO.none _)
      | (with_reducible refine LeO.ite ?_ ?_)
      | (with_reducible refine LeO.bind ?_ (fun _ => ?_))
      | exact ih0 _ _ _
      | exact ih1 _ _ _ _ _ _
      | exact ih2 _ _ _ _ _ _ _ _ _
      | exact ih3 _ _ _ _ _ _ _ _ _ _
      | exact ih4 _ _ _ _ _ _ _ _
      | exact ih5 _ _ _ _
      | exact need_Total.mono _ _
      | exact need_Worst.mono _ _
      | exact LeO.none _
      | refine LeO.ite ?_ ?_
      | refine LeO.bind ?_ (fun _ => ?_)
    · intro y0 y1 y2 y3
      unfold pledgelaw17_NeedSays.j5
      repeat' first
      | (with_reducible exact ih0 _ _ _)
      | (with_reducible exact ih1 _ _ _ _ _ _)
      | (with_reducible exact ih2 _ _ _ _ _ _ _ _ _)
      | (with_reducible exact ih3 _ _ _ _ _ _ _ _ _ _)
      | (with_reducible exact ih4 _ _ _ _ _ _ _ _)
      | (with_reducible exact ih5 _ _ _ _)
      | (with_reducible exact need_Total.mono _ _)
      | (with_reducible exact need_Worst.mono _ _)
      | (with_reducible exact LeO.refl _)
      | (with_reducible exact LeO.none _)
      | (with_reducible refine LeO.ite ?_ ?_)
      | (with_reducible refine LeO.bind ?_ (fun _ => ?_))
      | exact ih0 _ _ _
      | exact ih1 _ _ _ _ _ _
      | exact ih2 _ _ _ _ _ _ _ _ _
      | exact ih3 _ _ _ _ _ _ _ _ _ _
      | exact ih4 _ _ _ _ _ _ _ _
      | exact ih5 _ _ _ _
      | exact need_Total.mono _ _
      | exact need_Worst.mono _ _
      | exact LeO.none _
      | refine LeO.ite ?_ ?_
      | refine LeO.bind ?_ (fun _ => ?_)
theorem pledgelaw17_NeedSays.mono : ∀ a0 k, LeO (pledgelaw17_NeedSays.f k a0) (pledgelaw17_NeedSays.f (k + 1) a0) := by
  intro a0 k
  obtain ⟨ih0, ih1, ih2, ih3, ih4, ih5⟩ := pledgelaw17_NeedSays.mono_l k
  unfold pledgelaw17_NeedSays.f
  repeat' first
      | (with_reducible exact ih0 _ _ _)
      | (with_reducible exact ih1 _ _ _ _ _ _)
      | (with_reducible exact ih2 _ _ _ _ _ _ _ _ _)
      | (with_reducible exact ih3 _ _ _ _ _ _ _ _ _ _)
      | (with_reducible exact ih4 _ _ _ _ _ _ _ _)
      | (with_reducible exact ih5 _ _ _ _)
      | (with_reducible exact need_Total.mono _ _)
      | (with_reducible exact need_Worst.mono _ _)
      | (with_reducible exact LeO.refl _)
      | (with_reducible exact LeO.none _)
      | (with_reducible refine LeO.ite ?_ ?_)
      | (with_reducible refine LeO.bind ?_ (fun _ => ?_))
      | exact ih0 _ _ _
      | exact ih1 _ _ _ _ _ _
      | exact ih2 _ _ _ _ _ _ _ _ _
      | exact ih3 _ _ _ _ _ _ _ _ _ _
      | exact ih4 _ _ _ _ _ _ _ _
      | exact ih5 _ _ _ _
      | exact need_Total.mono _ _
      | exact need_Worst.mono _ _
      | exact LeO.none _
      | refine LeO.ite ?_ ?_
      | refine LeO.bind ?_ (fun _ => ?_)
def pledgelaw17_NeedSays.T20 : Bool × List (List Nat × List Nat) := (true, [([], []), ([0], [0]), ([], []), ([1, 2], [1, 2]), ([3, 1], [3]), ([4], [4]), ([5, 4, 4], [4, 5]), ([4], [4]), ([7, 4], [4, 7]), ([6, 8, 4], [4, 6, 8]), ([4, 9], [4, 9]), ([10, 6], [10]), ([11], [11]), ([12, 11, 11], [11, 12]), ([11], [11]), ([14, 11], [11, 14]), ([11], [11]), ([16, 11], [11, 16]), ([15, 17, 11], [11, 15, 17]), ([18, 11], [11, 18]), ([13, 19, 11], [11, 13, 19]), ([11, 20], [11, 20])])
def pledgelaw17_NeedSays.B20 : List Nat := [0, 1, 0, 7, 15, 31, 63, 31, 159, 511, 1023, 2047, 4095, 8191, 4095, 20479, 4095, 69631, 249855, 511999, 1048575, 2097151]
theorem pledgelaw17_NeedSays.tab20 : rtab .any (opsOf Tryd.f5 20) = pledgelaw17_NeedSays.T20 := by kernel_rfl
theorem pledgelaw17_NeedSays.bits20 : waitsOk pledgelaw17_NeedSays.T20.2 pledgelaw17_NeedSays.B20 = true := by kernel_rfl
set_option maxHeartbeats 8000000 in
set_option maxRecDepth 100000 in
theorem pledgelaw17_NeedSays.calls [Inhabited (Int → Addr)] (k : Nat) (A0 : Option Addr) (c0 : Nat) (l0 : List (S23)) (r : Bool) (w : World) (hG : GlobOK w) (hr0 : Kd.C k23 w A0 l0.length l0) (hc0 : l0.length ≤ c0) (h : pledgelaw17_NeedSays.f k l0 = some r) :
    Calls Tryd.prog 5 #[.slice A0 l0.length c0] w fun e w' => e = .returned (.bool r) ∧ Below w.heap.size w w' := by
  have hu23 := Tryd.underlying23
  have hu28 := Tryd.underlying28
  have hu68 := Tryd.underlying68
  have HG := Aside0.mk hG
  clear hG
  have HR0 := Aside0.mk hr0
  have HC0 := Aside0.mk hc0
  clear hr0 hc0
  have HB := Aside0.mk (Below.refl w.heap.size w)
  have H : ((pledgelaw17_first.f).bind fun t159 => (if t159 = true then (if (l0.length : Int) > 40 then (pledgelaw17_NeedSays.j0 k l0 t159 true) else (pledgelaw17_NeedSays.j0 k l0 t159 (!t159))) else (some false))) = some r := h
  clear h
  replace H := Option.bind_eq_some_iff.mp H
  obtain ⟨t159, A20, H⟩ := H
  replace H : (if t159 = true then (if (l0.length : Int) > 40 then (pledgelaw17_NeedSays.j0 k l0 t159 true) else (pledgelaw17_NeedSays.j0 k l0 t159 (!t159))) else (some false)) = some r := H
  have A2 := Aside0.mk A20
  clear A20
  by_cases c3 : t159 = true
  · subst c3
    have H1 : (if (l0.length : Int) > 40 then (pledgelaw17_NeedSays.j0 k l0 true true) else (pledgelaw17_NeedSays.j0 k l0 true (!true))) = some r := by rw [if_pos rfl] at H; exact H
    clear H
    have H := H1
    clear H1
    have HC4 := Aside0.mk H
    clear H
    go_enter Tryd.func5, Tryd.ntmps5
    go_upto_region 4 with (first | ((with_reducible refine gate_callee (f := 6) rfl ?_); refine goesL_ (some 16) rfl rfl Tryd.func6 (by kernel_rfl) rfl #[] rfl (by (try simp only [List.map_toArray, List.map_cons, List.map_nil]); first | done | rfl | (simp only [List.length_drop, List.length_take]; rfl)) ?_; (with_reducible refine (pledgelaw17_first.calls  true _ A2.out).mono ?_); rintro e w5 ⟨rfl, hb⟩; refine ⟨_, rfl, ?_⟩; have n0_ := Aside0.mk (below_step (by repeat (first | (with_reducible first | exact HB.out | apply below_alloc | apply pw_below_drewN | apply below_drew1) | exact HB.out)) hb); clear HB; have HB := n0_; clear n0_; (try clear hb); (try clear hb2); (try clear hk); (try clear hi)))
    (try simp only [Act.put, List.setIfInBounds_toArray, List.set_cons_zero, List.set_cons_succ])
    go_cut [25] (fun v25 wc => ∃ (kq : Nat) (x25_3 : Bool), v25 = .bool x25_3 ∧ Aside0 (pledgelaw17_NeedSays.j0 kq l0 true x25_3 = some r) ∧ Aside0 (kq ≤ k) ∧ Aside0 (Below w.heap.size w wc))
    case first =>
      have H := HC4.out
      clear HC4
      by_cases c6 : (l0.length : Int) > 40
      · rw [if_pos c6] at H
        have c6b0 : decide (40 < (l0.length : Int)) = true := decide_eq_true c6
        have c6b1 : decide (40 < l0.length) = true := decide_eq_true (by omega)
        clear c6
        (first | rw [c6b0] | (simp only [i64_w, i32_w]; rw [c6b0]) | skip)
        have H' := Aside0.mk H
        clear H
        go_wp2
        go_meet
        case rel => exact ⟨_, (true), (by first | rfl | (simp; done) | (simp [*]; done)), H', ⟨by first | omega | exact Nat.le_refl _⟩, ⟨by repeat (first | (with_reducible first | exact HB.out | apply below_alloc | apply pw_below_drewN | apply below_drew1) | exact HB.out)⟩⟩
      · rw [if_neg c6] at H
        have c6b0 : decide (40 < (l0.length : Int)) = false := decide_eq_false c6
        have c6b1 : decide (40 < l0.length) = false := decide_eq_false (by omega)
        clear c6
        (first | rw [c6b0] | (simp only [i64_w, i32_w]; rw [c6b0]) | skip)
        have H' := Aside0.mk H
        clear H
        go_wp2
        go_meet
        case rel => exact ⟨_, (!true), (by first | rfl | (simp; done) | (simp [*]; done)), H', ⟨by first | omega | exact Nat.le_refl _⟩, ⟨by repeat (first | (with_reducible first | exact HB.out | apply below_alloc | apply pw_below_drewN | apply below_drew1) | exact HB.out)⟩⟩
    case rest =>
      clear HC4
      try clear p2
      try clear c3
      try clear c5
      try clear c6
      try clear c6b0
      try clear c6b1
      obtain ⟨kq, x25_3, rfl, HA, HJ3, HB⟩ := hcut
      cases kq with
      | zero => exact absurd HA.out (by simp [pledgelaw17_NeedSays.j0])
      | succ kj3 =>
        have H := HA.out
        clear HA
        simp only [pledgelaw17_NeedSays.j0] at H
        by_cases c7 : x25_3 = true
        · subst c7
          have H1 : (some true) = some r := by rw [if_pos rfl] at H; exact H
          clear H
          have H := H1
          clear H1
          obtain rfl := Option.some.inj H
          go_wp2
          go_ret
          exact ⟨by first | rfl | (simp [errW_none, errW_some] <;> rfl) | (simp [*, errW_none, errW_some] <;> rfl), by repeat (first | (with_reducible first | exact HB.out | apply below_alloc | apply pw_below_drewN | apply below_drew1) | exact HB.out)⟩
        · replace c7 := Bool.eq_false_iff.mpr c7
          subst c7
          have H1 : (pledgelaw17_NeedSays.l0 kj3 l0 (-1) 0 0 true 0) = some r := by rw [if_neg (show ¬ (false = true) by decide)] at H; exact H
          clear H
          have H := H1
          clear H1
          have H' := Aside0.mk H
          clear H
          go_wp2
          go_loopg [4, 5, 6, 7, 8] kj3 (fun kq v4 v5 v6 v7 v8 w' => ∃ (x4_2 : Int) (x5_2 : Int) (x6_2 : Int) (x7_2 : Bool) (x8_2 : Int), v4 = .int .i64 x4_2 ∧ v5 = .int .i64 x5_2 ∧ v6 = .int .i64 x6_2 ∧ v7 = .bool x7_2 ∧ v8 = .int .i64 x8_2 ∧ Aside0 (pledgelaw17_NeedSays.l0 kq l0 x4_2 x5_2 x6_2 x7_2 x8_2 = some r) ∧ Aside0 (kq ≤ kj3) ∧ Aside0 (Below w.heap.size w w'))
          case atStart => exact ⟨((-1)), (0), (0), (true), (0), (by first | rfl | (simp; done) | (simp [*]; done)), (by first | rfl | (simp; done) | (simp [*]; done)), (by first | rfl | (simp; done) | (simp [*]; done)), (by first | rfl | (simp; done) | (simp [*]; done)), (by first | rfl | (simp; done) | (simp [*]; done)), H', ⟨Nat.le_refl _⟩, ⟨by repeat (first | (with_reducible first | exact HB.out | apply below_alloc | apply pw_below_drewN | apply below_drew1) | exact HB.out)⟩⟩
          case round =>
            clear H'
            try clear p2
            try clear c3
            try clear c5
            try clear c6
            try clear c6b0
            try clear c6b1
            try clear c7
            try clear p2
            obtain ⟨x4_2, x5_2, x6_2, x7_2, x8_2, rfl, rfl, rfl, rfl, rfl, HA, HK2, HB⟩ := hrel
            cases gk with
            | zero => exact absurd HA.out (by simp [pledgelaw17_NeedSays.l0])
            | succ k2 =>
              have H := HA.out
              clear HA
              simp only [pledgelaw17_NeedSays.l0] at H
              by_cases c8 : x8_2 < (l0.length : Int)
              · rw [if_pos c8] at H
                have c8b0 : decide (x8_2 < (l0.length : Int)) = true := decide_eq_true c8
                clear c8
                by_cases c9 : 0 ≤ x8_2
                · rw [if_pos c9] at H
                  have c9b0 : decide (0 ≤ x8_2) = true := decide_eq_true c9
                  clear c9
                  replace H := Option.bind_eq_some_iff.mp H
                  obtain ⟨t162, A100, H⟩ := H
                  replace H : (if x7_2 = true then (pledgelaw17_NeedSays.j2 k2 l0 x4_2 x5_2 x6_2 t162 x8_2 t162 ((rd_T23 l0 x8_2).f0) ((rd_T23 l0 x8_2).f1)) else (pledgelaw17_NeedSays.j2 k2 l0 x4_2 x5_2 x6_2 false x8_2 t162 ((rd_T23 l0 x8_2).f0) ((rd_T23 l0 x8_2).f1))) = some r := H
                  have A10 := Aside0.mk A100
                  clear A100
                  have HC11 := Aside0.mk H
                  clear H
                  have p160 : 0 ≤ (x8_2 : Int) := of_decide_eq_true (by first | (with_reducible assumption) | assumption)
                  have q160 : x8_2 < (l0.length : Int) := of_decide_eq_true (by first | (with_reducible assumption) | assumption)
                  obtain ⟨ad160, e160, hx160_0, hx160_1⟩ := at_T23 HR0.out x8_2 p160 q160
                  cases e160
                  replace hx160_0 := (HB.out.cell (World.block_lt_of_cell? w _ hx160_0)).trans hx160_0
                  replace hx160_1 := (HB.out.cell (World.block_lt_of_cell? w _ hx160_1)).trans hx160_1
                  replace p160 := eq_true p160
                  replace q160 := eq_true q160
                  go_upto_region 15 with (first | ((with_reducible refine gate_dst (N := 9) rfl ?_); (try (refine gate_guard (by rfl) ?_; dsimp only)); refine box_event ?hg (N := 9) ?hd (cs := #[.int .i64 0, .int .i64 0]) (t := 23) ?hr ?_; (case hd => rfl); (case hg => rfl); (case hr => first | (go_simp; done) | (go_simp; rfl)); intro gb161 hg w12 hbox hb; have n0_ := Aside0.mk (below_step (by repeat (first | (with_reducible first | exact HB.out | apply below_alloc | apply pw_below_drewN | apply below_drew1) | exact HB.out)) hb); have n1_ := Aside0.mk (hbox); have n2_ := Aside0.mk ((by rw [hg]; exact (below_size (by repeat (first | (with_reducible first | exact HB.out | apply below_alloc | apply pw_below_drewN | apply below_drew1) | exact HB.out))) : w.heap.size ≤ gb161)); have n3_ := Aside0.mk ((by rw [hg]; exact (below_size (by repeat (first | (with_reducible first | exact HB.out | apply below_alloc | apply pw_below_drewN | apply below_drew1) | exact HB.out))) : w.heap.size ≤ gb161)); clear HB; have HB := n0_; have BK161 := n1_; have GW161 := n2_; have GE161 := n3_; clear n0_ n1_ n2_ n3_; clear hb hbox hg; have hcz13_0 : w12.cell? ⟨gb161, 0, none⟩ = some (.int .i64 0) := (blk_cell BK161.out 0).trans rfl; have hcz13_1 : w12.cell? ⟨gb161, 1, none⟩ = some (.int .i64 0) := (blk_cell BK161.out 1).trans rfl; have hfz13_0 := blk_frozen BK161.out 0; have hfz13_1 := blk_frozen BK161.out 1) | ((with_reducible refine gate_callee (f := 7) rfl ?_); refine goesL_ (some 38) rfl rfl Tryd.func7 (by kernel_rfl) rfl #[.agg #[.int .i64 ((rd_T23 l0 x8_2).f0), .int .i64 ((rd_T23 l0 x8_2).f1)]] rfl (by (try simp only [List.map_toArray, List.map_cons, List.map_nil]); first | done | rfl | (simp only [List.length_drop, List.length_take]; rfl)) ?_; (with_reducible refine (pledgelaw17_valid.calls ((rd_T23 l0 x8_2).f0) ((rd_T23 l0 x8_2).f1) t162 _ A10.out).mono ?_); rintro e w14 ⟨rfl, hb⟩; refine ⟨_, rfl, ?_⟩; have n0_ := Aside0.mk (blk_below (g := gb161) (o := .cells #[.int .i64 ((rd_T23 l0 x8_2).f0), .int .i64 ((rd_T23 l0 x8_2).f1)] 23 (0, 0)) (by (with_reducible repeat (first | refine blk_drewN ?_ _ | refine blk_drew ?_ | refine blk_alloc ?_ _)); refine blk_put (cs := #[.int .i64 ((rd_T23 l0 x8_2).f0), .int .i64 0]) ?_ 1 _ rfl; (with_reducible repeat (first | refine blk_drewN ?_ _ | refine blk_drew ?_ | refine blk_alloc ?_ _)); refine blk_put (cs := #[.int .i64 0, .int .i64 0]) ?_ 0 _ rfl; (with_reducible repeat (first | refine blk_drewN ?_ _ | refine blk_drew ?_ | refine blk_alloc ?_ _)); exact BK161.out) hb); have n1_ := Aside0.mk (below_step (by repeat (first | (with_reducible first | exact HB.out | apply below_alloc | apply pw_below_drewN | apply below_drew1 | refine below_set ?_ GE161.out) | exact HB.out)) hb); clear BK161; clear HB; have BK161 := n0_; have HB := n1_; clear n0_ n1_; (try clear hb); (try clear hb2); (try clear hk); (try clear hi)))
                  (try simp only [Act.put, List.setIfInBounds_toArray, List.set_cons_zero, List.set_cons_succ])
                  go_cut [7] (fun v7 wc => ∃ (kq : Nat) (x7_10 : Bool), v7 = .bool x7_10 ∧ Aside0 (pledgelaw17_NeedSays.j2 kq l0 x4_2 x5_2 x6_2 x7_10 x8_2 t162 ((rd_T23 l0 x8_2).f0) ((rd_T23 l0 x8_2).f1) = some r) ∧ Aside0 (kq ≤ k2) ∧ Aside0 (wc.heap[gb161]? = some (.cells #[.int .i64 ((rd_T23 l0 x8_2).f0), .int .i64 ((rd_T23 l0 x8_2).f1)] 23 (0, 0))) ∧ Aside0 (Below w.heap.size w wc))
                  case first =>
                    have H := HC11.out
                    clear HC11
                    by_cases c15 : x7_2 = true
                    · subst c15
                      have H1 : (pledgelaw17_NeedSays.j2 k2 l0 x4_2 x5_2 x6_2 t162 x8_2 t162 ((rd_T23 l0 x8_2).f0) ((rd_T23 l0 x8_2).f1)) = some r := by rw [if_pos rfl] at H; exact H
                      clear H
                      have H := H1
                      clear H1
                      have H' := Aside0.mk H
                      clear H
                      go_wp2
                      go_meet
                      case rel => exact ⟨_, (t162), (by first | rfl | (simp; done) | (simp [*]; done)), H', ⟨by have := HJ3.out; have := HK2.out; first | omega | exact Nat.le_refl _⟩, ⟨by (with_reducible repeat (first | refine blk_drewN ?_ _ | refine blk_drew ?_ | refine blk_alloc ?_ _)); exact BK161.out⟩, ⟨by repeat (first | (with_reducible first | exact HB.out | apply below_alloc | apply pw_below_drewN | apply below_drew1 | refine below_set ?_ GE161.out) | exact HB.out)⟩⟩
                    · replace c15 := Bool.eq_false_iff.mpr c15
                      subst c15
                      have H1 : (pledgelaw17_NeedSays.j2 k2 l0 x4_2 x5_2 x6_2 false x8_2 t162 ((rd_T23 l0 x8_2).f0) ((rd_T23 l0 x8_2).f1)) = some r := by rw [if_neg (show ¬ (false = true) by decide)] at H; exact H
                      clear H
                      have H := H1
                      clear H1
                      have H' := Aside0.mk H
                      clear H
                      go_wp2
                      go_meet
                      case rel => exact ⟨_, (false), (by first | rfl | (simp; done) | (simp [*]; done)), H', ⟨by have := HJ3.out; have := HK2.out; first | omega | exact Nat.le_refl _⟩, ⟨by (with_reducible repeat (first | refine blk_drewN ?_ _ | refine blk_drew ?_ | refine blk_alloc ?_ _)); exact BK161.out⟩, ⟨by repeat (first | (with_reducible first | exact HB.out | apply below_alloc | apply pw_below_drewN | apply below_drew1 | refine below_set ?_ GE161.out) | exact HB.out)⟩⟩
                  case rest =>
                    clear HC11
                    try clear c1
                    try clear p1
                    try clear q1
                    try clear hx1
                    try clear p2
                    try clear c3
                    try clear c5
                    try clear c6
                    try clear c6b0
                    try clear c6b1
                    try clear c7
                    try clear c8
                    try clear c8b0
                    try clear c9
                    try clear c9b0
                    try clear c15
                    try clear hcz13_0
                    try clear hcz13_1
                    try clear hfz13_0
                    try clear hfz13_1
                    try clear hx160_0
                    try clear hx160_1
                    try clear p160
                    try clear p2
                    try clear q160
                    obtain ⟨kq, x7_10, rfl, HA, HJ10, BK161, HB⟩ := hcut
                    cases kq with
                    | zero => exact absurd HA.out (by simp [pledgelaw17_NeedSays.j2])
                    | succ kj10 =>
                      have H := HA.out
                      clear HA
                      simp only [pledgelaw17_NeedSays.j2] at H
                      have HC16 := Aside0.mk H
                      clear H
                      go_upto_region 16 with (fail)
                      go_cut [57] (fun v57 wc => ∃ (kq : Nat) (x57_15 : Bool), v57 = .bool x57_15 ∧ Aside0 (pledgelaw17_NeedSays.j3 kq l0 x4_2 x5_2 x6_2 x7_10 x8_2 t162 x57_15 ((rd_T23 l0 x8_2).f0) ((rd_T23 l0 x8_2).f1) = some r) ∧ Aside0 (kq ≤ kj10) ∧ Aside0 (wc.heap[gb161]? = some (.cells #[.int .i64 ((rd_T23 l0 x8_2).f0), .int .i64 ((rd_T23 l0 x8_2).f1)] 23 (0, 0))) ∧ Aside0 (Below w.heap.size w wc))
                      case first =>
                        have H := HC16.out
                        clear HC16
                        replace H := Option.bind_eq_some_iff.mp H
                        obtain ⟨t163, A170, H⟩ := H
                        replace H : (if t163.isNone = true then (if (true != t162) = true then (pledgelaw17_NeedSays.j3 kj10 l0 x4_2 x5_2 x6_2 x7_10 x8_2 t162 true ((rd_T23 l0 x8_2).f0) ((rd_T23 l0 x8_2).f1)) else (if t162 = true then (pledgelaw17_NeedSays.j3 kj10 l0 x4_2 x5_2 x6_2 x7_10 x8_2 t162 false ((rd_T23 l0 x8_2).f0) ((rd_T23 l0 x8_2).f1)) else ((need_Valid.f ((rd_T23 l0 x8_2).f0) ((rd_T23 l0 x8_2).f1)).bind fun t165 => ((pledgesee_Is.f t165 103).bind fun t166 => (pledgelaw17_NeedSays.j3 kj10 l0 x4_2 x5_2 x6_2 x7_10 x8_2 t162 (!t166) ((rd_T23 l0 x8_2).f0) ((rd_T23 l0 x8_2).f1)))))) else (if (false != t162) = true then (pledgelaw17_NeedSays.j3 kj10 l0 x4_2 x5_2 x6_2 x7_10 x8_2 t162 true ((rd_T23 l0 x8_2).f0) ((rd_T23 l0 x8_2).f1)) else (if t162 = true then (pledgelaw17_NeedSays.j3 kj10 l0 x4_2 x5_2 x6_2 x7_10 x8_2 t162 false ((rd_T23 l0 x8_2).f0) ((rd_T23 l0 x8_2).f1)) else ((need_Valid.f ((rd_T23 l0 x8_2).f0) ((rd_T23 l0 x8_2).f1)).bind fun t167 => ((pledgesee_Is.f t167 103).bind fun t168 => (pledgelaw17_NeedSays.j3 kj10 l0 x4_2 x5_2 x6_2 x7_10 x8_2 t162 (!t168) ((rd_T23 l0 x8_2).f0) ((rd_T23 l0 x8_2).f1))))))) = some r := H
                        have A17 := Aside0.mk A170
                        clear A170
                        rcases t163 with _ | q164
                        · have H1 : (if (true != t162) = true then (pledgelaw17_NeedSays.j3 kj10 l0 x4_2 x5_2 x6_2 x7_10 x8_2 t162 true ((rd_T23 l0 x8_2).f0) ((rd_T23 l0 x8_2).f1)) else (if t162 = true then (pledgelaw17_NeedSays.j3 kj10 l0 x4_2 x5_2 x6_2 x7_10 x8_2 t162 false ((rd_T23 l0 x8_2).f0) ((rd_T23 l0 x8_2).f1)) else ((need_Valid.f ((rd_T23 l0 x8_2).f0) ((rd_T23 l0 x8_2).f1)).bind fun t165 => ((pledgesee_Is.f t165 103).bind fun t166 => (pledgelaw17_NeedSays.j3 kj10 l0 x4_2 x5_2 x6_2 x7_10 x8_2 t162 (!t166) ((rd_T23 l0 x8_2).f0) ((rd_T23 l0 x8_2).f1)))))) = some r := by rw [if_pos (show (none : Option Int).isNone = true by rfl)] at H; exact H
                          clear H
                          have H := H1
                          clear H1
                          try simp only [errW_none, errW_some]
                          by_cases c18 : (true != t162) = true
                          · rw [if_pos c18] at H
                            have c18b0 : (true != t162) = true := c18
                            (try (have c18b1 : decide (true = t162) = false := by simpa using c18))
                            (try (have c18b2 : (true == t162) = false := by simpa using c18))
                            (try (have c18b3 : ¬ (true = t162) := by simpa using c18))
                            clear c18
                            (first | rw [c18b0] | (simp only [i64_w, i32_w]; rw [c18b0]) | skip)
                            have H' := Aside0.mk H
                            clear H
                            have hcz19_0 : wc.cell? ⟨gb161, 0, none⟩ = some (.int .i64 ((rd_T23 l0 x8_2).f0)) := (blk_cell BK161.out 0).trans rfl
                            have hcz19_1 : wc.cell? ⟨gb161, 1, none⟩ = some (.int .i64 ((rd_T23 l0 x8_2).f1)) := (blk_cell BK161.out 1).trans rfl
                            have hfz19_0 := blk_frozen BK161.out 0
                            have hfz19_1 := blk_frozen BK161.out 1
                            go_wp2_with (first | ((with_reducible refine gate_callee (f := 10) rfl ?_); refine goesL_ (some 44) rfl rfl Tryd.func10 (by kernel_rfl) rfl #[.agg #[.int .i64 ((rd_T23 l0 x8_2).f0), .int .i64 ((rd_T23 l0 x8_2).f1)]] rfl (by (try simp only [List.map_toArray, List.map_cons, List.map_nil]); first | done | rfl | (simp only [List.length_drop, List.length_take]; rfl)) ?_; (with_reducible refine (need_Valid.calls ((rd_T23 l0 x8_2).f0) ((rd_T23 l0 x8_2).f1) none _ ?side1 A17.out).mono ?_); (case side1 => exact GlobOK.below HG.out (by repeat (first | (with_reducible first | exact HB.out | apply below_alloc | apply pw_below_drewN | apply below_drew1 | refine below_set ?_ GE161.out) | exact HB.out))); rintro e w20 ⟨rfl, hb⟩; refine ⟨_, rfl, ?_⟩; have n0_ := Aside0.mk (blk_below (g := gb161) (o := .cells #[.int .i64 ((rd_T23 l0 x8_2).f0), .int .i64 ((rd_T23 l0 x8_2).f1)] 23 (0, 0)) (by (with_reducible repeat (first | refine blk_drewN ?_ _ | refine blk_drew ?_ | refine blk_alloc ?_ _)); exact BK161.out) hb); have n1_ := Aside0.mk (below_step (by repeat (first | (with_reducible first | exact HB.out | apply below_alloc | apply pw_below_drewN | apply below_drew1 | refine below_set ?_ GE161.out) | exact HB.out)) hb); clear BK161; clear HB; have BK161 := n0_; have HB := n1_; clear n0_ n1_; (try clear hb); (try clear hb2); (try clear hk); (try clear hi); (try simp only [errW_none, errW_some])))
                            go_meet
                            case rel => exact ⟨_, (true), (by first | rfl | (simp; done) | (simp [*]; done)), H', ⟨by have := HJ3.out; have := HK2.out; have := HJ10.out; first | omega | exact Nat.le_refl _⟩, ⟨by (with_reducible repeat (first | refine blk_drewN ?_ _ | refine blk_drew ?_ | refine blk_alloc ?_ _)); exact BK161.out⟩, ⟨by repeat (first | (with_reducible first | exact HB.out | apply below_alloc | apply pw_below_drewN | apply below_drew1 | refine below_set ?_ GE161.out) | exact HB.out)⟩⟩
                          · rw [if_neg c18] at H
                            have c18b0 : (true != t162) = false := by simpa using c18
                            (try (have c18b1 : decide (true = t162) = true := by simpa using c18))
                            (try (have c18b2 : (true == t162) = true := by simpa using c18))
                            clear c18
                            (first | rw [c18b0] | (simp only [i64_w, i32_w]; rw [c18b0]) | skip)
                            by_cases c21 : t162 = true
                            · subst c21
                              have H1 : (pledgelaw17_NeedSays.j3 kj10 l0 x4_2 x5_2 x6_2 x7_10 x8_2 true false ((rd_T23 l0 x8_2).f0) ((rd_T23 l0 x8_2).f1)) = some r := by rw [if_pos rfl] at H; exact H
                              clear H
                              have H := H1
                              clear H1
                              have H' := Aside0.mk H
                              clear H
                              have hcz22_0 : wc.cell? ⟨gb161, 0, none⟩ = some (.int .i64 ((rd_T23 l0 x8_2).f0)) := (blk_cell BK161.out 0).trans rfl
                              have hcz22_1 : wc.cell? ⟨gb161, 1, none⟩ = some (.int .i64 ((rd_T23 l0 x8_2).f1)) := (blk_cell BK161.out 1).trans rfl
                              have hfz22_0 := blk_frozen BK161.out 0
                              have hfz22_1 := blk_frozen BK161.out 1
                              go_wp2_with (first | ((with_reducible refine gate_callee (f := 10) rfl ?_); refine goesL_ (some 44) rfl rfl Tryd.func10 (by kernel_rfl) rfl #[.agg #[.int .i64 ((rd_T23 l0 x8_2).f0), .int .i64 ((rd_T23 l0 x8_2).f1)]] rfl (by (try simp only [List.map_toArray, List.map_cons, List.map_nil]); first | done | rfl | (simp only [List.length_drop, List.length_take]; rfl)) ?_; (with_reducible refine (need_Valid.calls ((rd_T23 l0 x8_2).f0) ((rd_T23 l0 x8_2).f1) none _ ?side1 A17.out).mono ?_); (case side1 => exact GlobOK.below HG.out (by repeat (first | (with_reducible first | exact HB.out | apply below_alloc | apply pw_below_drewN | apply below_drew1 | refine below_set ?_ GE161.out) | exact HB.out))); rintro e w23 ⟨rfl, hb⟩; refine ⟨_, rfl, ?_⟩; have n0_ := Aside0.mk (blk_below (g := gb161) (o := .cells #[.int .i64 ((rd_T23 l0 x8_2).f0), .int .i64 ((rd_T23 l0 x8_2).f1)] 23 (0, 0)) (by (with_reducible repeat (first | refine blk_drewN ?_ _ | refine blk_drew ?_ | refine blk_alloc ?_ _)); exact BK161.out) hb); have n1_ := Aside0.mk (below_step (by repeat (first | (with_reducible first | exact HB.out | apply below_alloc | apply pw_below_drewN | apply below_drew1 | refine below_set ?_ GE161.out) | exact HB.out)) hb); clear BK161; clear HB; have BK161 := n0_; have HB := n1_; clear n0_ n1_; (try clear hb); (try clear hb2); (try clear hk); (try clear hi); (try simp only [errW_none, errW_some])))
                              go_meet
                              case rel => exact ⟨_, (false), (by first | rfl | (simp; done) | (simp [*]; done)), H', ⟨by have := HJ3.out; have := HK2.out; have := HJ10.out; first | omega | exact Nat.le_refl _⟩, ⟨by (with_reducible repeat (first | refine blk_drewN ?_ _ | refine blk_drew ?_ | refine blk_alloc ?_ _)); exact BK161.out⟩, ⟨by repeat (first | (with_reducible first | exact HB.out | apply below_alloc | apply pw_below_drewN | apply below_drew1 | refine below_set ?_ GE161.out) | exact HB.out)⟩⟩
                            · replace c21 := Bool.eq_false_iff.mpr c21
                              subst c21
                              have H1 : ((need_Valid.f ((rd_T23 l0 x8_2).f0) ((rd_T23 l0 x8_2).f1)).bind fun t165 => ((pledgesee_Is.f t165 103).bind fun t166 => (pledgelaw17_NeedSays.j3 kj10 l0 x4_2 x5_2 x6_2 x7_10 x8_2 false (!t166) ((rd_T23 l0 x8_2).f0) ((rd_T23 l0 x8_2).f1)))) = some r := by rw [if_neg (show ¬ (false = true) by decide)] at H; exact H
                              clear H
                              have H := H1
                              clear H1
                              replace H := Option.bind_eq_some_iff.mp H
                              obtain ⟨t165, A240, H⟩ := H
                              replace H : ((pledgesee_Is.f t165 103).bind fun t166 => (pledgelaw17_NeedSays.j3 kj10 l0 x4_2 x5_2 x6_2 x7_10 x8_2 false (!t166) ((rd_T23 l0 x8_2).f0) ((rd_T23 l0 x8_2).f1))) = some r := H
                              have A24 := Aside0.mk A240
                              clear A240
                              replace H := Option.bind_eq_some_iff.mp H
                              obtain ⟨t166, A250, H⟩ := H
                              replace H : (pledgelaw17_NeedSays.j3 kj10 l0 x4_2 x5_2 x6_2 x7_10 x8_2 false (!t166) ((rd_T23 l0 x8_2).f0) ((rd_T23 l0 x8_2).f1)) = some r := H
                              have A25 := Aside0.mk A250
                              clear A250
                              have H' := Aside0.mk H
                              clear H
                              have hcz26_0 : wc.cell? ⟨gb161, 0, none⟩ = some (.int .i64 ((rd_T23 l0 x8_2).f0)) := (blk_cell BK161.out 0).trans rfl
                              have hcz26_1 : wc.cell? ⟨gb161, 1, none⟩ = some (.int .i64 ((rd_T23 l0 x8_2).f1)) := (blk_cell BK161.out 1).trans rfl
                              have hfz26_0 := blk_frozen BK161.out 0
                              have hfz26_1 := blk_frozen BK161.out 1
                              go_wp2_with (first | ((with_reducible refine gate_callee (f := 10) rfl ?_); refine goesL_ (some 44) rfl rfl Tryd.func10 (by kernel_rfl) rfl #[.agg #[.int .i64 ((rd_T23 l0 x8_2).f0), .int .i64 ((rd_T23 l0 x8_2).f1)]] rfl (by (try simp only [List.map_toArray, List.map_cons, List.map_nil]); first | done | rfl | (simp only [List.length_drop, List.length_take]; rfl)) ?_; (with_reducible refine (need_Valid.calls ((rd_T23 l0 x8_2).f0) ((rd_T23 l0 x8_2).f1) none _ ?side1 A17.out).mono ?_); (case side1 => exact GlobOK.below HG.out (by repeat (first | (with_reducible first | exact HB.out | apply below_alloc | apply pw_below_drewN | apply below_drew1 | refine below_set ?_ GE161.out) | exact HB.out))); rintro e w27 ⟨rfl, hb⟩; refine ⟨_, rfl, ?_⟩; have n0_ := Aside0.mk (blk_below (g := gb161) (o := .cells #[.int .i64 ((rd_T23 l0 x8_2).f0), .int .i64 ((rd_T23 l0 x8_2).f1)] 23 (0, 0)) (by (with_reducible repeat (first | refine blk_drewN ?_ _ | refine blk_drew ?_ | refine blk_alloc ?_ _)); exact BK161.out) hb); have n1_ := Aside0.mk (below_step (by repeat (first | (with_reducible first | exact HB.out | apply below_alloc | apply pw_below_drewN | apply below_drew1 | refine below_set ?_ GE161.out) | exact HB.out)) hb); clear BK161; clear HB; have BK161 := n0_; have HB := n1_; clear n0_ n1_; (try clear hb); (try clear hb2); (try clear hk); (try clear hi); (try simp only [errW_none, errW_some]); have hcz28_0 : w27.cell? ⟨gb161, 0, none⟩ = some (.int .i64 ((rd_T23 l0 x8_2).f0)) := (blk_cell BK161.out 0).trans rfl; have hcz28_1 : w27.cell? ⟨gb161, 1, none⟩ = some (.int .i64 ((rd_T23 l0 x8_2).f1)) := (blk_cell BK161.out 1).trans rfl; have hfz28_0 := blk_frozen BK161.out 0; have hfz28_1 := blk_frozen BK161.out 1) | (go_at_call 10; (with_reducible refine (need_Valid.calls ((rd_T23 l0 x8_2).f0) ((rd_T23 l0 x8_2).f1) t165 _ ?side1 A24.out).mono ?_); (case side1 => exact GlobOK.below HG.out (by repeat (first | (with_reducible first | exact HB.out | apply below_alloc | apply pw_below_drewN | apply below_drew1 | refine below_set ?_ GE161.out) | exact HB.out))); rintro e w29 ⟨rfl, hb⟩; have n0_ := Aside0.mk (blk_below (g := gb161) (o := .cells #[.int .i64 ((rd_T23 l0 x8_2).f0), .int .i64 ((rd_T23 l0 x8_2).f1)] 23 (0, 0)) (by (with_reducible repeat (first | refine blk_drewN ?_ _ | refine blk_drew ?_ | refine blk_alloc ?_ _)); exact BK161.out) hb); have n1_ := Aside0.mk (below_step (by repeat (first | (with_reducible first | exact HB.out | apply below_alloc | apply pw_below_drewN | apply below_drew1 | refine below_set ?_ GE161.out) | exact HB.out)) hb); clear BK161; clear HB; have BK161 := n0_; have HB := n1_; clear n0_ n1_; (try clear hb); (try clear hb2); (try clear hk); (try clear hi); (try simp only [errW_none, errW_some]); have CA25 := fun W hG_ => pledgesee_Is.calls t165 103 t166 W hG_ A25.out; try simp only [errW_none, errW_some] at CA25) | (go_at_call 15; (with_reducible refine (CA25 _ ?side1).mono ?_); (case side1 => exact GlobOK.below HG.out (by repeat (first | (with_reducible first | exact HB.out | apply below_alloc | apply pw_below_drewN | apply below_drew1 | refine below_set ?_ GE161.out) | exact HB.out))); rintro e w30 ⟨rfl, hb⟩; have n0_ := Aside0.mk (blk_below (g := gb161) (o := .cells #[.int .i64 ((rd_T23 l0 x8_2).f0), .int .i64 ((rd_T23 l0 x8_2).f1)] 23 (0, 0)) (by (with_reducible repeat (first | refine blk_drewN ?_ _ | refine blk_drew ?_ | refine blk_alloc ?_ _)); exact BK161.out) hb); have n1_ := Aside0.mk (below_step (by repeat (first | (with_reducible first | exact HB.out | apply below_alloc | apply pw_below_drewN | apply below_drew1 | refine below_set ?_ GE161.out) | exact HB.out)) hb); clear BK161; clear HB; have BK161 := n0_; have HB := n1_; clear n0_ n1_; (try clear hb); (try clear hb2); (try clear hk); (try clear hi)))
                              go_meet
                              case rel => exact ⟨_, (!t166), (by first | rfl | (simp; done) | (simp [*]; done)), H', ⟨by have := HJ3.out; have := HK2.out; have := HJ10.out; first | omega | exact Nat.le_refl _⟩, ⟨by (with_reducible repeat (first | refine blk_drewN ?_ _ | refine blk_drew ?_ | refine blk_alloc ?_ _)); exact BK161.out⟩, ⟨by repeat (first | (with_reducible first | exact HB.out | apply below_alloc | apply pw_below_drewN | apply below_drew1 | refine below_set ?_ GE161.out) | exact HB.out)⟩⟩
                        · have H1 : (if (false != t162) = true then (pledgelaw17_NeedSays.j3 kj10 l0 x4_2 x5_2 x6_2 x7_10 x8_2 t162 true ((rd_T23 l0 x8_2).f0) ((rd_T23 l0 x8_2).f1)) else (if t162 = true then (pledgelaw17_NeedSays.j3 kj10 l0 x4_2 x5_2 x6_2 x7_10 x8_2 t162 false ((rd_T23 l0 x8_2).f0) ((rd_T23 l0 x8_2).f1)) else ((need_Valid.f ((rd_T23 l0 x8_2).f0) ((rd_T23 l0 x8_2).f1)).bind fun t167 => ((pledgesee_Is.f t167 103).bind fun t168 => (pledgelaw17_NeedSays.j3 kj10 l0 x4_2 x5_2 x6_2 x7_10 x8_2 t162 (!t168) ((rd_T23 l0 x8_2).f0) ((rd_T23 l0 x8_2).f1)))))) = some r := by rw [if_neg (show ¬ (some q164).isNone = true by simp)] at H; exact H
                          clear H
                          have H := H1
                          clear H1
                          try simp only [errW_none, errW_some]
                          by_cases c31 : (false != t162) = true
                          · rw [if_pos c31] at H
                            have c31b0 : (false != t162) = true := c31
                            (try (have c31b1 : decide (false = t162) = false := by simpa using c31))
                            (try (have c31b2 : (false == t162) = false := by simpa using c31))
                            (try (have c31b3 : ¬ (false = t162) := by simpa using c31))
                            clear c31
                            have H' := Aside0.mk H
                            clear H
                            have hcz32_0 : wc.cell? ⟨gb161, 0, none⟩ = some (.int .i64 ((rd_T23 l0 x8_2).f0)) := (blk_cell BK161.out 0).trans rfl
                            have hcz32_1 : wc.cell? ⟨gb161, 1, none⟩ = some (.int .i64 ((rd_T23 l0 x8_2).f1)) := (blk_cell BK161.out 1).trans rfl
                            have hfz32_0 := blk_frozen BK161.out 0
                            have hfz32_1 := blk_frozen BK161.out 1
                            go_wp2_with (first | ((with_reducible refine gate_callee (f := 10) rfl ?_); refine goesL_ (some 44) rfl rfl Tryd.func10 (by kernel_rfl) rfl #[.agg #[.int .i64 ((rd_T23 l0 x8_2).f0), .int .i64 ((rd_T23 l0 x8_2).f1)]] rfl (by (try simp only [List.map_toArray, List.map_cons, List.map_nil]); first | done | rfl | (simp only [List.length_drop, List.length_take]; rfl)) ?_; (with_reducible refine (need_Valid.calls ((rd_T23 l0 x8_2).f0) ((rd_T23 l0 x8_2).f1) (some q164) _ ?side1 A17.out).mono ?_); (case side1 => exact GlobOK.below HG.out (by repeat (first | (with_reducible first | exact HB.out | apply below_alloc | apply pw_below_drewN | apply below_drew1 | refine below_set ?_ GE161.out) | exact HB.out))); rintro e w33 ⟨rfl, hb⟩; refine ⟨_, rfl, ?_⟩; have n0_ := Aside0.mk (blk_below (g := gb161) (o := .cells #[.int .i64 ((rd_T23 l0 x8_2).f0), .int .i64 ((rd_T23 l0 x8_2).f1)] 23 (0, 0)) (by (with_reducible repeat (first | refine blk_drewN ?_ _ | refine blk_drew ?_ | refine blk_alloc ?_ _)); exact BK161.out) hb); have n1_ := Aside0.mk (below_step (by repeat (first | (with_reducible first | exact HB.out | apply below_alloc | apply pw_below_drewN | apply below_drew1 | refine below_set ?_ GE161.out) | exact HB.out)) hb); clear BK161; clear HB; have BK161 := n0_; have HB := n1_; clear n0_ n1_; (try clear hb); (try clear hb2); (try clear hk); (try clear hi); (try simp only [errW_none, errW_some])))
                            go_meet
                            case rel => exact ⟨_, (true), (by first | rfl | (simp; done) | (simp [*]; done)), H', ⟨by have := HJ3.out; have := HK2.out; have := HJ10.out; first | omega | exact Nat.le_refl _⟩, ⟨by (with_reducible repeat (first | refine blk_drewN ?_ _ | refine blk_drew ?_ | refine blk_alloc ?_ _)); exact BK161.out⟩, ⟨by repeat (first | (with_reducible first | exact HB.out | apply below_alloc | apply pw_below_drewN | apply below_drew1 | refine below_set ?_ GE161.out) | exact HB.out)⟩⟩
                          · rw [if_neg c31] at H
                            have c31b0 : (false != t162) = false := by simpa using c31
                            (try (have c31b1 : decide (false = t162) = true := by simpa using c31))
                            (try (have c31b2 : (false == t162) = true := by simpa using c31))
                            clear c31
                            by_cases c34 : t162 = true
                            · subst c34
                              have H1 : (pledgelaw17_NeedSays.j3 kj10 l0 x4_2 x5_2 x6_2 x7_10 x8_2 true false ((rd_T23 l0 x8_2).f0) ((rd_T23 l0 x8_2).f1)) = some r := by rw [if_pos rfl] at H; exact H
                              clear H
                              have H := H1
                              clear H1
                              have H' := Aside0.mk H
                              clear H
                              have hcz35_0 : wc.cell? ⟨gb161, 0, none⟩ = some (.int .i64 ((rd_T23 l0 x8_2).f0)) := (blk_cell BK161.out 0).trans rfl
                              have hcz35_1 : wc.cell? ⟨gb161, 1, none⟩ = some (.int .i64 ((rd_T23 l0 x8_2).f1)) := (blk_cell BK161.out 1).trans rfl
                              have hfz35_0 := blk_frozen BK161.out 0
                              have hfz35_1 := blk_frozen BK161.out 1
                              go_wp2_with (first | ((with_reducible refine gate_callee (f := 10) rfl ?_); refine goesL_ (some 44) rfl rfl Tryd.func10 (by kernel_rfl) rfl #[.agg #[.int .i64 ((rd_T23 l0 x8_2).f0), .int .i64 ((rd_T23 l0 x8_2).f1)]] rfl (by (try simp only [List.map_toArray, List.map_cons, List.map_nil]); first | done | rfl | (simp only [List.length_drop, List.length_take]; rfl)) ?_; (with_reducible refine (need_Valid.calls ((rd_T23 l0 x8_2).f0) ((rd_T23 l0 x8_2).f1) (some q164) _ ?side1 A17.out).mono ?_); (case side1 => exact GlobOK.below HG.out (by repeat (first | (with_reducible first | exact HB.out | apply below_alloc | apply pw_below_drewN | apply below_drew1 | refine below_set ?_ GE161.out) | exact HB.out))); rintro e w36 ⟨rfl, hb⟩; refine ⟨_, rfl, ?_⟩; have n0_ := Aside0.mk (blk_below (g := gb161) (o := .cells #[.int .i64 ((rd_T23 l0 x8_2).f0), .int .i64 ((rd_T23 l0 x8_2).f1)] 23 (0, 0)) (by (with_reducible repeat (first | refine blk_drewN ?_ _ | refine blk_drew ?_ | refine blk_alloc ?_ _)); exact BK161.out) hb); have n1_ := Aside0.mk (below_step (by repeat (first | (with_reducible first | exact HB.out | apply below_alloc | apply pw_below_drewN | apply below_drew1 | refine below_set ?_ GE161.out) | exact HB.out)) hb); clear BK161; clear HB; have BK161 := n0_; have HB := n1_; clear n0_ n1_; (try clear hb); (try clear hb2); (try clear hk); (try clear hi); (try simp only [errW_none, errW_some])))
                              go_meet
                              case rel => exact ⟨_, (false), (by first | rfl | (simp; done) | (simp [*]; done)), H', ⟨by have := HJ3.out; have := HK2.out; have := HJ10.out; first | omega | exact Nat.le_refl _⟩, ⟨by (with_reducible repeat (first | refine blk_drewN ?_ _ | refine blk_drew ?_ | refine blk_alloc ?_ _)); exact BK161.out⟩, ⟨by repeat (first | (with_reducible first | exact HB.out | apply below_alloc | apply pw_below_drewN | apply below_drew1 | refine below_set ?_ GE161.out) | exact HB.out)⟩⟩
                            · replace c34 := Bool.eq_false_iff.mpr c34
                              subst c34
                              have H1 : ((need_Valid.f ((rd_T23 l0 x8_2).f0) ((rd_T23 l0 x8_2).f1)).bind fun t167 => ((pledgesee_Is.f t167 103).bind fun t168 => (pledgelaw17_NeedSays.j3 kj10 l0 x4_2 x5_2 x6_2 x7_10 x8_2 false (!t168) ((rd_T23 l0 x8_2).f0) ((rd_T23 l0 x8_2).f1)))) = some r := by rw [if_neg (show ¬ (false = true) by decide)] at H; exact H
                              clear H
                              have H := H1
                              clear H1
                              replace H := Option.bind_eq_some_iff.mp H
                              obtain ⟨t167, A370, H⟩ := H
                              replace H : ((pledgesee_Is.f t167 103).bind fun t168 => (pledgelaw17_NeedSays.j3 kj10 l0 x4_2 x5_2 x6_2 x7_10 x8_2 false (!t168) ((rd_T23 l0 x8_2).f0) ((rd_T23 l0 x8_2).f1))) = some r := H
                              have A37 := Aside0.mk A370
                              clear A370
                              replace H := Option.bind_eq_some_iff.mp H
                              obtain ⟨t168, A380, H⟩ := H
                              replace H : (pledgelaw17_NeedSays.j3 kj10 l0 x4_2 x5_2 x6_2 x7_10 x8_2 false (!t168) ((rd_T23 l0 x8_2).f0) ((rd_T23 l0 x8_2).f1)) = some r := H
                              have A38 := Aside0.mk A380
                              clear A380
                              have H' := Aside0.mk H
                              clear H
                              have hcz39_0 : wc.cell? ⟨gb161, 0, none⟩ = some (.int .i64 ((rd_T23 l0 x8_2).f0)) := (blk_cell BK161.out 0).trans rfl
                              have hcz39_1 : wc.cell? ⟨gb161, 1, none⟩ = some (.int .i64 ((rd_T23 l0 x8_2).f1)) := (blk_cell BK161.out 1).trans rfl
                              have hfz39_0 := blk_frozen BK161.out 0
                              have hfz39_1 := blk_frozen BK161.out 1
                              go_wp2_with (first | ((with_reducible refine gate_callee (f := 10) rfl ?_); refine goesL_ (some 44) rfl rfl Tryd.func10 (by kernel_rfl) rfl #[.agg #[.int .i64 ((rd_T23 l0 x8_2).f0), .int .i64 ((rd_T23 l0 x8_2).f1)]] rfl (by (try simp only [List.map_toArray, List.map_cons, List.map_nil]); first | done | rfl | (simp only [List.length_drop, List.length_take]; rfl)) ?_; (with_reducible refine (need_Valid.calls ((rd_T23 l0 x8_2).f0) ((rd_T23 l0 x8_2).f1) (some q164) _ ?side1 A17.out).mono ?_); (case side1 => exact GlobOK.below HG.out (by repeat (first | (with_reducible first | exact HB.out | apply below_alloc | apply pw_below_drewN | apply below_drew1 | refine below_set ?_ GE161.out) | exact HB.out))); rintro e w40 ⟨rfl, hb⟩; refine ⟨_, rfl, ?_⟩; have n0_ := Aside0.mk (blk_below (g := gb161) (o := .cells #[.int .i64 ((rd_T23 l0 x8_2).f0), .int .i64 ((rd_T23 l0 x8_2).f1)] 23 (0, 0)) (by (with_reducible repeat (first | refine blk_drewN ?_ _ | refine blk_drew ?_ | refine blk_alloc ?_ _)); exact BK161.out) hb); have n1_ := Aside0.mk (below_step (by repeat (first | (with_reducible first | exact HB.out | apply below_alloc | apply pw_below_drewN | apply below_drew1 | refine below_set ?_ GE161.out) | exact HB.out)) hb); clear BK161; clear HB; have BK161 := n0_; have HB := n1_; clear n0_ n1_; (try clear hb); (try clear hb2); (try clear hk); (try clear hi); (try simp only [errW_none, errW_some]); have hcz41_0 : w40.cell? ⟨gb161, 0, none⟩ = some (.int .i64 ((rd_T23 l0 x8_2).f0)) := (blk_cell BK161.out 0).trans rfl; have hcz41_1 : w40.cell? ⟨gb161, 1, none⟩ = some (.int .i64 ((rd_T23 l0 x8_2).f1)) := (blk_cell BK161.out 1).trans rfl; have hfz41_0 := blk_frozen BK161.out 0; have hfz41_1 := blk_frozen BK161.out 1) | (go_at_call 10; (with_reducible refine (need_Valid.calls ((rd_T23 l0 x8_2).f0) ((rd_T23 l0 x8_2).f1) t167 _ ?side1 A37.out).mono ?_); (case side1 => exact GlobOK.below HG.out (by repeat (first | (with_reducible first | exact HB.out | apply below_alloc | apply pw_below_drewN | apply below_drew1 | refine below_set ?_ GE161.out) | exact HB.out))); rintro e w42 ⟨rfl, hb⟩; have n0_ := Aside0.mk (blk_below (g := gb161) (o := .cells #[.int .i64 ((rd_T23 l0 x8_2).f0), .int .i64 ((rd_T23 l0 x8_2).f1)] 23 (0, 0)) (by (with_reducible repeat (first | refine blk_drewN ?_ _ | refine blk_drew ?_ | refine blk_alloc ?_ _)); exact BK161.out) hb); have n1_ := Aside0.mk (below_step (by repeat (first | (with_reducible first | exact HB.out | apply below_alloc | apply pw_below_drewN | apply below_drew1 | refine below_set ?_ GE161.out) | exact HB.out)) hb); clear BK161; clear HB; have BK161 := n0_; have HB := n1_; clear n0_ n1_; (try clear hb); (try clear hb2); (try clear hk); (try clear hi); (try simp only [errW_none, errW_some]); have CA38 := fun W hG_ => pledgesee_Is.calls t167 103 t168 W hG_ A38.out; try simp only [errW_none, errW_some] at CA38) | (go_at_call 15; (with_reducible refine (CA38 _ ?side1).mono ?_); (case side1 => exact GlobOK.below HG.out (by repeat (first | (with_reducible first | exact HB.out | apply below_alloc | apply pw_below_drewN | apply below_drew1 | refine below_set ?_ GE161.out) | exact HB.out))); rintro e w43 ⟨rfl, hb⟩; have n0_ := Aside0.mk (blk_below (g := gb161) (o := .cells #[.int .i64 ((rd_T23 l0 x8_2).f0), .int .i64 ((rd_T23 l0 x8_2).f1)] 23 (0, 0)) (by (with_reducible repeat (first | refine blk_drewN ?_ _ | refine blk_drew ?_ | refine blk_alloc ?_ _)); exact BK161.out) hb); have n1_ := Aside0.mk (below_step (by repeat (first | (with_reducible first | exact HB.out | apply below_alloc | apply pw_below_drewN | apply below_drew1 | refine below_set ?_ GE161.out) | exact HB.out)) hb); clear BK161; clear HB; have BK161 := n0_; have HB := n1_; clear n0_ n1_; (try clear hb); (try clear hb2); (try clear hk); (try clear hi)))
                              go_meet
                              case rel => exact ⟨_, (!t168), (by first | rfl | (simp; done) | (simp [*]; done)), H', ⟨by have := HJ3.out; have := HK2.out; have := HJ10.out; first | omega | exact Nat.le_refl _⟩, ⟨by (with_reducible repeat (first | refine blk_drewN ?_ _ | refine blk_drew ?_ | refine blk_alloc ?_ _)); exact BK161.out⟩, ⟨by repeat (first | (with_reducible first | exact HB.out | apply below_alloc | apply pw_below_drewN | apply below_drew1 | refine below_set ?_ GE161.out) | exact HB.out)⟩⟩
                      case rest =>
                        clear HC16
                        try clear c1
                        try clear p1
                        try clear q1
                        try clear hx1
                        try clear c2
                        try clear p2
                        try clear c3
                        try clear c5
                        try clear c6
                        try clear c6b0
                        try clear c6b1
                        try clear c7
                        try clear c8
                        try clear c8b0
                        try clear c9
                        try clear c9b0
                        try clear c10
                        try clear c15
                        try clear p16
                        try clear q16
                        try clear hx16
                        try clear c18
                        try clear c18b0
                        try clear c18b1
                        try clear c18b2
                        try clear c21
                        try clear c31
                        try clear c31b0
                        try clear c31b1
                        try clear c31b2
                        try clear c34
                        try clear hcz13_0
                        try clear hcz13_1
                        try clear hcz19_0
                        try clear hcz19_1
                        try clear hcz22_0
                        try clear hcz22_1
                        try clear hcz26_0
                        try clear hcz26_1
                        try clear hcz28_0
                        try clear hcz28_1
                        try clear hcz32_0
                        try clear hcz32_1
                        try clear hcz35_0
                        try clear hcz35_1
                        try clear hcz39_0
                        try clear hcz39_1
                        try clear hcz41_0
                        try clear hcz41_1
                        try clear hfz13_0
                        try clear hfz13_1
                        try clear hfz19_0
                        try clear hfz19_1
                        try clear hfz22_0
                        try clear hfz22_1
                        try clear hfz26_0
                        try clear hfz26_1
                        try clear hfz28_0
                        try clear hfz28_1
                        try clear hfz32_0
                        try clear hfz32_1
                        try clear hfz35_0
                        try clear hfz35_1
                        try clear hfz39_0
                        try clear hfz39_1
                        try clear hfz41_0
                        try clear hfz41_1
                        try clear hx160_0
                        try clear hx160_1
                        try clear p1
                        try clear p160
                        try clear p2
                        try clear q1
                        try clear q160
                        try clear q164
                        obtain ⟨kq, x57_15, rfl, HA, HJ15, BK161, HB⟩ := hcut
                        cases kq with
                        | zero => exact absurd HA.out (by simp [pledgelaw17_NeedSays.j3])
                        | succ kj15 =>
                          have H := HA.out
                          clear HA
                          simp only [pledgelaw17_NeedSays.j3] at H
                          by_cases c44 : x57_15 = true
                          · subst c44
                            have H1 : (some false) = some r := by rw [if_pos rfl] at H; exact H
                            clear H
                            have H := H1
                            clear H1
                            obtain rfl := Option.some.inj H
                            go_wp2
                            go_ret
                            exact ⟨by first | rfl | (simp [errW_none, errW_some] <;> rfl) | (simp [*, errW_none, errW_some] <;> rfl), by repeat (first | (with_reducible first | exact HB.out | apply below_alloc | apply pw_below_drewN | apply below_drew1 | refine below_set ?_ GE161.out) | exact HB.out)⟩
                          · replace c44 := Bool.eq_false_iff.mpr c44
                            subst c44
                            have H1 : (if t162 = true then ((pledgeref10_Short.f ((rd_T23 l0 x8_2).f0) ((rd_T23 l0 x8_2).f1)).bind fun t169 => ((need_Short.f ((rd_T23 l0 x8_2).f0) ((rd_T23 l0 x8_2).f1)).bind fun t170 => (if t170 = t169 then ((need_Bound.f ((rd_T23 l0 x8_2).f0) ((rd_T23 l0 x8_2).f1)).bind fun t171 => (if (t171 != (decide (t169 > 0))) = true then (pledgelaw17_NeedSays.j4 kj15 l0 x4_2 x5_2 x6_2 x7_10 x8_2 t169 true) else ((need_Spare.f ((rd_T23 l0 x8_2).f0) ((rd_T23 l0 x8_2).f1)).bind fun t172 => (pledgelaw17_NeedSays.j4 kj15 l0 x4_2 x5_2 x6_2 x7_10 x8_2 t169 (t172 != (mx 0 (wrap64 (((rd_T23 l0 x8_2).f1) - ((rd_T23 l0 x8_2).f0))))))))) else (pledgelaw17_NeedSays.j4 kj15 l0 x4_2 x5_2 x6_2 x7_10 x8_2 t169 true)))) else (pledgelaw17_NeedSays.l0 kj15 l0 x4_2 x5_2 x6_2 x7_10 (wrap64 (x8_2 + 1)))) = some r := by rw [if_neg (show ¬ (false = true) by decide)] at H; exact H
                            clear H
                            have H := H1
                            clear H1
                            by_cases c45 : t162 = true
                            · subst c45
                              have H1 : ((pledgeref10_Short.f ((rd_T23 l0 x8_2).f0) ((rd_T23 l0 x8_2).f1)).bind fun t169 => ((need_Short.f ((rd_T23 l0 x8_2).f0) ((rd_T23 l0 x8_2).f1)).bind fun t170 => (if t170 = t169 then ((need_Bound.f ((rd_T23 l0 x8_2).f0) ((rd_T23 l0 x8_2).f1)).bind fun t171 => (if (t171 != (decide (t169 > 0))) = true then (pledgelaw17_NeedSays.j4 kj15 l0 x4_2 x5_2 x6_2 x7_10 x8_2 t169 true) else ((need_Spare.f ((rd_T23 l0 x8_2).f0) ((rd_T23 l0 x8_2).f1)).bind fun t172 => (pledgelaw17_NeedSays.j4 kj15 l0 x4_2 x5_2 x6_2 x7_10 x8_2 t169 (t172 != (mx 0 (wrap64 (((rd_T23 l0 x8_2).f1) - ((rd_T23 l0 x8_2).f0))))))))) else (pledgelaw17_NeedSays.j4 kj15 l0 x4_2 x5_2 x6_2 x7_10 x8_2 t169 true)))) = some r := by rw [if_pos rfl] at H; exact H
                              clear H
                              have H := H1
                              clear H1
                              replace H := Option.bind_eq_some_iff.mp H
                              obtain ⟨t169, A460, H⟩ := H
                              replace H : ((need_Short.f ((rd_T23 l0 x8_2).f0) ((rd_T23 l0 x8_2).f1)).bind fun t170 => (if t170 = t169 then ((need_Bound.f ((rd_T23 l0 x8_2).f0) ((rd_T23 l0 x8_2).f1)).bind fun t171 => (if (t171 != (decide (t169 > 0))) = true then (pledgelaw17_NeedSays.j4 kj15 l0 x4_2 x5_2 x6_2 x7_10 x8_2 t169 true) else ((need_Spare.f ((rd_T23 l0 x8_2).f0) ((rd_T23 l0 x8_2).f1)).bind fun t172 => (pledgelaw17_NeedSays.j4 kj15 l0 x4_2 x5_2 x6_2 x7_10 x8_2 t169 (t172 != (mx 0 (wrap64 (((rd_T23 l0 x8_2).f1) - ((rd_T23 l0 x8_2).f0))))))))) else (pledgelaw17_NeedSays.j4 kj15 l0 x4_2 x5_2 x6_2 x7_10 x8_2 t169 true))) = some r := H
                              have A46 := Aside0.mk A460
                              clear A460
                              have HC47 := Aside0.mk H
                              clear H
                              have hcz48_0 : wc.cell? ⟨gb161, 0, none⟩ = some (.int .i64 ((rd_T23 l0 x8_2).f0)) := (blk_cell BK161.out 0).trans rfl
                              have hcz48_1 : wc.cell? ⟨gb161, 1, none⟩ = some (.int .i64 ((rd_T23 l0 x8_2).f1)) := (blk_cell BK161.out 1).trans rfl
                              have hfz48_0 := blk_frozen BK161.out 0
                              have hfz48_1 := blk_frozen BK161.out 1
                              go_upto_region 20 with (first | ((with_reducible refine gate_callee (f := 16) rfl ?_); refine goesL_ (some 64) rfl rfl Tryd.func16 (by kernel_rfl) rfl #[.int .i64 ((rd_T23 l0 x8_2).f0), .int .i64 ((rd_T23 l0 x8_2).f1)] rfl (by (try simp only [List.map_toArray, List.map_cons, List.map_nil]); first | done | rfl | (simp only [List.length_drop, List.length_take]; rfl)) ?_; (with_reducible refine (pledgeref10_Short.calls ((rd_T23 l0 x8_2).f0) ((rd_T23 l0 x8_2).f1) t169 _ A46.out).mono ?_); rintro e w49 ⟨rfl, hb⟩; refine ⟨_, rfl, ?_⟩; have n0_ := Aside0.mk (blk_below (g := gb161) (o := .cells #[.int .i64 ((rd_T23 l0 x8_2).f0), .int .i64 ((rd_T23 l0 x8_2).f1)] 23 (0, 0)) (by (with_reducible repeat (first | refine blk_drewN ?_ _ | refine blk_drew ?_ | refine blk_alloc ?_ _)); exact BK161.out) hb); have n1_ := Aside0.mk (below_step (by repeat (first | (with_reducible first | exact HB.out | apply below_alloc | apply pw_below_drewN | apply below_drew1 | refine below_set ?_ GE161.out) | exact HB.out)) hb); clear BK161; clear HB; have BK161 := n0_; have HB := n1_; clear n0_ n1_; (try clear hb); (try clear hb2); (try clear hk); (try clear hi)))
                              (try simp only [Act.put, List.setIfInBounds_toArray, List.set_cons_zero, List.set_cons_succ])
                              go_cut [86] (fun v86 wc => ∃ (kq : Nat) (x86_46 : Bool), v86 = .bool x86_46 ∧ Aside0 (pledgelaw17_NeedSays.j4 kq l0 x4_2 x5_2 x6_2 x7_10 x8_2 t169 x86_46 = some r) ∧ Aside0 (kq ≤ kj15) ∧ Aside0 (wc.heap[gb161]? = some (.cells #[.int .i64 ((rd_T23 l0 x8_2).f0), .int .i64 ((rd_T23 l0 x8_2).f1)] 23 (0, 0))) ∧ Aside0 (Below w.heap.size w wc))
                              case first =>
                                have H := HC47.out
                                clear HC47
                                replace H := Option.bind_eq_some_iff.mp H
                                obtain ⟨t170, A500, H⟩ := H
                                replace H : (if t170 = t169 then ((need_Bound.f ((rd_T23 l0 x8_2).f0) ((rd_T23 l0 x8_2).f1)).bind fun t171 => (if (t171 != (decide (t169 > 0))) = true then (pledgelaw17_NeedSays.j4 kj15 l0 x4_2 x5_2 x6_2 x7_10 x8_2 t169 true) else ((need_Spare.f ((rd_T23 l0 x8_2).f0) ((rd_T23 l0 x8_2).f1)).bind fun t172 => (pledgelaw17_NeedSays.j4 kj15 l0 x4_2 x5_2 x6_2 x7_10 x8_2 t169 (t172 != (mx 0 (wrap64 (((rd_T23 l0 x8_2).f1) - ((rd_T23 l0 x8_2).f0))))))))) else (pledgelaw17_NeedSays.j4 kj15 l0 x4_2 x5_2 x6_2 x7_10 x8_2 t169 true)) = some r := H
                                have A50 := Aside0.mk A500
                                clear A500
                                by_cases c51 : t170 = t169
                                · rw [if_pos c51] at H
                                  have c51b0 : (t170 == t169) = true := beq_iff_eq.mpr c51
                                  have c51b1 : (t170 != t169) = false := bne_eq_false_iff_eq.mpr c51
                                  clear c51
                                  (first | rw [c51b0] | (simp only [i64_w, i32_w]; rw [c51b0]) | skip)
                                  replace H := Option.bind_eq_some_iff.mp H
                                  obtain ⟨t171, A520, H⟩ := H
                                  replace H : (if (t171 != (decide (t169 > 0))) = true then (pledgelaw17_NeedSays.j4 kj15 l0 x4_2 x5_2 x6_2 x7_10 x8_2 t169 true) else ((need_Spare.f ((rd_T23 l0 x8_2).f0) ((rd_T23 l0 x8_2).f1)).bind fun t172 => (pledgelaw17_NeedSays.j4 kj15 l0 x4_2 x5_2 x6_2 x7_10 x8_2 t169 (t172 != (mx 0 (wrap64 (((rd_T23 l0 x8_2).f1) - ((rd_T23 l0 x8_2).f0)))))))) = some r := H
                                  have A52 := Aside0.mk A520
                                  clear A520
                                  by_cases c53 : (t171 != (decide (t169 > 0))) = true
                                  · rw [if_pos c53] at H
                                    have c53b0 : (t171 != (decide (t169 > 0))) = true := c53
                                    (try (have c53b1 : decide (t171 = (decide (t169 > 0))) = false := by simpa using c53))
                                    (try (have c53b2 : (t171 == (decide (t169 > 0))) = false := by simpa using c53))
                                    (try (have c53b3 : ¬ (t171 = (decide (t169 > 0))) := by simpa using c53))
                                    clear c53
                                    have H' := Aside0.mk H
                                    clear H
                                    try go_wp2
                                    have n0_ := Aside0.mk (blk_drew BK161.out)
                                    have n1_ := Aside0.mk (below_drew1 HB.out)
                                    clear BK161
                                    clear HB
                                    have BK161 := n0_
                                    have HB := n1_
                                    clear n0_ n1_
                                    refine start_ (n := 22) (S := fun w' => w'.cell? ⟨gb161, 0, none⟩ = some (.int .i64 ((rd_T23 l0 x8_2).f0)) ∧ w'.cell? ⟨gb161, 1, none⟩ = some (.int .i64 ((rd_T23 l0 x8_2).f1))) (ds := []) #[false, false, false, false, false, false, false, false, false, false, false, false, false, false, false, false, false, false, false, false, false, false] (by kernel_rfl) rfl rfl ⟨(blk_cell BK161.out 0).trans rfl, (blk_cell BK161.out 1).trans rfl⟩ (fun hHeld => ?_); refine with_tabW pledgelaw17_NeedSays.tab20 pledgelaw17_NeedSays.bits20 (fun HT_ HW_ => ?_)
                                    generalize w49.drew = w54 at BK161 HB hHeld ⊢
                                    refine pure_ (i := 2) (N := some 67) (v := ?_) (a' := ?_) #[false, false, true, false, false, false, false, false, false, false, false, false, false, false, false, false, false, false, false, false, false, false] rfl rfl (any_of HT_.out (by kernel_rfl)) (fun _ _ _ h => h) (Or.inl ⟨by rfl, ?_⟩) ?_ ?_
                                    rotate_left
                                    · intro w'
                                      go_simp
                                      with_reducible rfl
                                    rotate_left
                                    · simp only [Act.put, List.setIfInBounds_toArray, List.set_cons_zero, List.set_cons_succ, i64_w, i32_w]
                                      rfl
                                    refine take_ (i := 0) (N := some 65) (v := ?_) (a' := ?_) #[true, false, true, false, false, false, false, false, false, false, false, false, false, false, false, false, false, false, false, false, false, false] rfl rfl (take_ofW HT_.out HW_.out (by kernel_rfl)) (fun _ _ _ h => h) (Or.inl ⟨by rfl, ?_⟩) hHeld ?_ ?_
                                    rotate_left
                                    · rintro w' ⟨s0, s1⟩
                                      go_simp
                                      with_reducible rfl
                                    rotate_left
                                    · simp only [Act.put, List.setIfInBounds_toArray, List.set_cons_zero, List.set_cons_succ, i64_w, i32_w]
                                      rfl
                                    refine one_ (i := 1) (N := some 66) #[true, true, true, false, false, false, false, false, false, false, false, false, false, false, false, false, false, false, false, false, false, false] rfl rfl (one_of HT_.out (by kernel_rfl)) (by decide) (fun K hK => ?_)
                                    refine goes_ Tryd.func8 (by kernel_rfl) rfl #[.agg #[.int .i64 ((rd_T23 l0 x8_2).f0), .int .i64 ((rd_T23 l0 x8_2).f1)]] (by rfl) rfl rfl (by (try simp only [List.map_toArray, List.map_cons, List.map_nil]); first | done | rfl | (simp only [List.length_drop, List.length_take]; rfl)) ?_
                                    with_reducible refine (need_Short.calls ((rd_T23 l0 x8_2).f0) ((rd_T23 l0 x8_2).f1) t170 _ A50.out).mono ?_
                                    rintro e w55 ⟨rfl, hb⟩
                                    refine ⟨_, rfl, ?_⟩
                                    have n0_ := Aside0.mk (blk_below (g := gb161) (o := .cells #[.int .i64 ((rd_T23 l0 x8_2).f0), .int .i64 ((rd_T23 l0 x8_2).f1)] 23 (0, 0)) (by (with_reducible repeat (first | refine blk_drewN ?_ _ | refine blk_drew ?_ | refine blk_alloc ?_ _)); exact BK161.out) hb)
                                    have n1_ := Aside0.mk (below_step (by repeat (first | (with_reducible first | exact HB.out | apply below_alloc | apply pw_below_drewN | apply below_drew1 | refine below_set ?_ GE161.out) | exact HB.out)) hb)
                                    clear BK161
                                    clear HB
                                    have BK161 := n0_
                                    have HB := n1_
                                    clear n0_ n1_
                                    (try clear hb)
                                    (try clear hb2)
                                    (try clear hk)
                                    (try clear hi)
                                    refine hK.out _ _ ⟨(blk_cell BK161.out 0).trans rfl, (blk_cell BK161.out 1).trans rfl⟩ (fun hHeld => ?_)
                                    clear hK K
                                    refine norm_ (a' := ?_) ?_ ?_
                                    rotate_left
                                    · show Act.put _ (some 66) _ = _
                                      simp only [Act.put, List.setIfInBounds_toArray, List.set_cons_zero, List.set_cons_succ, i64_w, i32_w]
                                      rfl
                                    refine pure_ (i := 3) (N := some 68) (v := ?_) (a' := ?_) #[true, true, true, true, false, false, false, false, false, false, false, false, false, false, false, false, false, false, false, false, false, false] rfl rfl (any_of HT_.out (by kernel_rfl)) (fun _ _ _ h => h) (Or.inl ⟨by rfl, ?_⟩) ?_ ?_
                                    rotate_left
                                    · intro w'
                                      go_simp
                                      with_reducible rfl
                                    rotate_left
                                    · simp only [Act.put, List.setIfInBounds_toArray, List.set_cons_zero, List.set_cons_succ, i64_w, i32_w]
                                      rfl
                                    refine pure_ (i := 4) (N := some 69) (v := ?_) (a' := ?_) #[true, true, true, true, true, false, false, false, false, false, false, false, false, false, false, false, false, false, false, false, false, false] rfl rfl (any_of HT_.out (by kernel_rfl)) (fun _ _ _ h => h) (Or.inl ⟨by rfl, ?_⟩) ?_ ?_
                                    rotate_left
                                    · intro w'
                                      go_simp
                                      with_reducible rfl
                                    rotate_left
                                    · simp only [Act.put, List.setIfInBounds_toArray, List.set_cons_zero, List.set_cons_succ, i64_w, i32_w]
                                      rfl
                                    refine pure_ (i := 7) (N := some 72) (v := ?_) (a' := ?_) #[true, true, true, true, true, false, false, true, false, false, false, false, false, false, false, false, false, false, false, false, false, false] rfl rfl (any_of HT_.out (by kernel_rfl)) (fun _ _ _ h => h) (Or.inl ⟨by rfl, ?_⟩) ?_ ?_
                                    rotate_left
                                    · intro w'
                                      go_simp
                                      with_reducible rfl
                                    rotate_left
                                    · simp only [Act.put, List.setIfInBounds_toArray, List.set_cons_zero, List.set_cons_succ, i64_w, i32_w]
                                      rfl
                                    refine pure_ (i := 8) (N := some 73) (v := ?_) (a' := ?_) #[true, true, true, true, true, false, false, true, true, false, false, false, false, false, false, false, false, false, false, false, false, false] rfl rfl (any_of HT_.out (by kernel_rfl)) (fun _ _ _ h => h) (Or.inl ⟨by rfl, ?_⟩) ?_ ?_
                                    rotate_left
                                    · intro w'
                                      go_simp
                                      with_reducible rfl
                                    rotate_left
                                    · simp only [Act.put, List.setIfInBounds_toArray, List.set_cons_zero, List.set_cons_succ, i64_w, i32_w]
                                      rfl
                                    refine take_ (i := 5) (N := some 70) (v := ?_) (a' := ?_) #[true, true, true, true, true, true, false, true, true, false, false, false, false, false, false, false, false, false, false, false, false, false] rfl rfl (take_ofW HT_.out HW_.out (by kernel_rfl)) (fun _ _ _ h => h) (Or.inl ⟨by rfl, ?_⟩) hHeld ?_ ?_
                                    rotate_left
                                    · rintro w' ⟨s0, s1⟩
                                      go_simp
                                      with_reducible rfl
                                    rotate_left
                                    · simp only [Act.put, List.setIfInBounds_toArray, List.set_cons_zero, List.set_cons_succ, i64_w, i32_w]
                                      rfl
                                    refine one_ (i := 6) (N := some 71) #[true, true, true, true, true, true, true, true, true, false, false, false, false, false, false, false, false, false, false, false, false, false] rfl rfl (one_of HT_.out (by kernel_rfl)) (by decide) (fun K hK => ?_)
                                    refine goes_ Tryd.func11 (by kernel_rfl) rfl #[.agg #[.int .i64 ((rd_T23 l0 x8_2).f0), .int .i64 ((rd_T23 l0 x8_2).f1)]] (by rfl) rfl rfl (by (try simp only [List.map_toArray, List.map_cons, List.map_nil]); first | done | rfl | (simp only [List.length_drop, List.length_take]; rfl)) ?_
                                    with_reducible refine (need_Bound.calls ((rd_T23 l0 x8_2).f0) ((rd_T23 l0 x8_2).f1) t171 _ A52.out).mono ?_
                                    rintro e w56 ⟨rfl, hb⟩
                                    refine ⟨_, rfl, ?_⟩
                                    have n0_ := Aside0.mk (blk_below (g := gb161) (o := .cells #[.int .i64 ((rd_T23 l0 x8_2).f0), .int .i64 ((rd_T23 l0 x8_2).f1)] 23 (0, 0)) (by (with_reducible repeat (first | refine blk_drewN ?_ _ | refine blk_drew ?_ | refine blk_alloc ?_ _)); exact BK161.out) hb)
                                    have n1_ := Aside0.mk (below_step (by repeat (first | (with_reducible first | exact HB.out | apply below_alloc | apply pw_below_drewN | apply below_drew1 | refine below_set ?_ GE161.out) | exact HB.out)) hb)
                                    clear BK161
                                    clear HB
                                    have BK161 := n0_
                                    have HB := n1_
                                    clear n0_ n1_
                                    (try clear hb)
                                    (try clear hb2)
                                    (try clear hk)
                                    (try clear hi)
                                    refine hK.out _ _ ⟨(blk_cell BK161.out 0).trans rfl, (blk_cell BK161.out 1).trans rfl⟩ (fun hHeld => ?_)
                                    clear hK K
                                    refine norm_ (a' := ?_) ?_ ?_
                                    rotate_left
                                    · show Act.put _ (some 71) _ = _
                                      simp only [Act.put, List.setIfInBounds_toArray, List.set_cons_zero, List.set_cons_succ, i64_w, i32_w]
                                      rfl
                                    refine pure_ (i := 9) (N := some 74) (v := ?_) (a' := ?_) #[true, true, true, true, true, true, true, true, true, true, false, false, false, false, false, false, false, false, false, false, false, false] rfl rfl (any_of HT_.out (by kernel_rfl)) (fun _ _ _ h => h) (Or.inl ⟨by rfl, ?_⟩) ?_ ?_
                                    rotate_left
                                    · intro w'
                                      go_simp
                                      with_reducible rfl
                                    rotate_left
                                    · simp only [Act.put, List.setIfInBounds_toArray, List.set_cons_zero, List.set_cons_succ, i64_w, i32_w]
                                      rfl
                                    refine pure_ (i := 10) (N := some 75) (v := ?_) (a' := ?_) #[true, true, true, true, true, true, true, true, true, true, true, false, false, false, false, false, false, false, false, false, false, false] rfl rfl (any_of HT_.out (by kernel_rfl)) (fun _ _ _ h => h) (Or.inl ⟨by rfl, ?_⟩) ?_ ?_
                                    rotate_left
                                    · intro w'
                                      go_simp
                                      with_reducible rfl
                                    rotate_left
                                    · simp only [Act.put, List.setIfInBounds_toArray, List.set_cons_zero, List.set_cons_succ, i64_w, i32_w]
                                      rfl
                                    refine pure_ (i := 11) (N := some 76) (v := ?_) (a' := ?_) #[true, true, true, true, true, true, true, true, true, true, true, true, false, false, false, false, false, false, false, false, false, false] rfl rfl (any_of HT_.out (by kernel_rfl)) (fun _ _ _ h => h) (Or.inl ⟨by rfl, ?_⟩) ?_ ?_
                                    rotate_left
                                    · intro w'
                                      go_simp
                                      with_reducible rfl
                                    rotate_left
                                    · simp only [Act.put, List.setIfInBounds_toArray, List.set_cons_zero, List.set_cons_succ, i64_w, i32_w]
                                      rfl
                                    refine pure_ (i := 12) (N := some 77) (v := undef) (a' := ?_) #[true, true, true, true, true, true, true, true, true, true, true, true, true, false, false, false, false, false, false, false, false, false] rfl rfl (any_of HT_.out (by kernel_rfl)) (fun _ _ _ h => h) (Or.inr ⟨by rfl, rfl⟩) ?_ ?_
                                    rotate_left
                                    · simp only [Act.put, List.setIfInBounds_toArray, List.set_cons_zero, List.set_cons_succ, i64_w, i32_w]
                                      rfl
                                    refine pure_ (i := 13) (N := some 78) (v := undef) (a' := ?_) #[true, true, true, true, true, true, true, true, true, true, true, true, true, true, false, false, false, false, false, false, false, false] rfl rfl (any_of HT_.out (by kernel_rfl)) (fun _ _ _ h => h) (Or.inr ⟨by rfl, rfl⟩) ?_ ?_
                                    rotate_left
                                    · simp only [Act.put, List.setIfInBounds_toArray, List.set_cons_zero, List.set_cons_succ, i64_w, i32_w]
                                      rfl
                                    refine pure_ (i := 14) (N := some 79) (v := undef) (a' := ?_) #[true, true, true, true, true, true, true, true, true, true, true, true, true, true, true, false, false, false, false, false, false, false] rfl rfl (any_of HT_.out (by kernel_rfl)) (fun _ _ _ h => h) (Or.inr ⟨by rfl, rfl⟩) ?_ ?_
                                    rotate_left
                                    · simp only [Act.put, List.setIfInBounds_toArray, List.set_cons_zero, List.set_cons_succ, i64_w, i32_w]
                                      rfl
                                    refine pure_ (i := 15) (N := some 80) (v := undef) (a' := ?_) #[true, true, true, true, true, true, true, true, true, true, true, true, true, true, true, true, false, false, false, false, false, false] rfl rfl (any_of HT_.out (by kernel_rfl)) (fun _ _ _ h => h) (Or.inr ⟨by rfl, rfl⟩) ?_ ?_
                                    rotate_left
                                    · simp only [Act.put, List.setIfInBounds_toArray, List.set_cons_zero, List.set_cons_succ, i64_w, i32_w]
                                      rfl
                                    refine pure_ (i := 16) (N := some 81) (v := undef) (a' := ?_) #[true, true, true, true, true, true, true, true, true, true, true, true, true, true, true, true, true, false, false, false, false, false] rfl rfl (any_of HT_.out (by kernel_rfl)) (fun _ _ _ h => h) (Or.inr ⟨by rfl, rfl⟩) ?_ ?_
                                    rotate_left
                                    · simp only [Act.put, List.setIfInBounds_toArray, List.set_cons_zero, List.set_cons_succ, i64_w, i32_w]
                                      rfl
                                    refine pure_ (i := 17) (N := some 82) (v := undef) (a' := ?_) #[true, true, true, true, true, true, true, true, true, true, true, true, true, true, true, true, true, true, false, false, false, false] rfl rfl (any_of HT_.out (by kernel_rfl)) (fun _ _ _ h => h) (Or.inr ⟨by rfl, rfl⟩) ?_ ?_
                                    rotate_left
                                    · simp only [Act.put, List.setIfInBounds_toArray, List.set_cons_zero, List.set_cons_succ, i64_w, i32_w]
                                      rfl
                                    refine pure_ (i := 18) (N := some 83) (v := undef) (a' := ?_) #[true, true, true, true, true, true, true, true, true, true, true, true, true, true, true, true, true, true, true, false, false, false] rfl rfl (any_of HT_.out (by kernel_rfl)) (fun _ _ _ h => h) (Or.inr ⟨by rfl, rfl⟩) ?_ ?_
                                    rotate_left
                                    · simp only [Act.put, List.setIfInBounds_toArray, List.set_cons_zero, List.set_cons_succ, i64_w, i32_w]
                                      rfl
                                    refine pure_ (i := 19) (N := some 84) (v := undef) (a' := ?_) #[true, true, true, true, true, true, true, true, true, true, true, true, true, true, true, true, true, true, true, true, false, false] rfl rfl (any_of HT_.out (by kernel_rfl)) (fun _ _ _ h => h) (Or.inr ⟨by rfl, rfl⟩) ?_ ?_
                                    rotate_left
                                    · simp only [Act.put, List.setIfInBounds_toArray, List.set_cons_zero, List.set_cons_succ, i64_w, i32_w]
                                      rfl
                                    refine pure_ (i := 20) (N := some 85) (v := undef) (a' := ?_) #[true, true, true, true, true, true, true, true, true, true, true, true, true, true, true, true, true, true, true, true, true, false] rfl rfl (any_of HT_.out (by kernel_rfl)) (fun _ _ _ h => h) (Or.inr ⟨by rfl, rfl⟩) ?_ ?_
                                    rotate_left
                                    · simp only [Act.put, List.setIfInBounds_toArray, List.set_cons_zero, List.set_cons_succ, i64_w, i32_w]
                                      rfl
                                    refine pure_ (i := 21) (N := some 86) (v := ?_) (a' := ?_) #[true, true, true, true, true, true, true, true, true, true, true, true, true, true, true, true, true, true, true, true, true, true] rfl rfl (any_of HT_.out (by kernel_rfl)) (fun _ _ _ h => h) (Or.inl ⟨by rfl, ?_⟩) ?_ ?_
                                    rotate_left
                                    · intro w'
                                      go_simp
                                      with_reducible rfl
                                    rotate_left
                                    · simp only [Act.put, List.setIfInBounds_toArray, List.set_cons_zero, List.set_cons_succ, i64_w, i32_w]
                                      rfl
                                    refine done_ (done_of HT_.out (by kernel_rfl)) ?_
                                    try go_wp2
                                    go_meet
                                    case rel => exact ⟨_, (true), (by first | rfl | (simp; done) | (simp [*]; done)), H', ⟨by have := HJ3.out; have := HK2.out; have := HJ10.out; have := HJ15.out; first | omega | exact Nat.le_refl _⟩, ⟨by (with_reducible repeat (first | refine blk_drewN ?_ _ | refine blk_drew ?_ | refine blk_alloc ?_ _)); exact BK161.out⟩, ⟨by repeat (first | (with_reducible first | exact HB.out | apply below_alloc | apply pw_below_drewN | apply below_drew1 | refine below_set ?_ GE161.out) | exact HB.out)⟩⟩
                                  · rw [if_neg c53] at H
                                    have c53b0 : (t171 != (decide (t169 > 0))) = false := by simpa using c53
                                    (try (have c53b1 : decide (t171 = (decide (t169 > 0))) = true := by simpa using c53))
                                    (try (have c53b2 : (t171 == (decide (t169 > 0))) = true := by simpa using c53))
                                    clear c53
                                    replace H := Option.bind_eq_some_iff.mp H
                                    obtain ⟨t172, A570, H⟩ := H
                                    replace H : (pledgelaw17_NeedSays.j4 kj15 l0 x4_2 x5_2 x6_2 x7_10 x8_2 t169 (t172 != (mx 0 (wrap64 (((rd_T23 l0 x8_2).f1) - ((rd_T23 l0 x8_2).f0)))))) = some r := H
                                    have A57 := Aside0.mk A570
                                    clear A570
                                    obtain ⟨ji58, hji58⟩ : ∃ j_ : Int, (mx 0 (wrap64 (((rd_T23 l0 x8_2).f1) - ((rd_T23 l0 x8_2).f0)))) = j_ := ⟨_, rfl⟩
                                    replace H : (pledgelaw17_NeedSays.j4 kj15 l0 x4_2 x5_2 x6_2 x7_10 x8_2 t169 (t172 != (ji58))) = some r := by first | (rw [hji58] at H; exact H) | (simp only [hji58] at H ⊢; exact H)
                                    (try rw [hji58] at A50)
                                    (try rw [hji58] at A52)
                                    (try rw [hji58] at A57)
                                    have hji58_ : (if 0 < (wrap64 (((rd_T23 l0 x8_2).f1) - ((rd_T23 l0 x8_2).f0))) then (wrap64 (((rd_T23 l0 x8_2).f1) - ((rd_T23 l0 x8_2).f0))) else 0) = ji58 := hji58
                                    have H' := Aside0.mk H
                                    clear H
                                    try go_wp2
                                    have n0_ := Aside0.mk (blk_drew BK161.out)
                                    have n1_ := Aside0.mk (below_drew1 HB.out)
                                    clear BK161
                                    clear HB
                                    have BK161 := n0_
                                    have HB := n1_
                                    clear n0_ n1_
                                    refine start_ (n := 22) (S := fun w' => w'.cell? ⟨gb161, 0, none⟩ = some (.int .i64 ((rd_T23 l0 x8_2).f0)) ∧ w'.cell? ⟨gb161, 1, none⟩ = some (.int .i64 ((rd_T23 l0 x8_2).f1))) (ds := []) #[false, false, false, false, false, false, false, false, false, false, false, false, false, false, false, false, false, false, false, false, false, false] (by kernel_rfl) rfl rfl ⟨(blk_cell BK161.out 0).trans rfl, (blk_cell BK161.out 1).trans rfl⟩ (fun hHeld => ?_); refine with_tabW pledgelaw17_NeedSays.tab20 pledgelaw17_NeedSays.bits20 (fun HT_ HW_ => ?_)
                                    generalize w49.drew = w59 at BK161 HB hHeld ⊢
                                    refine pure_ (i := 2) (N := some 67) (v := ?_) (a' := ?_) #[false, false, true, false, false, false, false, false, false, false, false, false, false, false, false, false, false, false, false, false, false, false] rfl rfl (any_of HT_.out (by kernel_rfl)) (fun _ _ _ h => h) (Or.inl ⟨by rfl, ?_⟩) ?_ ?_
                                    rotate_left
                                    · intro w'
                                      go_simp
                                      with_reducible rfl
                                    rotate_left
                                    · simp only [Act.put, List.setIfInBounds_toArray, List.set_cons_zero, List.set_cons_succ, i64_w, i32_w]
                                      rfl
                                    refine take_ (i := 0) (N := some 65) (v := ?_) (a' := ?_) #[true, false, true, false, false, false, false, false, false, false, false, false, false, false, false, false, false, false, false, false, false, false] rfl rfl (take_ofW HT_.out HW_.out (by kernel_rfl)) (fun _ _ _ h => h) (Or.inl ⟨by rfl, ?_⟩) hHeld ?_ ?_
                                    rotate_left
                                    · rintro w' ⟨s0, s1⟩
                                      go_simp
                                      with_reducible rfl
                                    rotate_left
                                    · simp only [Act.put, List.setIfInBounds_toArray, List.set_cons_zero, List.set_cons_succ, i64_w, i32_w]
                                      rfl
                                    refine one_ (i := 1) (N := some 66) #[true, true, true, false, false, false, false, false, false, false, false, false, false, false, false, false, false, false, false, false, false, false] rfl rfl (one_of HT_.out (by kernel_rfl)) (by decide) (fun K hK => ?_)
                                    refine goes_ Tryd.func8 (by kernel_rfl) rfl #[.agg #[.int .i64 ((rd_T23 l0 x8_2).f0), .int .i64 ((rd_T23 l0 x8_2).f1)]] (by rfl) rfl rfl (by (try simp only [List.map_toArray, List.map_cons, List.map_nil]); first | done | rfl | (simp only [List.length_drop, List.length_take]; rfl)) ?_
                                    with_reducible refine (need_Short.calls ((rd_T23 l0 x8_2).f0) ((rd_T23 l0 x8_2).f1) t170 _ A50.out).mono ?_
                                    rintro e w60 ⟨rfl, hb⟩
                                    refine ⟨_, rfl, ?_⟩
                                    have n0_ := Aside0.mk (blk_below (g := gb161) (o := .cells #[.int .i64 ((rd_T23 l0 x8_2).f0), .int .i64 ((rd_T23 l0 x8_2).f1)] 23 (0, 0)) (by (with_reducible repeat (first | refine blk_drewN ?_ _ | refine blk_drew ?_ | refine blk_alloc ?_ _)); exact BK161.out) hb)
                                    have n1_ := Aside0.mk (below_step (by repeat (first | (with_reducible first | exact HB.out | apply below_alloc | apply pw_below_drewN | apply below_drew1 | refine below_set ?_ GE161.out) | exact HB.out)) hb)
                                    clear BK161
                                    clear HB
                                    have BK161 := n0_
                                    have HB := n1_
                                    clear n0_ n1_
                                    (try clear hb)
                                    (try clear hb2)
                                    (try clear hk)
                                    (try clear hi)
                                    refine hK.out _ _ ⟨(blk_cell BK161.out 0).trans rfl, (blk_cell BK161.out 1).trans rfl⟩ (fun hHeld => ?_)
                                    clear hK K
                                    refine norm_ (a' := ?_) ?_ ?_
                                    rotate_left
                                    · show Act.put _ (some 66) _ = _
                                      simp only [Act.put, List.setIfInBounds_toArray, List.set_cons_zero, List.set_cons_succ, i64_w, i32_w]
                                      rfl
                                    refine pure_ (i := 3) (N := some 68) (v := ?_) (a' := ?_) #[true, true, true, true, false, false, false, false, false, false, false, false, false, false, false, false, false, false, false, false, false, false] rfl rfl (any_of HT_.out (by kernel_rfl)) (fun _ _ _ h => h) (Or.inl ⟨by rfl, ?_⟩) ?_ ?_
                                    rotate_left
                                    · intro w'
                                      go_simp
                                      with_reducible rfl
                                    rotate_left
                                    · simp only [Act.put, List.setIfInBounds_toArray, List.set_cons_zero, List.set_cons_succ, i64_w, i32_w]
                                      rfl
                                    refine pure_ (i := 4) (N := some 69) (v := ?_) (a' := ?_) #[true, true, true, true, true, false, false, false, false, false, false, false, false, false, false, false, false, false, false, false, false, false] rfl rfl (any_of HT_.out (by kernel_rfl)) (fun _ _ _ h => h) (Or.inl ⟨by rfl, ?_⟩) ?_ ?_
                                    rotate_left
                                    · intro w'
                                      go_simp
                                      with_reducible rfl
                                    rotate_left
                                    · simp only [Act.put, List.setIfInBounds_toArray, List.set_cons_zero, List.set_cons_succ, i64_w, i32_w]
                                      rfl
                                    refine pure_ (i := 7) (N := some 72) (v := ?_) (a' := ?_) #[true, true, true, true, true, false, false, true, false, false, false, false, false, false, false, false, false, false, false, false, false, false] rfl rfl (any_of HT_.out (by kernel_rfl)) (fun _ _ _ h => h) (Or.inl ⟨by rfl, ?_⟩) ?_ ?_
                                    rotate_left
                                    · intro w'
                                      go_simp
                                      with_reducible rfl
                                    rotate_left
                                    · simp only [Act.put, List.setIfInBounds_toArray, List.set_cons_zero, List.set_cons_succ, i64_w, i32_w]
                                      rfl
                                    refine pure_ (i := 8) (N := some 73) (v := ?_) (a' := ?_) #[true, true, true, true, true, false, false, true, true, false, false, false, false, false, false, false, false, false, false, false, false, false] rfl rfl (any_of HT_.out (by kernel_rfl)) (fun _ _ _ h => h) (Or.inl ⟨by rfl, ?_⟩) ?_ ?_
                                    rotate_left
                                    · intro w'
                                      go_simp
                                      with_reducible rfl
                                    rotate_left
                                    · simp only [Act.put, List.setIfInBounds_toArray, List.set_cons_zero, List.set_cons_succ, i64_w, i32_w]
                                      rfl
                                    refine take_ (i := 5) (N := some 70) (v := ?_) (a' := ?_) #[true, true, true, true, true, true, false, true, true, false, false, false, false, false, false, false, false, false, false, false, false, false] rfl rfl (take_ofW HT_.out HW_.out (by kernel_rfl)) (fun _ _ _ h => h) (Or.inl ⟨by rfl, ?_⟩) hHeld ?_ ?_
                                    rotate_left
                                    · rintro w' ⟨s0, s1⟩
                                      go_simp
                                      with_reducible rfl
                                    rotate_left
                                    · simp only [Act.put, List.setIfInBounds_toArray, List.set_cons_zero, List.set_cons_succ, i64_w, i32_w]
                                      rfl
                                    refine one_ (i := 6) (N := some 71) #[true, true, true, true, true, true, true, true, true, false, false, false, false, false, false, false, false, false, false, false, false, false] rfl rfl (one_of HT_.out (by kernel_rfl)) (by decide) (fun K hK => ?_)
                                    refine goes_ Tryd.func11 (by kernel_rfl) rfl #[.agg #[.int .i64 ((rd_T23 l0 x8_2).f0), .int .i64 ((rd_T23 l0 x8_2).f1)]] (by rfl) rfl rfl (by (try simp only [List.map_toArray, List.map_cons, List.map_nil]); first | done | rfl | (simp only [List.length_drop, List.length_take]; rfl)) ?_
                                    with_reducible refine (need_Bound.calls ((rd_T23 l0 x8_2).f0) ((rd_T23 l0 x8_2).f1) t171 _ A52.out).mono ?_
                                    rintro e w61 ⟨rfl, hb⟩
                                    refine ⟨_, rfl, ?_⟩
                                    have n0_ := Aside0.mk (blk_below (g := gb161) (o := .cells #[.int .i64 ((rd_T23 l0 x8_2).f0), .int .i64 ((rd_T23 l0 x8_2).f1)] 23 (0, 0)) (by (with_reducible repeat (first | refine blk_drewN ?_ _ | refine blk_drew ?_ | refine blk_alloc ?_ _)); exact BK161.out) hb)
                                    have n1_ := Aside0.mk (below_step (by repeat (first | (with_reducible first | exact HB.out | apply below_alloc | apply pw_below_drewN | apply below_drew1 | refine below_set ?_ GE161.out) | exact HB.out)) hb)
                                    clear BK161
                                    clear HB
                                    have BK161 := n0_
                                    have HB := n1_
                                    clear n0_ n1_
                                    (try clear hb)
                                    (try clear hb2)
                                    (try clear hk)
                                    (try clear hi)
                                    refine hK.out _ _ ⟨(blk_cell BK161.out 0).trans rfl, (blk_cell BK161.out 1).trans rfl⟩ (fun hHeld => ?_)
                                    clear hK K
                                    refine norm_ (a' := ?_) ?_ ?_
                                    rotate_left
                                    · show Act.put _ (some 71) _ = _
                                      simp only [Act.put, List.setIfInBounds_toArray, List.set_cons_zero, List.set_cons_succ, i64_w, i32_w]
                                      rfl
                                    refine pure_ (i := 9) (N := some 74) (v := ?_) (a' := ?_) #[true, true, true, true, true, true, true, true, true, true, false, false, false, false, false, false, false, false, false, false, false, false] rfl rfl (any_of HT_.out (by kernel_rfl)) (fun _ _ _ h => h) (Or.inl ⟨by rfl, ?_⟩) ?_ ?_
                                    rotate_left
                                    · intro w'
                                      go_simp
                                      with_reducible rfl
                                    rotate_left
                                    · simp only [Act.put, List.setIfInBounds_toArray, List.set_cons_zero, List.set_cons_succ, i64_w, i32_w]
                                      rfl
                                    refine pure_ (i := 10) (N := some 75) (v := ?_) (a' := ?_) #[true, true, true, true, true, true, true, true, true, true, true, false, false, false, false, false, false, false, false, false, false, false] rfl rfl (any_of HT_.out (by kernel_rfl)) (fun _ _ _ h => h) (Or.inl ⟨by rfl, ?_⟩) ?_ ?_
                                    rotate_left
                                    · intro w'
                                      go_simp
                                      with_reducible rfl
                                    rotate_left
                                    · simp only [Act.put, List.setIfInBounds_toArray, List.set_cons_zero, List.set_cons_succ, i64_w, i32_w]
                                      rfl
                                    refine pure_ (i := 11) (N := some 76) (v := ?_) (a' := ?_) #[true, true, true, true, true, true, true, true, true, true, true, true, false, false, false, false, false, false, false, false, false, false] rfl rfl (any_of HT_.out (by kernel_rfl)) (fun _ _ _ h => h) (Or.inl ⟨by rfl, ?_⟩) ?_ ?_
                                    rotate_left
                                    · intro w'
                                      go_simp
                                      with_reducible rfl
                                    rotate_left
                                    · simp only [Act.put, List.setIfInBounds_toArray, List.set_cons_zero, List.set_cons_succ, i64_w, i32_w]
                                      rfl
                                    refine pure_ (i := 14) (N := some 79) (v := ?_) (a' := ?_) #[true, true, true, true, true, true, true, true, true, true, true, true, false, false, true, false, false, false, false, false, false, false] rfl rfl (any_of HT_.out (by kernel_rfl)) (fun _ _ _ h => h) (Or.inl ⟨by rfl, ?_⟩) ?_ ?_
                                    rotate_left
                                    · intro w'
                                      go_simp
                                      with_reducible rfl
                                    rotate_left
                                    · simp only [Act.put, List.setIfInBounds_toArray, List.set_cons_zero, List.set_cons_succ, i64_w, i32_w]
                                      rfl
                                    refine pure_ (i := 16) (N := some 81) (v := ?_) (a' := ?_) #[true, true, true, true, true, true, true, true, true, true, true, true, false, false, true, false, true, false, false, false, false, false] rfl rfl (any_of HT_.out (by kernel_rfl)) (fun _ _ _ h => h) (Or.inl ⟨by rfl, ?_⟩) ?_ ?_
                                    rotate_left
                                    · intro w'
                                      go_simp
                                      with_reducible rfl
                                    rotate_left
                                    · simp only [Act.put, List.setIfInBounds_toArray, List.set_cons_zero, List.set_cons_succ, i64_w, i32_w]
                                      rfl
                                    refine take_ (i := 12) (N := some 77) (v := ?_) (a' := ?_) #[true, true, true, true, true, true, true, true, true, true, true, true, true, false, true, false, true, false, false, false, false, false] rfl rfl (take_ofW HT_.out HW_.out (by kernel_rfl)) (fun _ _ _ h => h) (Or.inl ⟨by rfl, ?_⟩) hHeld ?_ ?_
                                    rotate_left
                                    · rintro w' ⟨s0, s1⟩
                                      go_simp
                                      with_reducible rfl
                                    rotate_left
                                    · simp only [Act.put, List.setIfInBounds_toArray, List.set_cons_zero, List.set_cons_succ, i64_w, i32_w]
                                      rfl
                                    refine take_ (i := 15) (N := some 80) (v := ?_) (a' := ?_) #[true, true, true, true, true, true, true, true, true, true, true, true, true, false, true, true, true, false, false, false, false, false] rfl rfl (take_ofW HT_.out HW_.out (by kernel_rfl)) (fun _ _ _ h => h) (Or.inl ⟨by rfl, ?_⟩) hHeld ?_ ?_
                                    rotate_left
                                    · rintro w' ⟨s0, s1⟩
                                      go_simp
                                      with_reducible rfl
                                    rotate_left
                                    · simp only [Act.put, List.setIfInBounds_toArray, List.set_cons_zero, List.set_cons_succ, i64_w, i32_w]
                                      rfl
                                    refine take_ (i := 17) (N := some 82) (v := ?_) (a' := ?_) #[true, true, true, true, true, true, true, true, true, true, true, true, true, false, true, true, true, true, false, false, false, false] rfl rfl (take_ofW HT_.out HW_.out (by kernel_rfl)) (fun _ _ _ h => h) (Or.inl ⟨by rfl, ?_⟩) hHeld ?_ ?_
                                    rotate_left
                                    · rintro w' ⟨s0, s1⟩
                                      go_simp
                                      with_reducible rfl
                                    rotate_left
                                    · simp only [Act.put, List.setIfInBounds_toArray, List.set_cons_zero, List.set_cons_succ, i64_w, i32_w]
                                      rfl
                                    refine pure_ (i := 18) (N := some 83) (v := ?_) (a' := ?_) #[true, true, true, true, true, true, true, true, true, true, true, true, true, false, true, true, true, true, true, false, false, false] rfl rfl (any_of HT_.out (by kernel_rfl)) (fun _ _ _ h => h) (Or.inl ⟨by rfl, ?_⟩) ?_ ?_
                                    rotate_left
                                    · intro w'
                                      go_simp
                                      with_reducible rfl
                                    rotate_left
                                    · simp only [Act.put, List.setIfInBounds_toArray, List.set_cons_zero, List.set_cons_succ, i64_w, i32_w]
                                      rfl
                                    refine pure_ (i := 19) (N := some 84) (v := ?_) (a' := ?_) #[true, true, true, true, true, true, true, true, true, true, true, true, true, false, true, true, true, true, true, true, false, false] rfl rfl (any_of HT_.out (by kernel_rfl)) (fun _ _ _ h => h) (Or.inl ⟨by rfl, ?_⟩) ?_ ?_
                                    rotate_left
                                    · intro w'
                                      go_simp
                                      with_reducible rfl
                                    rotate_left
                                    · simp only [Act.put, List.setIfInBounds_toArray, List.set_cons_zero, List.set_cons_succ, i64_w, i32_w]
                                      rfl
                                    refine one_ (i := 13) (N := some 78) #[true, true, true, true, true, true, true, true, true, true, true, true, true, true, true, true, true, true, true, true, false, false] rfl rfl (one_of HT_.out (by kernel_rfl)) (by decide) (fun K hK => ?_)
                                    refine goes_ Tryd.func9 (by kernel_rfl) rfl #[.agg #[.int .i64 ((rd_T23 l0 x8_2).f0), .int .i64 ((rd_T23 l0 x8_2).f1)]] (by rfl) rfl rfl (by (try simp only [List.map_toArray, List.map_cons, List.map_nil]); first | done | rfl | (simp only [List.length_drop, List.length_take]; rfl)) ?_
                                    with_reducible refine (need_Spare.calls ((rd_T23 l0 x8_2).f0) ((rd_T23 l0 x8_2).f1) t172 _ A57.out).mono ?_
                                    rintro e w62 ⟨rfl, hb⟩
                                    refine ⟨_, rfl, ?_⟩
                                    have n0_ := Aside0.mk (blk_below (g := gb161) (o := .cells #[.int .i64 ((rd_T23 l0 x8_2).f0), .int .i64 ((rd_T23 l0 x8_2).f1)] 23 (0, 0)) (by (with_reducible repeat (first | refine blk_drewN ?_ _ | refine blk_drew ?_ | refine blk_alloc ?_ _)); exact BK161.out) hb)
                                    have n1_ := Aside0.mk (below_step (by repeat (first | (with_reducible first | exact HB.out | apply below_alloc | apply pw_below_drewN | apply below_drew1 | refine below_set ?_ GE161.out) | exact HB.out)) hb)
                                    clear BK161
                                    clear HB
                                    have BK161 := n0_
                                    have HB := n1_
                                    clear n0_ n1_
                                    (try clear hb)
                                    (try clear hb2)
                                    (try clear hk)
                                    (try clear hi)
                                    refine hK.out _ _ ⟨(blk_cell BK161.out 0).trans rfl, (blk_cell BK161.out 1).trans rfl⟩ (fun hHeld => ?_)
                                    clear hK K
                                    refine norm_ (a' := ?_) ?_ ?_
                                    rotate_left
                                    · show Act.put _ (some 78) _ = _
                                      simp only [Act.put, List.setIfInBounds_toArray, List.set_cons_zero, List.set_cons_succ, i64_w, i32_w]
                                      rfl
                                    refine pure_ (i := 20) (N := some 85) (v := ?_) (a' := ?_) #[true, true, true, true, true, true, true, true, true, true, true, true, true, true, true, true, true, true, true, true, true, false] rfl rfl (any_of HT_.out (by kernel_rfl)) (fun _ _ _ h => h) (Or.inl ⟨by rfl, ?_⟩) ?_ ?_
                                    rotate_left
                                    · intro w'
                                      go_simp
                                      with_reducible rfl
                                    rotate_left
                                    · simp only [Act.put, List.setIfInBounds_toArray, List.set_cons_zero, List.set_cons_succ, i64_w, i32_w]
                                      rfl
                                    refine pure_ (i := 21) (N := some 86) (v := ?_) (a' := ?_) #[true, true, true, true, true, true, true, true, true, true, true, true, true, true, true, true, true, true, true, true, true, true] rfl rfl (any_of HT_.out (by kernel_rfl)) (fun _ _ _ h => h) (Or.inl ⟨by rfl, ?_⟩) ?_ ?_
                                    rotate_left
                                    · intro w'
                                      go_simp
                                      with_reducible rfl
                                    rotate_left
                                    · simp only [Act.put, List.setIfInBounds_toArray, List.set_cons_zero, List.set_cons_succ, i64_w, i32_w]
                                      rfl
                                    refine done_ (done_of HT_.out (by kernel_rfl)) ?_
                                    try go_wp2
                                    go_meet
                                    case rel => exact ⟨_, ((t172 != (ji58))), (by first | rfl | (simp; done) | (simp only [← hji58] <;> (first | rfl | simp)) | (simp [*]; done)), H', ⟨by have := HJ3.out; have := HK2.out; have := HJ10.out; have := HJ15.out; first | omega | exact Nat.le_refl _⟩, ⟨by (with_reducible repeat (first | refine blk_drewN ?_ _ | refine blk_drew ?_ | refine blk_alloc ?_ _)); exact BK161.out⟩, ⟨by repeat (first | (with_reducible first | exact HB.out | apply below_alloc | apply pw_below_drewN | apply below_drew1 | refine below_set ?_ GE161.out) | exact HB.out)⟩⟩
                                · rw [if_neg c51] at H
                                  have c51b0 : (t170 == t169) = false := beq_eq_false_iff_ne.mpr c51
                                  have c51b1 : (t170 != t169) = true := bne_iff_ne.mpr c51
                                  (first | rw [c51b0] | (simp only [i64_w, i32_w]; rw [c51b0]) | skip)
                                  have H' := Aside0.mk H
                                  clear H
                                  try go_wp2
                                  have n0_ := Aside0.mk (blk_drew BK161.out)
                                  have n1_ := Aside0.mk (below_drew1 HB.out)
                                  clear BK161
                                  clear HB
                                  have BK161 := n0_
                                  have HB := n1_
                                  clear n0_ n1_
                                  refine start_ (n := 22) (S := fun w' => w'.cell? ⟨gb161, 0, none⟩ = some (.int .i64 ((rd_T23 l0 x8_2).f0)) ∧ w'.cell? ⟨gb161, 1, none⟩ = some (.int .i64 ((rd_T23 l0 x8_2).f1))) (ds := []) #[false, false, false, false, false, false, false, false, false, false, false, false, false, false, false, false, false, false, false, false, false, false] (by kernel_rfl) rfl rfl ⟨(blk_cell BK161.out 0).trans rfl, (blk_cell BK161.out 1).trans rfl⟩ (fun hHeld => ?_); refine with_tabW pledgelaw17_NeedSays.tab20 pledgelaw17_NeedSays.bits20 (fun HT_ HW_ => ?_)
                                  generalize w49.drew = w63 at BK161 HB hHeld ⊢
                                  refine pure_ (i := 2) (N := some 67) (v := ?_) (a' := ?_) #[false, false, true, false, false, false, false, false, false, false, false, false, false, false, false, false, false, false, false, false, false, false] rfl rfl (any_of HT_.out (by kernel_rfl)) (fun _ _ _ h => h) (Or.inl ⟨by rfl, ?_⟩) ?_ ?_
                                  rotate_left
                                  · intro w'
                                    go_simp
                                    with_reducible rfl
                                  rotate_left
                                  · simp only [Act.put, List.setIfInBounds_toArray, List.set_cons_zero, List.set_cons_succ, i64_w, i32_w]
                                    rfl
                                  refine take_ (i := 0) (N := some 65) (v := ?_) (a' := ?_) #[true, false, true, false, false, false, false, false, false, false, false, false, false, false, false, false, false, false, false, false, false, false] rfl rfl (take_ofW HT_.out HW_.out (by kernel_rfl)) (fun _ _ _ h => h) (Or.inl ⟨by rfl, ?_⟩) hHeld ?_ ?_
                                  rotate_left
                                  · rintro w' ⟨s0, s1⟩
                                    go_simp
                                    with_reducible rfl
                                  rotate_left
                                  · simp only [Act.put, List.setIfInBounds_toArray, List.set_cons_zero, List.set_cons_succ, i64_w, i32_w]
                                    rfl
                                  refine one_ (i := 1) (N := some 66) #[true, true, true, false, false, false, false, false, false, false, false, false, false, false, false, false, false, false, false, false, false, false] rfl rfl (one_of HT_.out (by kernel_rfl)) (by decide) (fun K hK => ?_)
                                  refine goes_ Tryd.func8 (by kernel_rfl) rfl #[.agg #[.int .i64 ((rd_T23 l0 x8_2).f0), .int .i64 ((rd_T23 l0 x8_2).f1)]] (by rfl) rfl rfl (by (try simp only [List.map_toArray, List.map_cons, List.map_nil]); first | done | rfl | (simp only [List.length_drop, List.length_take]; rfl)) ?_
                                  with_reducible refine (need_Short.calls ((rd_T23 l0 x8_2).f0) ((rd_T23 l0 x8_2).f1) t170 _ A50.out).mono ?_
                                  rintro e w64 ⟨rfl, hb⟩
                                  refine ⟨_, rfl, ?_⟩
                                  have n0_ := Aside0.mk (blk_below (g := gb161) (o := .cells #[.int .i64 ((rd_T23 l0 x8_2).f0), .int .i64 ((rd_T23 l0 x8_2).f1)] 23 (0, 0)) (by (with_reducible repeat (first | refine blk_drewN ?_ _ | refine blk_drew ?_ | refine blk_alloc ?_ _)); exact BK161.out) hb)
                                  have n1_ := Aside0.mk (below_step (by repeat (first | (with_reducible first | exact HB.out | apply below_alloc | apply pw_below_drewN | apply below_drew1 | refine below_set ?_ GE161.out) | exact HB.out)) hb)
                                  clear BK161
                                  clear HB
                                  have BK161 := n0_
                                  have HB := n1_
                                  clear n0_ n1_
                                  (try clear hb)
                                  (try clear hb2)
                                  (try clear hk)
                                  (try clear hi)
                                  refine hK.out _ _ ⟨(blk_cell BK161.out 0).trans rfl, (blk_cell BK161.out 1).trans rfl⟩ (fun hHeld => ?_)
                                  clear hK K
                                  refine norm_ (a' := ?_) ?_ ?_
                                  rotate_left
                                  · show Act.put _ (some 66) _ = _
                                    simp only [Act.put, List.setIfInBounds_toArray, List.set_cons_zero, List.set_cons_succ, i64_w, i32_w]
                                    rfl
                                  refine pure_ (i := 3) (N := some 68) (v := ?_) (a' := ?_) #[true, true, true, true, false, false, false, false, false, false, false, false, false, false, false, false, false, false, false, false, false, false] rfl rfl (any_of HT_.out (by kernel_rfl)) (fun _ _ _ h => h) (Or.inl ⟨by rfl, ?_⟩) ?_ ?_
                                  rotate_left
                                  · intro w'
                                    go_simp
                                    with_reducible rfl
                                  rotate_left
                                  · simp only [Act.put, List.setIfInBounds_toArray, List.set_cons_zero, List.set_cons_succ, i64_w, i32_w]
                                    rfl
                                  refine pure_ (i := 4) (N := some 69) (v := ?_) (a' := ?_) #[true, true, true, true, true, false, false, false, false, false, false, false, false, false, false, false, false, false, false, false, false, false] rfl rfl (any_of HT_.out (by kernel_rfl)) (fun _ _ _ h => h) (Or.inl ⟨by rfl, ?_⟩) ?_ ?_
                                  rotate_left
                                  · intro w'
                                    go_simp
                                    with_reducible rfl
                                  rotate_left
                                  · simp only [Act.put, List.setIfInBounds_toArray, List.set_cons_zero, List.set_cons_succ, i64_w, i32_w]
                                    rfl
                                  refine pure_ (i := 5) (N := some 70) (v := undef) (a' := ?_) #[true, true, true, true, true, true, false, false, false, false, false, false, false, false, false, false, false, false, false, false, false, false] rfl rfl (any_of HT_.out (by kernel_rfl)) (fun _ _ _ h => h) (Or.inr ⟨by rfl, rfl⟩) ?_ ?_
                                  rotate_left
                                  · simp only [Act.put, List.setIfInBounds_toArray, List.set_cons_zero, List.set_cons_succ, i64_w, i32_w]
                                    rfl
                                  refine pure_ (i := 6) (N := some 71) (v := undef) (a' := ?_) #[true, true, true, true, true, true, true, false, false, false, false, false, false, false, false, false, false, false, false, false, false, false] rfl rfl (any_of HT_.out (by kernel_rfl)) (fun _ _ _ h => h) (Or.inr ⟨by rfl, rfl⟩) ?_ ?_
                                  rotate_left
                                  · simp only [Act.put, List.setIfInBounds_toArray, List.set_cons_zero, List.set_cons_succ, i64_w, i32_w]
                                    rfl
                                  refine pure_ (i := 7) (N := some 72) (v := undef) (a' := ?_) #[true, true, true, true, true, true, true, true, false, false, false, false, false, false, false, false, false, false, false, false, false, false] rfl rfl (any_of HT_.out (by kernel_rfl)) (fun _ _ _ h => h) (Or.inr ⟨by rfl, rfl⟩) ?_ ?_
                                  rotate_left
                                  · simp only [Act.put, List.setIfInBounds_toArray, List.set_cons_zero, List.set_cons_succ, i64_w, i32_w]
                                    rfl
                                  refine pure_ (i := 8) (N := some 73) (v := undef) (a' := ?_) #[true, true, true, true, true, true, true, true, true, false, false, false, false, false, false, false, false, false, false, false, false, false] rfl rfl (any_of HT_.out (by kernel_rfl)) (fun _ _ _ h => h) (Or.inr ⟨by rfl, rfl⟩) ?_ ?_
                                  rotate_left
                                  · simp only [Act.put, List.setIfInBounds_toArray, List.set_cons_zero, List.set_cons_succ, i64_w, i32_w]
                                    rfl
                                  refine pure_ (i := 9) (N := some 74) (v := undef) (a' := ?_) #[true, true, true, true, true, true, true, true, true, true, false, false, false, false, false, false, false, false, false, false, false, false] rfl rfl (any_of HT_.out (by kernel_rfl)) (fun _ _ _ h => h) (Or.inr ⟨by rfl, rfl⟩) ?_ ?_
                                  rotate_left
                                  · simp only [Act.put, List.setIfInBounds_toArray, List.set_cons_zero, List.set_cons_succ, i64_w, i32_w]
                                    rfl
                                  refine pure_ (i := 10) (N := some 75) (v := ?_) (a' := ?_) #[true, true, true, true, true, true, true, true, true, true, true, false, false, false, false, false, false, false, false, false, false, false] rfl rfl (any_of HT_.out (by kernel_rfl)) (fun _ _ _ h => h) (Or.inl ⟨by rfl, ?_⟩) ?_ ?_
                                  rotate_left
                                  · intro w'
                                    go_simp
                                    with_reducible rfl
                                  rotate_left
                                  · simp only [Act.put, List.setIfInBounds_toArray, List.set_cons_zero, List.set_cons_succ, i64_w, i32_w]
                                    rfl
                                  refine pure_ (i := 11) (N := some 76) (v := ?_) (a' := ?_) #[true, true, true, true, true, true, true, true, true, true, true, true, false, false, false, false, false, false, false, false, false, false] rfl rfl (any_of HT_.out (by kernel_rfl)) (fun _ _ _ h => h) (Or.inl ⟨by rfl, ?_⟩) ?_ ?_
                                  rotate_left
                                  · intro w'
                                    go_simp
                                    with_reducible rfl
                                  rotate_left
                                  · simp only [Act.put, List.setIfInBounds_toArray, List.set_cons_zero, List.set_cons_succ, i64_w, i32_w]
                                    rfl
                                  refine pure_ (i := 12) (N := some 77) (v := undef) (a' := ?_) #[true, true, true, true, true, true, true, true, true, true, true, true, true, false, false, false, false, false, false, false, false, false] rfl rfl (any_of HT_.out (by kernel_rfl)) (fun _ _ _ h => h) (Or.inr ⟨by rfl, rfl⟩) ?_ ?_
                                  rotate_left
                                  · simp only [Act.put, List.setIfInBounds_toArray, List.set_cons_zero, List.set_cons_succ, i64_w, i32_w]
                                    rfl
                                  refine pure_ (i := 13) (N := some 78) (v := undef) (a' := ?_) #[true, true, true, true, true, true, true, true, true, true, true, true, true, true, false, false, false, false, false, false, false, false] rfl rfl (any_of HT_.out (by kernel_rfl)) (fun _ _ _ h => h) (Or.inr ⟨by rfl, rfl⟩) ?_ ?_
                                  rotate_left
                                  · simp only [Act.put, List.setIfInBounds_toArray, List.set_cons_zero, List.set_cons_succ, i64_w, i32_w]
                                    rfl
                                  refine pure_ (i := 14) (N := some 79) (v := undef) (a' := ?_) #[true, true, true, true, true, true, true, true, true, true, true, true, true, true, true, false, false, false, false, false, false, false] rfl rfl (any_of HT_.out (by kernel_rfl)) (fun _ _ _ h => h) (Or.inr ⟨by rfl, rfl⟩) ?_ ?_
                                  rotate_left
                                  · simp only [Act.put, List.setIfInBounds_toArray, List.set_cons_zero, List.set_cons_succ, i64_w, i32_w]
                                    rfl
                                  refine pure_ (i := 15) (N := some 80) (v := undef) (a' := ?_) #[true, true, true, true, true, true, true, true, true, true, true, true, true, true, true, true, false, false, false, false, false, false] rfl rfl (any_of HT_.out (by kernel_rfl)) (fun _ _ _ h => h) (Or.inr ⟨by rfl, rfl⟩) ?_ ?_
                                  rotate_left
                                  · simp only [Act.put, List.setIfInBounds_toArray, List.set_cons_zero, List.set_cons_succ, i64_w, i32_w]
                                    rfl
                                  refine pure_ (i := 16) (N := some 81) (v := undef) (a' := ?_) #[true, true, true, true, true, true, true, true, true, true, true, true, true, true, true, true, true, false, false, false, false, false] rfl rfl (any_of HT_.out (by kernel_rfl)) (fun _ _ _ h => h) (Or.inr ⟨by rfl, rfl⟩) ?_ ?_
                                  rotate_left
                                  · simp only [Act.put, List.setIfInBounds_toArray, List.set_cons_zero, List.set_cons_succ, i64_w, i32_w]
                                    rfl
                                  refine pure_ (i := 17) (N := some 82) (v := undef) (a' := ?_) #[true, true, true, true, true, true, true, true, true, true, true, true, true, true, true, true, true, true, false, false, false, false] rfl rfl (any_of HT_.out (by kernel_rfl)) (fun _ _ _ h => h) (Or.inr ⟨by rfl, rfl⟩) ?_ ?_
                                  rotate_left
                                  · simp only [Act.put, List.setIfInBounds_toArray, List.set_cons_zero, List.set_cons_succ, i64_w, i32_w]
                                    rfl
                                  refine pure_ (i := 18) (N := some 83) (v := undef) (a' := ?_) #[true, true, true, true, true, true, true, true, true, true, true, true, true, true, true, true, true, true, true, false, false, false] rfl rfl (any_of HT_.out (by kernel_rfl)) (fun _ _ _ h => h) (Or.inr ⟨by rfl, rfl⟩) ?_ ?_
                                  rotate_left
                                  · simp only [Act.put, List.setIfInBounds_toArray, List.set_cons_zero, List.set_cons_succ, i64_w, i32_w]
                                    rfl
                                  refine pure_ (i := 19) (N := some 84) (v := undef) (a' := ?_) #[true, true, true, true, true, true, true, true, true, true, true, true, true, true, true, true, true, true, true, true, false, false] rfl rfl (any_of HT_.out (by kernel_rfl)) (fun _ _ _ h => h) (Or.inr ⟨by rfl, rfl⟩) ?_ ?_
                                  rotate_left
                                  · simp only [Act.put, List.setIfInBounds_toArray, List.set_cons_zero, List.set_cons_succ, i64_w, i32_w]
                                    rfl
                                  refine pure_ (i := 20) (N := some 85) (v := undef) (a' := ?_) #[true, true, true, true, true, true, true, true, true, true, true, true, true, true, true, true, true, true, true, true, true, false] rfl rfl (any_of HT_.out (by kernel_rfl)) (fun _ _ _ h => h) (Or.inr ⟨by rfl, rfl⟩) ?_ ?_
                                  rotate_left
                                  · simp only [Act.put, List.setIfInBounds_toArray, List.set_cons_zero, List.set_cons_succ, i64_w, i32_w]
                                    rfl
                                  refine pure_ (i := 21) (N := some 86) (v := ?_) (a' := ?_) #[true, true, true, true, true, true, true, true, true, true, true, true, true, true, true, true, true, true, true, true, true, true] rfl rfl (any_of HT_.out (by kernel_rfl)) (fun _ _ _ h => h) (Or.inl ⟨by rfl, ?_⟩) ?_ ?_
                                  rotate_left
                                  · intro w'
                                    go_simp
                                    with_reducible rfl
                                  rotate_left
                                  · simp only [Act.put, List.setIfInBounds_toArray, List.set_cons_zero, List.set_cons_succ, i64_w, i32_w]
                                    rfl
                                  refine done_ (done_of HT_.out (by kernel_rfl)) ?_
                                  try go_wp2
                                  go_meet
                                  case rel => exact ⟨_, (true), (by first | rfl | (simp; done) | (simp [*]; done)), H', ⟨by have := HJ3.out; have := HK2.out; have := HJ10.out; have := HJ15.out; first | omega | exact Nat.le_refl _⟩, ⟨by (with_reducible repeat (first | refine blk_drewN ?_ _ | refine blk_drew ?_ | refine blk_alloc ?_ _)); exact BK161.out⟩, ⟨by repeat (first | (with_reducible first | exact HB.out | apply below_alloc | apply pw_below_drewN | apply below_drew1 | refine below_set ?_ GE161.out) | exact HB.out)⟩⟩
                              case rest =>
                                clear HC47
                                try clear c1
                                try clear p2
                                try clear c5
                                try clear p6
                                try clear c8
                                try clear c9
                                try clear c11
                                try clear c51
                                try clear c51b0
                                try clear c51b1
                                try clear c53
                                try clear c53b0
                                try clear c53b1
                                try clear c53b2
                                try clear p64
                                obtain ⟨kq, x86_46, rfl, HA, HJ46, BK161, HB⟩ := hcut
                                cases kq with
                                | zero => exact absurd HA.out (by simp [pledgelaw17_NeedSays.j4])
                                | succ kj46 =>
                                  have H := HA.out
                                  clear HA
                                  simp only [pledgelaw17_NeedSays.j4] at H
                                  by_cases c65 : x86_46 = true
                                  · subst c65
                                    have H1 : (some false) = some r := by rw [if_pos rfl] at H; exact H
                                    clear H
                                    have H := H1
                                    clear H1
                                    obtain rfl := Option.some.inj H
                                    go_wp2
                                    go_ret
                                    exact ⟨by first | rfl | (simp [errW_none, errW_some] <;> rfl) | (simp [*, errW_none, errW_some] <;> rfl), by repeat (first | (with_reducible first | exact HB.out | apply below_alloc | apply pw_below_drewN | apply below_drew1 | refine below_set ?_ GE161.out) | exact HB.out)⟩
                                  · replace c65 := Bool.eq_false_iff.mpr c65
                                    subst c65
                                    have H1 : (if t169 > x5_2 then (pledgelaw17_NeedSays.l0 kj46 l0 x8_2 t169 (wrap64 (x6_2 + t169)) x7_10 (wrap64 (x8_2 + 1))) else (pledgelaw17_NeedSays.l0 kj46 l0 x4_2 x5_2 (wrap64 (x6_2 + t169)) x7_10 (wrap64 (x8_2 + 1)))) = some r := by rw [if_neg (show ¬ (false = true) by decide)] at H; exact H
                                    clear H
                                    have H := H1
                                    clear H1
                                    by_cases c66 : t169 > x5_2
                                    · rw [if_pos c66] at H
                                      have c66b0 : decide (x5_2 < t169) = true := decide_eq_true c66
                                      clear c66
                                      have H' := Aside0.mk H
                                      clear H
                                      go_wp2
                                      go_roundg kj46
                                      case measure => have := HJ3.out; have := HK2.out; have := HJ10.out; have := HJ15.out; have := HJ46.out; omega
                                      case rel => exact ⟨(x8_2), (t169), (wrap64 (x6_2 + t169)), (x7_10), (wrap64 (x8_2 + 1)), (by first | rfl | (simp; done) | (simp [*]; done)), (by first | rfl | (simp; done) | (simp [*]; done)), (by first | rfl | (simp; done) | (simp [*]; done)), (by first | rfl | (simp; done) | (simp [*]; done)), (by first | rfl | (simp; done) | (simp [*]; done)), H', ⟨by have := HJ3.out; have := HK2.out; have := HJ10.out; have := HJ15.out; have := HJ46.out; omega⟩, ⟨by repeat (first | (with_reducible first | exact HB.out | apply below_alloc | apply pw_below_drewN | apply below_drew1 | refine below_set ?_ GE161.out) | exact HB.out)⟩⟩
                                    · rw [if_neg c66] at H
                                      have c66b0 : decide (x5_2 < t169) = false := decide_eq_false c66
                                      clear c66
                                      have H' := Aside0.mk H
                                      clear H
                                      go_wp2
                                      go_roundg kj46
                                      case measure => have := HJ3.out; have := HK2.out; have := HJ10.out; have := HJ15.out; have := HJ46.out; omega
                                      case rel => exact ⟨(x4_2), (x5_2), (wrap64 (x6_2 + t169)), (x7_10), (wrap64 (x8_2 + 1)), (by first | rfl | (simp; done) | (simp [*]; done)), (by first | rfl | (simp; done) | (simp [*]; done)), (by first | rfl | (simp; done) | (simp [*]; done)), (by first | rfl | (simp; done) | (simp [*]; done)), (by first | rfl | (simp; done) | (simp [*]; done)), H', ⟨by have := HJ3.out; have := HK2.out; have := HJ10.out; have := HJ15.out; have := HJ46.out; omega⟩, ⟨by repeat (first | (with_reducible first | exact HB.out | apply below_alloc | apply pw_below_drewN | apply below_drew1 | refine below_set ?_ GE161.out) | exact HB.out)⟩⟩
                            · replace c45 := Bool.eq_false_iff.mpr c45
                              subst c45
                              have H1 : (pledgelaw17_NeedSays.l0 kj15 l0 x4_2 x5_2 x6_2 x7_10 (wrap64 (x8_2 + 1))) = some r := by rw [if_neg (show ¬ (false = true) by decide)] at H; exact H
                              clear H
                              have H := H1
                              clear H1
                              have H' := Aside0.mk H
                              clear H
                              go_wp2
                              go_roundg kj15
                              case measure => have := HJ3.out; have := HK2.out; have := HJ10.out; have := HJ15.out; omega
                              case rel => exact ⟨(x4_2), (x5_2), (x6_2), (x7_10), (wrap64 (x8_2 + 1)), (by first | rfl | (simp; done) | (simp [*]; done)), (by first | rfl | (simp; done) | (simp [*]; done)), (by first | rfl | (simp; done) | (simp [*]; done)), (by first | rfl | (simp; done) | (simp [*]; done)), (by first | rfl | (simp; done) | (simp [*]; done)), H', ⟨by have := HJ3.out; have := HK2.out; have := HJ10.out; have := HJ15.out; omega⟩, ⟨by repeat (first | (with_reducible first | exact HB.out | apply below_alloc | apply pw_below_drewN | apply below_drew1 | refine below_set ?_ GE161.out) | exact HB.out)⟩⟩
                · rw [if_neg c9] at H
                  exact absurd H (by simp)
              · rw [if_neg c8] at H
                have c8b0 : decide (x8_2 < (l0.length : Int)) = false := decide_eq_false c8
                clear c8
                replace H := Option.bind_eq_some_iff.mp H
                obtain ⟨⟨t173, t174⟩, A670, H⟩ := H
                replace H : (if x7_2 = true then ((need_Worst.f k2 l0).bind fun bt176 => (if (bt176.2 != (decide (x4_2 ≥ 0))) = true then (pledgelaw17_NeedSays.j5 k2 x6_2 t173 t174 true) else (if bt176.2 = true then (pledgelaw17_NeedSays.j5 k2 x6_2 t173 t174 (bt176.1 != x4_2)) else (pledgelaw17_NeedSays.j5 k2 x6_2 t173 t174 false)))) else (if t173 = 0 then ((pledgesee_Is.f t174 103).bind fun t175 => (some t175)) else (some false))) = some r := H
                have A67 := Aside0.mk A670
                clear A670
                by_cases c68 : x7_2 = true
                · subst c68
                  have H1 : ((need_Worst.f k2 l0).bind fun bt176 => (if (bt176.2 != (decide (x4_2 ≥ 0))) = true then (pledgelaw17_NeedSays.j5 k2 x6_2 t173 t174 true) else (if bt176.2 = true then (pledgelaw17_NeedSays.j5 k2 x6_2 t173 t174 (bt176.1 != x4_2)) else (pledgelaw17_NeedSays.j5 k2 x6_2 t173 t174 false)))) = some r := by rw [if_pos rfl] at H; exact H
                  clear H
                  have H := H1
                  clear H1
                  replace H := Option.bind_eq_some_iff.mp H
                  obtain ⟨⟨t176, t177⟩, A690, H⟩ := H
                  replace H : (if (t177 != (decide (x4_2 ≥ 0))) = true then (pledgelaw17_NeedSays.j5 k2 x6_2 t173 t174 true) else (if t177 = true then (pledgelaw17_NeedSays.j5 k2 x6_2 t173 t174 (t176 != x4_2)) else (pledgelaw17_NeedSays.j5 k2 x6_2 t173 t174 false))) = some r := H
                  have A69 := Aside0.mk A690
                  clear A690
                  have HC70 := Aside0.mk H
                  clear H
                  go_upto_region 30 with (first | ((with_reducible refine gate_callee (f := 14) rfl ?_); refine goesL_ (some 97) rfl rfl Tryd.func14 (by kernel_rfl) rfl #[.slice A0 l0.length c0] rfl (by (try simp only [List.map_toArray, List.map_cons, List.map_nil]); first | done | rfl | (simp only [List.length_drop, List.length_take]; rfl)) ?_; (with_reducible refine (need_Total.calls k2 _ _ l0 t173 t174 _ ?side1 ?side2 ?side3 A67.out).mono ?_); (case side1 => exact GlobOK.below HG.out (by repeat (first | (with_reducible first | exact HB.out | apply below_alloc | apply pw_below_drewN | apply below_drew1) | exact HB.out))); (case side2 => repeat (first | exact (Kd.C_below HR0.out HB.out) | (with_reducible refine Kd.C_alloc ?_ _) | (with_reducible refine Kd.C_drewN ?_ _) | (with_reducible refine Kd.C_drew ?_))); (case side3 => exact HC0.out); rintro e w71 ⟨rfl, hb⟩; refine ⟨_, rfl, ?_⟩; have n0_ := Aside0.mk (below_step (by repeat (first | (with_reducible first | exact HB.out | apply below_alloc | apply pw_below_drewN | apply below_drew1) | exact HB.out)) hb); clear HB; have HB := n0_; clear n0_; (try clear hb); (try clear hb2); (try clear hk); (try clear hi); (try simp only [errW_none, errW_some])) | ((with_reducible refine gate_callee (f := 13) rfl ?_); refine goesL_ (some 110) rfl rfl Tryd.func13 (by kernel_rfl) rfl #[.slice A0 l0.length c0] rfl (by (try simp only [List.map_toArray, List.map_cons, List.map_nil]); first | done | rfl | (simp only [List.length_drop, List.length_take]; rfl)) ?_; (with_reducible refine (need_Worst.calls k2 _ _ l0 t176 t177 _ ?side1 ?side2 A69.out).mono ?_); (case side1 => repeat (first | exact (Kd.C_below HR0.out HB.out) | (with_reducible refine Kd.C_alloc ?_ _) | (with_reducible refine Kd.C_drewN ?_ _) | (with_reducible refine Kd.C_drew ?_))); (case side2 => exact HC0.out); rintro e w72 ⟨rfl, hb⟩; refine ⟨_, rfl, ?_⟩; have n0_ := Aside0.mk (below_step (by repeat (first | (with_reducible first | exact HB.out | apply below_alloc | apply pw_below_drewN | apply below_drew1) | exact HB.out)) hb); clear HB; have HB := n0_; clear n0_; (try clear hb); (try clear hb2); (try clear hk); (try clear hi)))
                  (try simp only [Act.put, List.setIfInBounds_toArray, List.set_cons_zero, List.set_cons_succ])
                  go_cut [124] (fun v124 wc => ∃ (kq : Nat) (x124_69 : Bool), v124 = .bool x124_69 ∧ Aside0 (pledgelaw17_NeedSays.j5 kq x6_2 t173 t174 x124_69 = some r) ∧ Aside0 (kq ≤ k2) ∧ Aside0 (Below w.heap.size w wc))
                  case first =>
                    have H := HC70.out
                    clear HC70
                    by_cases c73 : (t177 != (decide (x4_2 ≥ 0))) = true
                    · rw [if_pos c73] at H
                      have c73b0 : (t177 != (decide (x4_2 ≥ 0))) = true := c73
                      (try (have c73b1 : decide (t177 = (decide (x4_2 ≥ 0))) = false := by simpa using c73))
                      (try (have c73b2 : (t177 == (decide (x4_2 ≥ 0))) = false := by simpa using c73))
                      (try (have c73b3 : ¬ (t177 = (decide (x4_2 ≥ 0))) := by simpa using c73))
                      clear c73
                      (first | rw [c73b0] | (simp only [i64_w, i32_w]; rw [c73b0]) | skip)
                      have H' := Aside0.mk H
                      clear H
                      go_wp2
                      go_meet
                      case rel => exact ⟨_, (true), (by first | rfl | (simp; done) | (simp [*]; done)), H', ⟨by have := HJ3.out; have := HK2.out; first | omega | exact Nat.le_refl _⟩, ⟨by repeat (first | (with_reducible first | exact HB.out | apply below_alloc | apply pw_below_drewN | apply below_drew1) | exact HB.out)⟩⟩
                    · rw [if_neg c73] at H
                      have c73b0 : (t177 != (decide (x4_2 ≥ 0))) = false := by simpa using c73
                      (try (have c73b1 : decide (t177 = (decide (x4_2 ≥ 0))) = true := by simpa using c73))
                      (try (have c73b2 : (t177 == (decide (x4_2 ≥ 0))) = true := by simpa using c73))
                      clear c73
                      (first | rw [c73b0] | (simp only [i64_w, i32_w]; rw [c73b0]) | skip)
                      by_cases c74 : t177 = true
                      · subst c74
                        have H1 : (pledgelaw17_NeedSays.j5 k2 x6_2 t173 t174 (t176 != x4_2)) = some r := by rw [if_pos rfl] at H; exact H
                        clear H
                        have H := H1
                        clear H1
                        have H' := Aside0.mk H
                        clear H
                        go_wp2
                        go_meet
                        case rel => exact ⟨_, ((t176 != x4_2)), (by first | rfl | (simp; done) | (simp [*]; done)), H', ⟨by have := HJ3.out; have := HK2.out; first | omega | exact Nat.le_refl _⟩, ⟨by repeat (first | (with_reducible first | exact HB.out | apply below_alloc | apply pw_below_drewN | apply below_drew1) | exact HB.out)⟩⟩
                      · replace c74 := Bool.eq_false_iff.mpr c74
                        subst c74
                        have H1 : (pledgelaw17_NeedSays.j5 k2 x6_2 t173 t174 false) = some r := by rw [if_neg (show ¬ (false = true) by decide)] at H; exact H
                        clear H
                        have H := H1
                        clear H1
                        have H' := Aside0.mk H
                        clear H
                        go_wp2
                        go_meet
                        case rel => exact ⟨_, (false), (by first | rfl | (simp; done) | (simp [*]; done)), H', ⟨by have := HJ3.out; have := HK2.out; first | omega | exact Nat.le_refl _⟩, ⟨by repeat (first | (with_reducible first | exact HB.out | apply below_alloc | apply pw_below_drewN | apply below_drew1) | exact HB.out)⟩⟩
                  case rest =>
                    clear HC70
                    try clear c1
                    try clear p2
                    try clear c4
                    try clear c5
                    try clear c6
                    try clear p6
                    try clear c7
                    try clear c8
                    try clear c8b0
                    try clear c9
                    try clear c11
                    try clear c13
                    try clear c14
                    try clear c45
                    try clear c51
                    try clear c51b0
                    try clear c51b1
                    try clear c53
                    try clear c53b0
                    try clear c53b1
                    try clear c53b2
                    try clear p64
                    try clear c65
                    try clear c66
                    try clear c66b0
                    try clear c68
                    try clear c73
                    try clear c73b0
                    try clear c73b1
                    try clear c73b2
                    try clear c74
                    try clear p2
                    try clear p6
                    try clear p64
                    obtain ⟨kq, x124_69, rfl, HA, HJ69, HB⟩ := hcut
                    cases kq with
                    | zero => exact absurd HA.out (by simp [pledgelaw17_NeedSays.j5])
                    | succ kj69 =>
                      have H := HA.out
                      clear HA
                      simp only [pledgelaw17_NeedSays.j5] at H
                      by_cases c75 : x124_69 = true
                      · subst c75
                        have H1 : (some false) = some r := by rw [if_pos rfl] at H; exact H
                        clear H
                        have H := H1
                        clear H1
                        obtain rfl := Option.some.inj H
                        go_wp2
                        go_ret
                        exact ⟨by first | rfl | (simp [errW_none, errW_some] <;> rfl) | (simp [*, errW_none, errW_some] <;> rfl), by repeat (first | (with_reducible first | exact HB.out | apply below_alloc | apply pw_below_drewN | apply below_drew1) | exact HB.out)⟩
                      · replace c75 := Bool.eq_false_iff.mpr c75
                        subst c75
                        have H1 : (if x6_2 > 1000000000000000 then (if t173 = 0 then ((pledgesee_Is.f t174 104).bind fun t178 => (some t178)) else (some false)) else (if t174.isNone = true then (some (t173 == x6_2)) else (some false))) = some r := by rw [if_neg (show ¬ (false = true) by decide)] at H; exact H
                        clear H
                        have H := H1
                        clear H1
                        by_cases c76 : x6_2 > 1000000000000000
                        · rw [if_pos c76] at H
                          have c76b0 : decide (1000000000000000 < x6_2) = true := decide_eq_true c76
                          clear c76
                          by_cases c77 : t173 = 0
                          · rw [if_pos c77] at H
                            have c77b0 : (t173 == 0) = true := beq_iff_eq.mpr c77
                            have c77b1 : (t173 != 0) = false := bne_eq_false_iff_eq.mpr c77
                            clear c77
                            replace H := Option.bind_eq_some_iff.mp H
                            obtain ⟨t178, A780, H⟩ := H
                            replace H : (some t178) = some r := H
                            have A78 := Aside0.mk A780
                            clear A780
                            obtain rfl := Option.some.inj H
                            have CA78 := fun W hG_ => pledgesee_Is.calls t174 104 t178 W hG_ A78.out
                            try simp only [errW_none, errW_some] at CA78
                            go_wp2_with (first | (go_at_call 15; (with_reducible refine (CA78 _ ?side1).mono ?_); (case side1 => exact GlobOK.below HG.out (by repeat (first | (with_reducible first | exact HB.out | apply below_alloc | apply pw_below_drewN | apply below_drew1) | exact HB.out))); rintro e w79 ⟨rfl, hb⟩; have n0_ := Aside0.mk (below_step (by repeat (first | (with_reducible first | exact HB.out | apply below_alloc | apply pw_below_drewN | apply below_drew1) | exact HB.out)) hb); clear HB; have HB := n0_; clear n0_; (try clear hb); (try clear hb2); (try clear hk); (try clear hi)))
                            go_ret
                            exact ⟨by first | rfl | (simp [errW_none, errW_some] <;> rfl) | (simp [*, errW_none, errW_some] <;> rfl), by repeat (first | (with_reducible first | exact HB.out | apply below_alloc | apply pw_below_drewN | apply below_drew1) | exact HB.out)⟩
                          · rw [if_neg c77] at H
                            have c77b0 : (t173 == 0) = false := beq_eq_false_iff_ne.mpr c77
                            have c77b1 : (t173 != 0) = true := bne_iff_ne.mpr c77
                            obtain rfl := Option.some.inj H
                            go_wp2
                            go_ret
                            exact ⟨by first | rfl | (simp [errW_none, errW_some] <;> rfl) | (simp [*, errW_none, errW_some] <;> rfl), by repeat (first | (with_reducible first | exact HB.out | apply below_alloc | apply pw_below_drewN | apply below_drew1) | exact HB.out)⟩
                        · rw [if_neg c76] at H
                          have c76b0 : decide (1000000000000000 < x6_2) = false := decide_eq_false c76
                          clear c76
                          rcases t174 with _ | q179
                          · have H1 : (some (t173 == x6_2)) = some r := by rw [if_pos (show (none : Option Int).isNone = true by rfl)] at H; exact H
                            clear H
                            have H := H1
                            clear H1
                            try simp only [errW_none, errW_some]
                            obtain rfl := Option.some.inj H
                            go_wp2
                            go_ret
                            exact ⟨by first | rfl | (simp [errW_none, errW_some] <;> rfl) | (simp [*, errW_none, errW_some] <;> rfl), by repeat (first | (with_reducible first | exact HB.out | apply below_alloc | apply pw_below_drewN | apply below_drew1) | exact HB.out)⟩
                          · have H1 : (some false) = some r := by rw [if_neg (show ¬ (some q179).isNone = true by simp)] at H; exact H
                            clear H
                            have H := H1
                            clear H1
                            try simp only [errW_none, errW_some]
                            obtain rfl := Option.some.inj H
                            go_wp2
                            go_ret
                            exact ⟨by first | rfl | (simp [errW_none, errW_some] <;> rfl) | (simp [*, errW_none, errW_some] <;> rfl), by repeat (first | (with_reducible first | exact HB.out | apply below_alloc | apply pw_below_drewN | apply below_drew1) | exact HB.out)⟩
                · replace c68 := Bool.eq_false_iff.mpr c68
                  subst c68
                  have H1 : (if t173 = 0 then ((pledgesee_Is.f t174 103).bind fun t175 => (some t175)) else (some false)) = some r := by rw [if_neg (show ¬ (false = true) by decide)] at H; exact H
                  clear H
                  have H := H1
                  clear H1
                  by_cases c80 : t173 = 0
                  · rw [if_pos c80] at H
                    have c80b0 : (t173 == 0) = true := beq_iff_eq.mpr c80
                    have c80b1 : (t173 != 0) = false := bne_eq_false_iff_eq.mpr c80
                    clear c80
                    replace H := Option.bind_eq_some_iff.mp H
                    obtain ⟨t175, A810, H⟩ := H
                    replace H : (some t175) = some r := H
                    have A81 := Aside0.mk A810
                    clear A810
                    obtain rfl := Option.some.inj H
                    go_wp2_with (first | ((with_reducible refine gate_callee (f := 14) rfl ?_); refine goesL_ (some 97) rfl rfl Tryd.func14 (by kernel_rfl) rfl #[.slice A0 l0.length c0] rfl (by (try simp only [List.map_toArray, List.map_cons, List.map_nil]); first | done | rfl | (simp only [List.length_drop, List.length_take]; rfl)) ?_; (with_reducible refine (need_Total.calls k2 _ _ l0 t173 t174 _ ?side1 ?side2 ?side3 A67.out).mono ?_); (case side1 => exact GlobOK.below HG.out (by repeat (first | (with_reducible first | exact HB.out | apply below_alloc | apply pw_below_drewN | apply below_drew1) | exact HB.out))); (case side2 => repeat (first | exact (Kd.C_below HR0.out HB.out) | (with_reducible refine Kd.C_alloc ?_ _) | (with_reducible refine Kd.C_drewN ?_ _) | (with_reducible refine Kd.C_drew ?_))); (case side3 => exact HC0.out); rintro e w82 ⟨rfl, hb⟩; refine ⟨_, rfl, ?_⟩; have n0_ := Aside0.mk (below_step (by repeat (first | (with_reducible first | exact HB.out | apply below_alloc | apply pw_below_drewN | apply below_drew1) | exact HB.out)) hb); clear HB; have HB := n0_; clear n0_; (try clear hb); (try clear hb2); (try clear hk); (try clear hi); (try simp only [errW_none, errW_some]); have CA81 := fun W hG_ => pledgesee_Is.calls t174 103 t175 W hG_ A81.out; try simp only [errW_none, errW_some] at CA81) | (go_at_call 15; (with_reducible refine (CA81 _ ?side1).mono ?_); (case side1 => exact GlobOK.below HG.out (by repeat (first | (with_reducible first | exact HB.out | apply below_alloc | apply pw_below_drewN | apply below_drew1) | exact HB.out))); rintro e w83 ⟨rfl, hb⟩; have n0_ := Aside0.mk (below_step (by repeat (first | (with_reducible first | exact HB.out | apply below_alloc | apply pw_below_drewN | apply below_drew1) | exact HB.out)) hb); clear HB; have HB := n0_; clear n0_; (try clear hb); (try clear hb2); (try clear hk); (try clear hi)))
                    go_ret
                    exact ⟨by first | rfl | (simp [errW_none, errW_some] <;> rfl) | (simp [*, errW_none, errW_some] <;> rfl), by repeat (first | (with_reducible first | exact HB.out | apply below_alloc | apply pw_below_drewN | apply below_drew1) | exact HB.out)⟩
                  · rw [if_neg c80] at H
                    have c80b0 : (t173 == 0) = false := beq_eq_false_iff_ne.mpr c80
                    have c80b1 : (t173 != 0) = true := bne_iff_ne.mpr c80
                    obtain rfl := Option.some.inj H
                    go_wp2_with (first | ((with_reducible refine gate_callee (f := 14) rfl ?_); refine goesL_ (some 97) rfl rfl Tryd.func14 (by kernel_rfl) rfl #[.slice A0 l0.length c0] rfl (by (try simp only [List.map_toArray, List.map_cons, List.map_nil]); first | done | rfl | (simp only [List.length_drop, List.length_take]; rfl)) ?_; (with_reducible refine (need_Total.calls k2 _ _ l0 t173 t174 _ ?side1 ?side2 ?side3 A67.out).mono ?_); (case side1 => exact GlobOK.below HG.out (by repeat (first | (with_reducible first | exact HB.out | apply below_alloc | apply pw_below_drewN | apply below_drew1) | exact HB.out))); (case side2 => repeat (first | exact (Kd.C_below HR0.out HB.out) | (with_reducible refine Kd.C_alloc ?_ _) | (with_reducible refine Kd.C_drewN ?_ _) | (with_reducible refine Kd.C_drew ?_))); (case side3 => exact HC0.out); rintro e w84 ⟨rfl, hb⟩; refine ⟨_, rfl, ?_⟩; have n0_ := Aside0.mk (below_step (by repeat (first | (with_reducible first | exact HB.out | apply below_alloc | apply pw_below_drewN | apply below_drew1) | exact HB.out)) hb); clear HB; have HB := n0_; clear n0_; (try clear hb); (try clear hb2); (try clear hk); (try clear hi); (try simp only [errW_none, errW_some])))
                    go_ret
                    exact ⟨by first | rfl | (simp [errW_none, errW_some] <;> rfl) | (simp [*, errW_none, errW_some] <;> rfl), by repeat (first | (with_reducible first | exact HB.out | apply below_alloc | apply pw_below_drewN | apply below_drew1) | exact HB.out)⟩
  · replace c3 := Bool.eq_false_iff.mpr c3
    subst c3
    have H1 : (some false) = some r := by rw [if_neg (show ¬ (false = true) by decide)] at H; exact H
    clear H
    have H := H1
    clear H1
    obtain rfl := Option.some.inj H
    go_enter Tryd.func5, Tryd.ntmps5
    go_wp2_with (first | ((with_reducible refine gate_callee (f := 6) rfl ?_); refine goesL_ (some 16) rfl rfl Tryd.func6 (by kernel_rfl) rfl #[] rfl (by (try simp only [List.map_toArray, List.map_cons, List.map_nil]); first | done | rfl | (simp only [List.length_drop, List.length_take]; rfl)) ?_; (with_reducible refine (pledgelaw17_first.calls  false _ A2.out).mono ?_); rintro e w85 ⟨rfl, hb⟩; refine ⟨_, rfl, ?_⟩; have n0_ := Aside0.mk (below_step (by repeat (first | (with_reducible first | exact HB.out | apply below_alloc | apply pw_below_drewN | apply below_drew1) | exact HB.out)) hb); clear HB; have HB := n0_; clear n0_; (try clear hb); (try clear hb2); (try clear hk); (try clear hi)))
    go_ret
    exact ⟨by first | rfl | (simp [errW_none, errW_some] <;> rfl) | (simp [*, errW_none, errW_some] <;> rfl), by repeat (first | (with_reducible first | exact HB.out | apply below_alloc | apply pw_below_drewN | apply below_drew1) | exact HB.out)⟩

/-- The pure statement of pledgelaw17_NeedSays: numbers and lists alone. -/
def pledgelaw17_NeedSays.Pure : Prop := ∀ (l0 : List (S23)), l0.length * 16 ≤ 140737488351232 → (l0.length ≤ maxLen ∧ ∀ x ∈ l0, (Rng .i64 x.f0 ∧ Rng .i64 x.f1)) → ∃ k, pledgelaw17_NeedSays.f k l0 = some true

end Go.Proofs.YtnpkohpgknhihaaDoor.ENeedSays
