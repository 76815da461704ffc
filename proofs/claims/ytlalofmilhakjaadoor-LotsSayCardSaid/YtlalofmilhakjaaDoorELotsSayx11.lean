/- The functions that the law comes to, as plain functions, and for each a proof that the Go code comes to just these answers. Written by a program of this claim. Conditions: each theorem bears its own. -/
import Derived.Test.YtlalofmilhakjaaDoorELotsSayx0
namespace Go.Proofs.YtlalofmilhakjaaDoor.ELotsSay
open Go.RowKit Go.Proofs.YtlalofmilhakjaaDoorW.PrintWords Go.Proofs.YtlalofmilhakjaaDoorW.PrintLast Go.Proofs.YtlalofmilhakjaaDoorW.PrintMore Go.Proofs.YtlalofmilhakjaaDoorW.PrintOpen
attribute [local go_sem] max2_int min2_int max_two min_two max_three min_three max_four min_four   -- for this text's walks alone
set_option linter.unusedVariables false
set_option linter.unusedSimpArgs false

/-! ### pledgeref_Ints: function 15 -/
def pledgeref_Ints.l0 : Nat → List Int → List Int → Int → Option (List Int)
  | 0, _, _, _ => none
  | k + 1, x0, x3, x4 => if x4 < (x0.length : Int) then (if 0 ≤ x4 then (if x3.length < 17592186044416 then (pledgeref_Ints.l0 k x0 (x3 ++ [rd x0 x4]) (wrap64 (x4 + 1))) else (none)) else (none)) else (some x3)
def pledgeref_Ints.f (k : Nat) (l0 : List Int) : Option (List Int) := if 0 ≤ (l0.length : Int) then (if ((l0.length : Int) : Int).toNat ≤ 35184372088832 then (pledgeref_Ints.l0 k l0 (([] : List Int)) 0) else (none)) else (none)
theorem pledgeref_Ints.mono_l : ∀ k, (∀ y0 y1 y2, LeO (pledgeref_Ints.l0 k y0 y1 y2) (pledgeref_Ints.l0 (k + 1) y0 y1 y2))
  | 0 => fun _ _ _ r h => by simp [pledgeref_Ints.l0] at h
  | k + 1 => by
    have ih0 := pledgeref_Ints.mono_l k
    · intro y0 y1 y2
      unfold pledgeref_Ints.l0
      repeat' first
      | (with_reducible exact ih0 _ _ _)
      | (with_reducible exact LeO.refl _)
      | (with_reducible exact LeO.none _)
      | (with_reducible refine LeO.ite ?_ ?_)
      | (with_reducible refine LeO.bind ?_ (fun _ => ?_))
      | exact ih0 _ _ _
      | exact LeO.none _
      | refine LeO.ite ?_ ?_
      | refine LeO.bind ?_ (fun _ => ?_)
theorem pledgeref_Ints.mono : ∀ a0 k, LeO (pledgeref_Ints.f k a0) (pledgeref_Ints.f (k + 1) a0) := by
  intro a0 k; have ih0 := pledgeref_Ints.mono_l k; unfold pledgeref_Ints.f
  repeat' first
      | (with_reducible exact ih0 _ _ _)
      | (with_reducible exact LeO.refl _)
      | (with_reducible exact LeO.none _)
      | (with_reducible refine LeO.ite ?_ ?_)
      | (with_reducible refine LeO.bind ?_ (fun _ => ?_))
      | exact ih0 _ _ _
      | exact LeO.none _
      | refine LeO.ite ?_ ?_
      | refine LeO.bind ?_ (fun _ => ?_)
set_option maxHeartbeats 8000000 in
set_option maxRecDepth 100000 in
theorem pledgeref_Ints.calls [Inhabited (Int → Addr)] (k : Nat) (A0 : Option Addr) (c0 : Nat) (l0 : List Int) (r : List Int) (w : World) (hr0 : Kd.C (Kd.int .i64) w A0 l0.length l0) (hc0 : l0.length ≤ c0) (h : pledgeref_Ints.f k l0 = some r) :
    Calls Tryd.prog 15 #[.slice A0 l0.length c0] w fun e w' => ∃ v0_ : Value, e = .returned (v0_) ∧ Kd.R (Kd.int .i64) 3 w' w.heap.size (fun _ => True) v0_ r ∧ Below w.heap.size w w' := by
  have HR0 := Aside0.mk hr0; have HC0 := Aside0.mk hc0; clear hr0 hc0; have HB := Aside0.mk (Below.refl w.heap.size w); have H : (if 0 ≤ (l0.length : Int) then (if ((l0.length : Int) : Int).toNat ≤ 35184372088832 then (pledgeref_Ints.l0 k l0 (([] : List Int)) 0) else (none)) else (none)) = some r := h; clear h; by_cases c2 : 0 ≤ (l0.length : Int)
  · rw [if_pos c2] at H
    have c2b0 := eq_true c2; have c2b1 : decide (0 ≤ (l0.length : Int)) = true := decide_eq_true c2; clear c2; by_cases c3 : ((l0.length : Int) : Int).toNat ≤ 35184372088832
    · rw [if_pos c3] at H
      have c3b0 := eq_true c3; have c3b1 : decide (((l0.length : Int) : Int).toNat ≤ 35184372088832) = true := decide_eq_true c3; clear c3; obtain ⟨y266, hy266⟩ : ∃ y_ : List Int, y_ = (([] : List Int)) := ⟨_, rfl⟩; replace H : (pledgeref_Ints.l0 k l0 y266 0) = some r := by first | (rw [hy266]; with_reducible exact H) | (have H2_ := (Option.bind_some _ _).symm.trans H; rw [hy266]; with_reducible exact H2_) | (have H2_ := (Option.bind_some _ _).symm.trans H; with_reducible exact H2_) | with_reducible exact H | (rw [hy266]; exact H) | exact H
      have Ny266 := Aside0.mk hy266; clear hy266; have H' := Aside0.mk H; clear H
      go_enter Tryd.func15, Tryd.ntmps15
      go_wp2_with (first | ((with_reducible refine gate_dst (N := 7) rfl ?_); refine R_make0 (Kd.int .i64) _ 3 rfl (N := 7) rfl 30 _ _ rfl (l0.length : Int) rfl rfl Tryd.underlying30 (.int .i64 0) 8 info3 (by decide) (ok := fun _ => True) trivial (of_decide_eq_true zA) (Nat.le_trans (Nat.mul_le_mul_right _ (of_decide_eq_true zA : (l0.length : Int).toNat ≤ 35184372088832)) (by omega)) (Below.refl _ _) (Nat.le_refl _) ?_; intro v267 w4 ho5 hb hg_ hnew_; clear hg_ hnew_; (first | rw [← Ny266.out] at ho5 | (simp only [Int.reduceToNat] at ho5; rw [← Ny266.out] at ho5)); have n0_ := Aside0.mk (Kd.R_lower ho5 (below_size (zH HB.out))); have n1_ := Aside0.mk (below_step (zH HB.out) hb); clear HB; have HO268 := n0_; have HB := n1_; clear n0_ n1_; clear hb ho5))
      go_loopg [3, 4] k (fun kq v3 v4 w' => ∃ (x3_1 : List Int) (x4_1 : Int), v4 = .int .i64 x4_1 ∧ Aside0 (pledgeref_Ints.l0 kq l0 x3_1 x4_1 = some r) ∧ Aside0 (kq ≤ k) ∧ Aside0 (Kd.R (Kd.int .i64) 3 w' w.heap.size (fun _ => True) v3 x3_1) ∧ Aside0 (Below w.heap.size w w'))
      case atStart => exact ⟨(y266), (0), zS, H', ⟨Nat.le_refl _⟩, ⟨by (with_reducible repeat (first | apply Kd.R_alloc | apply Kd.R_drewN | apply Kd.R_drew)); exact HO268.out⟩, ⟨zH HB.out⟩⟩
      case round =>
        clear H'
        try clear c1
        try clear c2
        try clear c2b0
        try clear c2b1
        try clear p2
        try clear c3
        try clear c3b0
        try clear c3b1
        obtain ⟨x3_1, x4_1, rfl, HA, HK1, HO_3, HB⟩ := hrel
        cases gk with
        | zero => exact absurd HA.out (by simp [pledgeref_Ints.l0])
        | succ k1 =>
          have H := HA.out; clear HA; simp only [pledgeref_Ints.l0] at H; by_cases c6 : x4_1 < (l0.length : Int)
          · rw [if_pos c6] at H
            have c6b0 : decide (x4_1 < (l0.length : Int)) = true := decide_eq_true c6; clear c6; by_cases c7 : 0 ≤ x4_1
            · rw [if_pos c7] at H
              have c7b0 : decide (0 ≤ x4_1) = true := decide_eq_true c7; clear c7; by_cases c8 : x3_1.length < 17592186044416
              · rw [if_pos c8] at H
                have LMc8 := Aside0.mk c8; clear c8; obtain ⟨y270, hy270⟩ : ∃ y_ : List Int, y_ = (x3_1 ++ [rd l0 x4_1]) := ⟨_, rfl⟩; replace H : (pledgeref_Ints.l0 k1 l0 y270 (wrap64 (x4_1 + 1))) = some r := by first | (rw [hy270]; with_reducible exact H) | (have H2_ := (Option.bind_some _ _).symm.trans H; rw [hy270]; with_reducible exact H2_) | (have H2_ := (Option.bind_some _ _).symm.trans H; with_reducible exact H2_) | with_reducible exact H | (rw [hy270]; exact H) | exact H
                have Ny270 := Aside0.mk hy270; clear hy270; have H' := Aside0.mk H; clear H; have p269 : 0 ≤ (x4_1 : Int) := of_decide_eq_true zA; have q269 : x4_1 < (l0.length : Int) := of_decide_eq_true zA; obtain ⟨ad269, e269, hx269_0⟩ := Kd.at_int HR0.out x4_1 p269 q269
                cases e269
                replace hx269_0 := (HB.out.cell (World.block_lt_of_cell? w _ hx269_0)).trans hx269_0; replace p269 := eq_true p269; replace q269 := eq_true q269
                go_wp2_with (first | ((with_reducible refine gate_builtin (b := .append) (xs := #[.tmp 14, .tmp 19]) rfl ?_); at_builtin; refine Kd.R_append (Kd.int .i64) (w0 := w) w.heap.size rfl (.tmp 14) (.tmp 19) 30 3 (.int .i64 0) 8 rfl Tryd.underlying30 info3 rfl (by decide) (by omega) u3 x3_1 (rd l0 x4_1) [.int .i64 (rd l0 x4_1)] (fun _ => True) (fun _ => False) rfl rfl ?aP (fun _ hk => hk.elim) ?aF ?aO ?aB ?aS ?aL ?_; (case aP => exact rfl); (case aB => exact (zH HB.out)); (case aF => exact (fun _ _ => trivial)); (case aO => exact (zR HO_3.out)); (case aS => exact (below_size (zH HB.out))); (case aL => have := LMc8.out; omega); intro v271 w9 ho hb hg hat; rw [← Ny270.out] at ho; have n0_ := Aside0.mk (hb); have n1_ := Aside0.mk (ho); clear HB; clear HO_3; have HB := n0_; have HO272 := n1_; clear n0_ n1_; clear ho hb hg hat))
                go_roundg k1
                case measure => have := HK1.out; omega
                case rel => exact ⟨(y270), (wrap64 (x4_1 + 1)), zS, H', ⟨by have := HK1.out; omega⟩, ⟨by (with_reducible repeat (first | apply Kd.R_alloc | apply Kd.R_drewN | apply Kd.R_drew)); exact HO272.out⟩, ⟨zH HB.out⟩⟩
              · rw [if_neg c8] at H
                exact absurd H (by simp)
            · rw [if_neg c7] at H
              exact absurd H (by simp)
          · rw [if_neg c6] at H
            have c6b0 : decide (x4_1 < (l0.length : Int)) = false := decide_eq_false c6; clear c6; obtain rfl := Option.some.inj H
            go_wp2
            go_ret
            exact ⟨_, zE, by (with_reducible repeat (first | apply Kd.R_alloc | apply Kd.R_drewN | apply Kd.R_drew)); exact HO_3.out, zH HB.out⟩
    · rw [if_neg c3] at H
      exact absurd H (by simp)
  · rw [if_neg c2] at H
    exact absurd H (by simp)

/-! ### pledgeref1_Wide: function 64 -/
def pledgeref1_Wide.f (a0 : Int) (a1 : Int) : Option (Int × Int) := some (IntKind.u64.wrap ((IntKind.u64.wrap ((IntKind.u64.wrap ((a0 / 4294967296) * (a1 / 4294967296))) + ((IntKind.u64.wrap ((IntKind.u64.wrap ((a0 / 4294967296) * (Go.bits .and .u64 a1 4294967295))) + ((IntKind.u64.wrap ((Go.bits .and .u64 a0 4294967295) * (Go.bits .and .u64 a1 4294967295))) / 4294967296))) / 4294967296))) + ((IntKind.u64.wrap ((IntKind.u64.wrap ((Go.bits .and .u64 a0 4294967295) * (a1 / 4294967296))) + (Go.bits .and .u64 (IntKind.u64.wrap ((IntKind.u64.wrap ((a0 / 4294967296) * (Go.bits .and .u64 a1 4294967295))) + ((IntKind.u64.wrap ((Go.bits .and .u64 a0 4294967295) * (Go.bits .and .u64 a1 4294967295))) / 4294967296))) 4294967295))) / 4294967296)), Go.bits .or .u64 (IntKind.u64.wrap ((IntKind.u64.wrap ((IntKind.u64.wrap ((Go.bits .and .u64 a0 4294967295) * (a1 / 4294967296))) + (Go.bits .and .u64 (IntKind.u64.wrap ((IntKind.u64.wrap ((a0 / 4294967296) * (Go.bits .and .u64 a1 4294967295))) + ((IntKind.u64.wrap ((Go.bits .and .u64 a0 4294967295) * (Go.bits .and .u64 a1 4294967295))) / 4294967296))) 4294967295))) * 4294967296)) (Go.bits .and .u64 (IntKind.u64.wrap ((Go.bits .and .u64 a0 4294967295) * (Go.bits .and .u64 a1 4294967295))) 4294967295))
set_option maxHeartbeats 8000000 in
set_option maxRecDepth 100000 in
theorem pledgeref1_Wide.calls [Inhabited (Int → Addr)] (a0 : Int) (a1 : Int) (r1 : Int) (r2 : Int) (w : World) (h : pledgeref1_Wide.f a0 a1 = some (r1, r2)) :
    Calls Tryd.prog 64 #[.int .u64 a0, .int .u64 a1] w fun e w' => e = .returned (.tuple #[.int .u64 r1, .int .u64 r2]) ∧ Drawn0 w w' := by
  have H : (some (IntKind.u64.wrap ((IntKind.u64.wrap ((IntKind.u64.wrap ((a0 / 4294967296) * (a1 / 4294967296))) + ((IntKind.u64.wrap ((IntKind.u64.wrap ((a0 / 4294967296) * (Go.bits .and .u64 a1 4294967295))) + ((IntKind.u64.wrap ((Go.bits .and .u64 a0 4294967295) * (Go.bits .and .u64 a1 4294967295))) / 4294967296))) / 4294967296))) + ((IntKind.u64.wrap ((IntKind.u64.wrap ((Go.bits .and .u64 a0 4294967295) * (a1 / 4294967296))) + (Go.bits .and .u64 (IntKind.u64.wrap ((IntKind.u64.wrap ((a0 / 4294967296) * (Go.bits .and .u64 a1 4294967295))) + ((IntKind.u64.wrap ((Go.bits .and .u64 a0 4294967295) * (Go.bits .and .u64 a1 4294967295))) / 4294967296))) 4294967295))) / 4294967296)), Go.bits .or .u64 (IntKind.u64.wrap ((IntKind.u64.wrap ((IntKind.u64.wrap ((Go.bits .and .u64 a0 4294967295) * (a1 / 4294967296))) + (Go.bits .and .u64 (IntKind.u64.wrap ((IntKind.u64.wrap ((a0 / 4294967296) * (Go.bits .and .u64 a1 4294967295))) + ((IntKind.u64.wrap ((Go.bits .and .u64 a0 4294967295) * (Go.bits .and .u64 a1 4294967295))) / 4294967296))) 4294967295))) * 4294967296)) (Go.bits .and .u64 (IntKind.u64.wrap ((Go.bits .and .u64 a0 4294967295) * (Go.bits .and .u64 a1 4294967295))) 4294967295))) = some (r1, r2) := h; clear h; simp only [Option.some.injEq, Prod.mk.injEq] at H; obtain ⟨rfl, rfl⟩ := H
  go_enter Tryd.func64, Tryd.ntmps64
  go_wp2
  go_ret2
  exact ⟨zF, zD⟩

/-! ### pledgeref1_size: function 65 -/
def pledgeref1_size.f (a0 : Int) : Option (Int) := if a0 < 0 then (some (IntKind.u64.wrap ((IntKind.u64.wrap (wrap64 (-(wrap64 (a0 + 1))))) + 1))) else (some (IntKind.u64.wrap (a0)))
set_option maxHeartbeats 8000000 in
set_option maxRecDepth 100000 in
theorem pledgeref1_size.calls [Inhabited (Int → Addr)] (a0 : Int) (r : Int) (w : World) (h : pledgeref1_size.f a0 = some r) :
    Calls Tryd.prog 65 #[.int .i64 a0] w fun e w' => e = .returned (.int .u64 r) ∧ Drawn0 w w' := by
  have H : (if a0 < 0 then (some (IntKind.u64.wrap ((IntKind.u64.wrap (wrap64 (-(wrap64 (a0 + 1))))) + 1))) else (some (IntKind.u64.wrap (a0)))) = some r := h; clear h; by_cases c2 : a0 < 0
  · rw [if_pos c2] at H
    have c2b0 : decide (a0 < 0) = true := decide_eq_true c2; clear c2; obtain rfl := Option.some.inj H
    go_enter Tryd.func65, Tryd.ntmps65
    go_wp2
    go_ret
    exact ⟨zF, zD⟩
  · rw [if_neg c2] at H
    have c2b0 : decide (a0 < 0) = false := decide_eq_false c2; clear c2; obtain rfl := Option.some.inj H
    go_enter Tryd.func65, Tryd.ntmps65
    go_wp2
    go_ret
    exact ⟨zF, zD⟩

/-! ### pledgeref1_Cmp: function 55 -/
mutual
def pledgeref1_Cmp.j0 : Nat → Int → Int → Int → Int → Int → Int → Bool → Option (Int)
 | 0, _, _, _, _, _, _, _ => none
 | k + 1, x2, x3, x9, x10, x11, x12, x13 => if ((decide (x2 < 0)) != (decide (x3 < 0))) = true then (if x11 = 0 then (pledgeref1_Cmp.j1 k x9 x10 x11 x12 x13 (x12 != 0)) else (pledgeref1_Cmp.j1 k x9 x10 x11 x12 x13 true)) else (pledgeref1_Cmp.j1 k x9 x10 x11 x12 x13 false)
def pledgeref1_Cmp.j1 : Nat → Int → Int → Int → Int → Bool → Bool → Option (Int)
 | 0, _, _, _, _, _, _ => none
 | k + 1, x9, x10, x11, x12, x13, x14 => if (x13 != x14) = true then (if x13 = true then (some (-1)) else (some 1)) else (if x9 < x11 then (pledgeref1_Cmp.j2 k x9 x10 x11 x12 x13 0 true) else (if x9 = x11 then (pledgeref1_Cmp.j2 k x9 x10 x11 x12 x13 0 (decide (x10 < x12))) else (pledgeref1_Cmp.j2 k x9 x10 x11 x12 x13 0 false)))
def pledgeref1_Cmp.j2 : Nat → Int → Int → Int → Int → Bool → Int → Bool → Option (Int)
 | 0, _, _, _, _, _, _, _ => none
 | k + 1, x9, x10, x11, x12, x13, x15, x74 => if x74 = true then (if x13 = true then (some (-(-1))) else (some (-1))) else (if x9 = x11 then (pledgeref1_Cmp.j3 k x13 x15 (x10 != x12)) else (pledgeref1_Cmp.j3 k x13 x15 true))
def pledgeref1_Cmp.j3 : Nat → Bool → Int → Bool → Option (Int)
 | 0, _, _, _ => none
 | k + 1, x13, x15, x82 => if x82 = true then (if x13 = true then (some (-1)) else (some 1)) else (if x13 = true then (some (wrap64 (-x15))) else (some x15))
end
def pledgeref1_Cmp.f (k : Nat) (a0 : Int) (a1 : Int) (a2 : Int) (a3 : Int) : Option (Int) := (pledgeref1_size.f a0).bind fun t273 => ((pledgeref1_size.f a1).bind fun t274 => ((pledgeref1_Wide.f t273 t274).bind fun bt275 => ((pledgeref1_size.f a2).bind fun t277 => ((pledgeref1_size.f a3).bind fun t278 => ((pledgeref1_Wide.f t277 t278).bind fun bt279 => (if ((decide (a0 < 0)) != (decide (a1 < 0))) = true then (if bt275.1 = 0 then (pledgeref1_Cmp.j0 k a2 a3 bt275.1 bt275.2 bt279.1 bt279.2 (bt275.2 != 0)) else (pledgeref1_Cmp.j0 k a2 a3 bt275.1 bt275.2 bt279.1 bt279.2 true)) else (pledgeref1_Cmp.j0 k a2 a3 bt275.1 bt275.2 bt279.1 bt279.2 false)))))))
theorem pledgeref1_Cmp.mono_l : ∀ k, (∀ y0 y1 y2 y3 y4 y5 y6, LeO (pledgeref1_Cmp.j0 k y0 y1 y2 y3 y4 y5 y6) (pledgeref1_Cmp.j0 (k + 1) y0 y1 y2 y3 y4 y5 y6)) ∧ (∀ y0 y1 y2 y3 y4 y5, LeO (pledgeref1_Cmp.j1 k y0 y1 y2 y3 y4 y5) (pledgeref1_Cmp.j1 (k + 1) y0 y1 y2 y3 y4 y5)) ∧ (∀ y0 y1 y2 y3 y4 y5 y6, LeO (pledgeref1_Cmp.j2 k y0 y1 y2 y3 y4 y5 y6) (pledgeref1_Cmp.j2 (k + 1) y0 y1 y2 y3 y4 y5 y6)) ∧ (∀ y0 y1 y2, LeO (pledgeref1_Cmp.j3 k y0 y1 y2) (pledgeref1_Cmp.j3 (k + 1) y0 y1 y2))
 | 0 => ⟨fun _ _ _ _ _ _ _ r h => by simp [pledgeref1_Cmp.j0] at h, fun _ _ _ _ _ _ r h => by simp [pledgeref1_Cmp.j1] at h, fun _ _ _ _ _ _ _ r h => by simp [pledgeref1_Cmp.j2] at h, fun _ _ _ r h => by simp [pledgeref1_Cmp.j3] at h⟩
 | k + 1 => by
  obtain ⟨ih0, ih1, ih2, ih3⟩ := pledgeref1_Cmp.mono_l k; refine ⟨?_, ?_, ?_, ?_⟩
  ·
   intro y0 y1 y2 y3 y4 y5 y6; unfold pledgeref1_Cmp.j0
   repeat' first
   | (with_reducible exact ih0 _ _ _ _ _ _ _)
   | (with_reducible exact ih1 _ _ _ _ _ _)
   | (with_reducible exact ih2 _ _ _ _ _ _ _)
   | (with_reducible exact ih3 _ _ _)
   | (with_reducible exact LeO.refl _)
   | (with_reducible exact LeO.none _)
   | (with_reducible refine LeO.ite ?_ ?_)
   | (with_reducible refine LeO.bind ?_ (fun _ => ?_))
   | exact ih0 _ _ _ _ _ _ _
   | exact ih1 _ _ _ _ _ _
   | exact ih2 _ _ _ _ _ _ _
   | exact ih3 _ _ _
   | exact LeO.none _
   | refine LeO.ite ?_ ?_
   | refine LeO.bind ?_ (fun _ => ?_)
  ·
   intro y0 y1 y2 y3 y4 y5; unfold pledgeref1_Cmp.j1
   repeat' first
   | (with_reducible exact ih0 _ _ _ _ _ _ _)
   | (with_reducible exact ih1 _ _ _ _ _ _)
   | (with_reducible exact ih2 _ _ _ _ _ _ _)
   | (with_reducible exact ih3 _ _ _)
   | (with_reducible exact LeO.refl _)
   | (with_reducible exact LeO.none _)
   | (with_reducible refine LeO.ite ?_ ?_)
   | (with_reducible refine LeO.bind ?_ (fun _ => ?_))
   | exact ih0 _ _ _ _ _ _ _
   | exact ih1 _ _ _ _ _ _
   | exact ih2 _ _ _ _ _ _ _
   | exact ih3 _ _ _
   | exact LeO.none _
   | refine LeO.ite ?_ ?_
   | refine LeO.bind ?_ (fun _ => ?_)
  ·
   intro y0 y1 y2 y3 y4 y5 y6; unfold pledgeref1_Cmp.j2
   repeat' first
   | (with_reducible exact ih0 _ _ _ _ _ _ _)
   | (with_reducible exact ih1 _ _ _ _ _ _)
   | (with_reducible exact ih2 _ _ _ _ _ _ _)
   | (with_reducible exact ih3 _ _ _)
   | (with_reducible exact LeO.refl _)
   | (with_reducible exact LeO.none _)
   | (with_reducible refine LeO.ite ?_ ?_)
   | (with_reducible refine LeO.bind ?_ (fun _ => ?_))
   | exact ih0 _ _ _ _ _ _ _
   | exact ih1 _ _ _ _ _ _
   | exact ih2 _ _ _ _ _ _ _
   | exact ih3 _ _ _
   | exact LeO.none _
   | refine LeO.ite ?_ ?_
   | refine LeO.bind ?_ (fun _ => ?_)
  ·
   intro y0 y1 y2; unfold pledgeref1_Cmp.j3
   repeat' first
   | (with_reducible exact ih0 _ _ _ _ _ _ _)
   | (with_reducible exact ih1 _ _ _ _ _ _)
   | (with_reducible exact ih2 _ _ _ _ _ _ _)
   | (with_reducible exact ih3 _ _ _)
   | (with_reducible exact LeO.refl _)
   | (with_reducible exact LeO.none _)
   | (with_reducible refine LeO.ite ?_ ?_)
   | (with_reducible refine LeO.bind ?_ (fun _ => ?_))
   | exact ih0 _ _ _ _ _ _ _
   | exact ih1 _ _ _ _ _ _
   | exact ih2 _ _ _ _ _ _ _
   | exact ih3 _ _ _
   | exact LeO.none _
   | refine LeO.ite ?_ ?_
   | refine LeO.bind ?_ (fun _ => ?_)
theorem pledgeref1_Cmp.mono : ∀ a0 a1 a2 a3 k, LeO (pledgeref1_Cmp.f k a0 a1 a2 a3) (pledgeref1_Cmp.f (k + 1) a0 a1 a2 a3) := by
 intro a0 a1 a2 a3 k; obtain ⟨ih0, ih1, ih2, ih3⟩ := pledgeref1_Cmp.mono_l k; unfold pledgeref1_Cmp.f
 repeat' first
   | (with_reducible exact ih0 _ _ _ _ _ _ _)
   | (with_reducible exact ih1 _ _ _ _ _ _)
   | (with_reducible exact ih2 _ _ _ _ _ _ _)
   | (with_reducible exact ih3 _ _ _)
   | (with_reducible exact LeO.refl _)
   | (with_reducible exact LeO.none _)
   | (with_reducible refine LeO.ite ?_ ?_)
   | (with_reducible refine LeO.bind ?_ (fun _ => ?_))
   | exact ih0 _ _ _ _ _ _ _
   | exact ih1 _ _ _ _ _ _
   | exact ih2 _ _ _ _ _ _ _
   | exact ih3 _ _ _
   | exact LeO.none _
   | refine LeO.ite ?_ ?_
   | refine LeO.bind ?_ (fun _ => ?_)
set_option maxHeartbeats 8000000 in
set_option maxRecDepth 100000 in
theorem pledgeref1_Cmp.calls [Inhabited (Int → Addr)] (k : Nat) (a0 : Int) (a1 : Int) (a2 : Int) (a3 : Int) (r : Int) (w : World) (h : pledgeref1_Cmp.f k a0 a1 a2 a3 = some r) :
  Calls Tryd.prog 55 #[.int .i64 a0, .int .i64 a1, .int .i64 a2, .int .i64 a3] w fun e w' => e = .returned (.int .i64 r) ∧ Drawn0 w w' := by
 have H : ((pledgeref1_size.f a0).bind fun t273 => ((pledgeref1_size.f a1).bind fun t274 => ((pledgeref1_Wide.f t273 t274).bind fun bt275 => ((pledgeref1_size.f a2).bind fun t277 => ((pledgeref1_size.f a3).bind fun t278 => ((pledgeref1_Wide.f t277 t278).bind fun bt279 => (if ((decide (a0 < 0)) != (decide (a1 < 0))) = true then (if bt275.1 = 0 then (pledgeref1_Cmp.j0 k a2 a3 bt275.1 bt275.2 bt279.1 bt279.2 (bt275.2 != 0)) else (pledgeref1_Cmp.j0 k a2 a3 bt275.1 bt275.2 bt279.1 bt279.2 true)) else (pledgeref1_Cmp.j0 k a2 a3 bt275.1 bt275.2 bt279.1 bt279.2 false)))))))) = some r := h; clear h; replace H := Option.bind_eq_some_iff.mp H; obtain ⟨t273, A50, H⟩ := H; replace H : ((pledgeref1_size.f a1).bind fun t274 => ((pledgeref1_Wide.f t273 t274).bind fun bt275 => ((pledgeref1_size.f a2).bind fun t277 => ((pledgeref1_size.f a3).bind fun t278 => ((pledgeref1_Wide.f t277 t278).bind fun bt279 => (if ((decide (a0 < 0)) != (decide (a1 < 0))) = true then (if bt275.1 = 0 then (pledgeref1_Cmp.j0 k a2 a3 bt275.1 bt275.2 bt279.1 bt279.2 (bt275.2 != 0)) else (pledgeref1_Cmp.j0 k a2 a3 bt275.1 bt275.2 bt279.1 bt279.2 true)) else (pledgeref1_Cmp.j0 k a2 a3 bt275.1 bt275.2 bt279.1 bt279.2 false))))))) = some r := H; have A5 := Aside0.mk A50; clear A50; replace H := Option.bind_eq_some_iff.mp H; obtain ⟨t274, A60, H⟩ := H; replace H : ((pledgeref1_Wide.f t273 t274).bind fun bt275 => ((pledgeref1_size.f a2).bind fun t277 => ((pledgeref1_size.f a3).bind fun t278 => ((pledgeref1_Wide.f t277 t278).bind fun bt279 => (if ((decide (a0 < 0)) != (decide (a1 < 0))) = true then (if bt275.1 = 0 then (pledgeref1_Cmp.j0 k a2 a3 bt275.1 bt275.2 bt279.1 bt279.2 (bt275.2 != 0)) else (pledgeref1_Cmp.j0 k a2 a3 bt275.1 bt275.2 bt279.1 bt279.2 true)) else (pledgeref1_Cmp.j0 k a2 a3 bt275.1 bt275.2 bt279.1 bt279.2 false)))))) = some r := H; have A6 := Aside0.mk A60; clear A60; replace H := Option.bind_eq_some_iff.mp H; obtain ⟨⟨t275, t276⟩, A70, H⟩ := H; replace H : ((pledgeref1_size.f a2).bind fun t277 => ((pledgeref1_size.f a3).bind fun t278 => ((pledgeref1_Wide.f t277 t278).bind fun bt279 => (if ((decide (a0 < 0)) != (decide (a1 < 0))) = true then (if t275 = 0 then (pledgeref1_Cmp.j0 k a2 a3 t275 t276 bt279.1 bt279.2 (t276 != 0)) else (pledgeref1_Cmp.j0 k a2 a3 t275 t276 bt279.1 bt279.2 true)) else (pledgeref1_Cmp.j0 k a2 a3 t275 t276 bt279.1 bt279.2 false))))) = some r := H; have A7 := Aside0.mk A70; clear A70; replace H := Option.bind_eq_some_iff.mp H; obtain ⟨t277, A80, H⟩ := H; replace H : ((pledgeref1_size.f a3).bind fun t278 => ((pledgeref1_Wide.f t277 t278).bind fun bt279 => (if ((decide (a0 < 0)) != (decide (a1 < 0))) = true then (if t275 = 0 then (pledgeref1_Cmp.j0 k a2 a3 t275 t276 bt279.1 bt279.2 (t276 != 0)) else (pledgeref1_Cmp.j0 k a2 a3 t275 t276 bt279.1 bt279.2 true)) else (pledgeref1_Cmp.j0 k a2 a3 t275 t276 bt279.1 bt279.2 false)))) = some r := H; have A8 := Aside0.mk A80; clear A80; replace H := Option.bind_eq_some_iff.mp H; obtain ⟨t278, A90, H⟩ := H; replace H : ((pledgeref1_Wide.f t277 t278).bind fun bt279 => (if ((decide (a0 < 0)) != (decide (a1 < 0))) = true then (if t275 = 0 then (pledgeref1_Cmp.j0 k a2 a3 t275 t276 bt279.1 bt279.2 (t276 != 0)) else (pledgeref1_Cmp.j0 k a2 a3 t275 t276 bt279.1 bt279.2 true)) else (pledgeref1_Cmp.j0 k a2 a3 t275 t276 bt279.1 bt279.2 false))) = some r := H; have A9 := Aside0.mk A90; clear A90; replace H := Option.bind_eq_some_iff.mp H; obtain ⟨⟨t279, t280⟩, A100, H⟩ := H; replace H : (if ((decide (a0 < 0)) != (decide (a1 < 0))) = true then (if t275 = 0 then (pledgeref1_Cmp.j0 k a2 a3 t275 t276 t279 t280 (t276 != 0)) else (pledgeref1_Cmp.j0 k a2 a3 t275 t276 t279 t280 true)) else (pledgeref1_Cmp.j0 k a2 a3 t275 t276 t279 t280 false)) = some r := H; have A10 := Aside0.mk A100; clear A100; have HC11 := Aside0.mk H; clear H
 go_enter Tryd.func55, Tryd.ntmps55
 go_upto_region 3 with (first | ((with_reducible refine gate_callee (f := 65) rfl ?_); refine goesL_ (some 18) rfl rfl Tryd.func65 (by kernel_rfl) rfl #[.int .i64 a0] rfl zM ?_; (with_reducible refine (pledgeref1_size.calls a0 t273 _ A5.out).mono ?_); rintro e w' ⟨rfl, ⟨nd, rfl⟩⟩; refine ⟨_, rfl, ?_⟩) | ((with_reducible refine gate_callee (f := 65) rfl ?_); refine goesL_ (some 20) rfl rfl Tryd.func65 (by kernel_rfl) rfl #[.int .i64 a1] rfl zM ?_; (with_reducible refine (pledgeref1_size.calls a1 t274 _ A6.out).mono ?_); rintro e w' ⟨rfl, ⟨nd, rfl⟩⟩; refine ⟨_, rfl, ?_⟩) | ((with_reducible refine gate_callee (f := 64) rfl ?_); refine goesL_ (some 21) rfl rfl Tryd.func64 (by kernel_rfl) rfl #[.int .u64 t273, .int .u64 t274] rfl zM ?_; (with_reducible refine (pledgeref1_Wide.calls t273 t274 t275 t276 _ A7.out).mono ?_); rintro e w' ⟨rfl, ⟨nd, rfl⟩⟩; refine ⟨_, rfl, ?_⟩) | ((with_reducible refine gate_callee (f := 65) rfl ?_); refine goesL_ (some 26) rfl rfl Tryd.func65 (by kernel_rfl) rfl #[.int .i64 a2] rfl zM ?_; (with_reducible refine (pledgeref1_size.calls a2 t277 _ A8.out).mono ?_); rintro e w' ⟨rfl, ⟨nd, rfl⟩⟩; refine ⟨_, rfl, ?_⟩) | ((with_reducible refine gate_callee (f := 65) rfl ?_); refine goesL_ (some 28) rfl rfl Tryd.func65 (by kernel_rfl) rfl #[.int .i64 a3] rfl zM ?_; (with_reducible refine (pledgeref1_size.calls a3 t278 _ A9.out).mono ?_); rintro e w' ⟨rfl, ⟨nd, rfl⟩⟩; refine ⟨_, rfl, ?_⟩) | ((with_reducible refine gate_callee (f := 64) rfl ?_); refine goesL_ (some 29) rfl rfl Tryd.func64 (by kernel_rfl) rfl #[.int .u64 t277, .int .u64 t278] rfl zM ?_; (with_reducible refine (pledgeref1_Wide.calls t277 t278 t279 t280 _ A10.out).mono ?_); rintro e w' ⟨rfl, ⟨nd, rfl⟩⟩; refine ⟨_, rfl, ?_⟩))
 (try simp only [Act.put, zq1, zq2, zq3])
 go_cut [13] (fun v13 wc => ∃ (kq : Nat) (x13_10 : Bool), v13 = .bool x13_10 ∧ Aside0 (pledgeref1_Cmp.j0 kq a2 a3 t275 t276 t279 t280 x13_10 = some r) ∧ Aside0 (kq ≤ k) ∧ Drawn0 w wc)
 case first =>
  have H := HC11.out; clear HC11; by_cases c12 : ((decide (a0 < 0)) != (decide (a1 < 0))) = true
  ·
   rw [if_pos c12] at H; have c12b0 : ((decide (a0 < 0)) != (decide (a1 < 0))) = true := c12; (try (have c12b1 : decide ((decide (a0 < 0)) = (decide (a1 < 0))) = false := by simpa using c12)); (try (have c12b2 : ((decide (a0 < 0)) == (decide (a1 < 0))) = false := by simpa using c12)); (try (have c12b3 : ¬ ((decide (a0 < 0)) = (decide (a1 < 0))) := by simpa using c12)); clear c12
   (first | rw [c12b0] | (simp only [i64_w, i32_w]; rw [c12b0]) | skip)
   by_cases c13 : t275 = 0
   ·
    rw [if_pos c13] at H; have c13b0 : (t275 == 0) = true := beq_iff_eq.mpr c13; have c13b1 : (t275 != 0) = false := bne_eq_false_iff_eq.mpr c13; clear c13; have H' := Aside0.mk H; clear H
    go_wp2
    go_meet
    case rel => exact ⟨_, ((t276 != 0)), zS, H', ⟨by first | omega | exact Nat.le_refl _⟩, zD⟩
   ·
    rw [if_neg c13] at H; have c13b0 : (t275 == 0) = false := beq_eq_false_iff_ne.mpr c13; have c13b1 : (t275 != 0) = true := bne_iff_ne.mpr c13; have H' := Aside0.mk H; clear H
    go_wp2
    go_meet
    case rel => exact ⟨_, (true), zS, H', ⟨by first | omega | exact Nat.le_refl _⟩, zD⟩
  ·
   rw [if_neg c12] at H; have c12b0 : ((decide (a0 < 0)) != (decide (a1 < 0))) = false := by simpa using c12
   (try (have c12b1 : decide ((decide (a0 < 0)) = (decide (a1 < 0))) = true := by simpa using c12)); (try (have c12b2 : ((decide (a0 < 0)) == (decide (a1 < 0))) = true := by simpa using c12)); clear c12
   (first | rw [c12b0] | (simp only [i64_w, i32_w]; rw [c12b0]) | skip)
   have H' := Aside0.mk H; clear H
   go_wp2
   go_meet
   case rel => exact ⟨_, (false), zS, H', ⟨by first | omega | exact Nat.le_refl _⟩, zD⟩
 case rest =>
  clear HC11
  try clear c1
  try clear p2
  try clear c5
  try clear c6
  try clear c12
  try clear c12b0
  try clear c12b1
  try clear c12b2
  try clear c13
  try clear c13b0
  try clear c13b1
  obtain ⟨kq, x13_10, rfl, HA, HJ10, ⟨mc10, rfl⟩⟩ := hcut
  cases kq with
  | zero => exact absurd HA.out (by simp [pledgeref1_Cmp.j0])
  | succ kj10 =>
   have H := HA.out; clear HA; simp only [pledgeref1_Cmp.j0] at H; have HC14 := Aside0.mk H; clear H
   go_upto_region 4 with (fail)
   go_cut [14] (fun v14 wc => ∃ (kq : Nat) (x14_13 : Bool), v14 = .bool x14_13 ∧ Aside0 (pledgeref1_Cmp.j1 kq t275 t276 t279 t280 x13_10 x14_13 = some r) ∧ Aside0 (kq ≤ kj10) ∧ Drawn0 w wc)
   case first =>
    have H := HC14.out; clear HC14; by_cases c15 : ((decide (a2 < 0)) != (decide (a3 < 0))) = true
    ·
     rw [if_pos c15] at H; have c15b0 : ((decide (a2 < 0)) != (decide (a3 < 0))) = true := c15; (try (have c15b1 : decide ((decide (a2 < 0)) = (decide (a3 < 0))) = false := by simpa using c15)); (try (have c15b2 : ((decide (a2 < 0)) == (decide (a3 < 0))) = false := by simpa using c15)); (try (have c15b3 : ¬ ((decide (a2 < 0)) = (decide (a3 < 0))) := by simpa using c15)); clear c15
     (first | rw [c15b0] | (simp only [i64_w, i32_w]; rw [c15b0]) | skip)
     by_cases c16 : t279 = 0
     ·
      rw [if_pos c16] at H; have c16b0 : (t279 == 0) = true := beq_iff_eq.mpr c16; have c16b1 : (t279 != 0) = false := bne_eq_false_iff_eq.mpr c16; clear c16; have H' := Aside0.mk H; clear H
      go_wp2
      go_meet
      case rel => exact ⟨_, ((t280 != 0)), zS, H', ⟨by have := HJ10.out; first | omega | exact Nat.le_refl _⟩, zD⟩
     ·
      rw [if_neg c16] at H; have c16b0 : (t279 == 0) = false := beq_eq_false_iff_ne.mpr c16; have c16b1 : (t279 != 0) = true := bne_iff_ne.mpr c16; have H' := Aside0.mk H; clear H
      go_wp2
      go_meet
      case rel => exact ⟨_, (true), zS, H', ⟨by have := HJ10.out; first | omega | exact Nat.le_refl _⟩, zD⟩
    ·
     rw [if_neg c15] at H; have c15b0 : ((decide (a2 < 0)) != (decide (a3 < 0))) = false := by simpa using c15
     (try (have c15b1 : decide ((decide (a2 < 0)) = (decide (a3 < 0))) = true := by simpa using c15)); (try (have c15b2 : ((decide (a2 < 0)) == (decide (a3 < 0))) = true := by simpa using c15)); clear c15
     (first | rw [c15b0] | (simp only [i64_w, i32_w]; rw [c15b0]) | skip)
     have H' := Aside0.mk H; clear H
     go_wp2
     go_meet
     case rel => exact ⟨_, (false), zS, H', ⟨by have := HJ10.out; first | omega | exact Nat.le_refl _⟩, zD⟩
   case rest =>
    clear HC14
    try clear c1
    try clear p2
    try clear c5
    try clear c6
    try clear c10
    try clear c12
    try clear c12b0
    try clear c12b1
    try clear c12b2
    try clear c13
    try clear c13b0
    try clear c13b1
    try clear c15
    try clear c15b0
    try clear c15b1
    try clear c15b2
    try clear c16
    try clear c16b0
    try clear c16b1
    try clear p2
    obtain ⟨kq, x14_13, rfl, HA, HJ13, ⟨mc13, rfl⟩⟩ := hcut
    cases kq with
    | zero => exact absurd HA.out (by simp [pledgeref1_Cmp.j1])
    | succ kj13 =>
     have H := HA.out; clear HA; simp only [pledgeref1_Cmp.j1] at H; by_cases c17 : (x13_10 != x14_13) = true
     ·
      rw [if_pos c17] at H; have c17b0 : (x13_10 != x14_13) = true := c17; (try (have c17b1 : decide (x13_10 = x14_13) = false := by simpa using c17)); (try (have c17b2 : (x13_10 == x14_13) = false := by simpa using c17)); (try (have c17b3 : ¬ (x13_10 = x14_13) := by simpa using c17)); clear c17; by_cases c18 : x13_10 = true
      ·
       subst c18; have H1 : (some (-1)) = some r := by rw [if_pos rfl] at H; exact H
       clear H; have H := H1; clear H1; obtain rfl := Option.some.inj H
       go_wp2
       go_ret
       exact ⟨zF, zD⟩
      ·
       replace c18 := Bool.eq_false_iff.mpr c18; subst c18; have H1 : (some 1) = some r := by rw [if_neg (show ¬ (false = true) by decide)] at H; exact H
       clear H; have H := H1; clear H1; obtain rfl := Option.some.inj H
       go_wp2
       go_ret
       exact ⟨zF, zD⟩
     ·
      rw [if_neg c17] at H; have c17b0 : (x13_10 != x14_13) = false := by simpa using c17
      (try (have c17b1 : decide (x13_10 = x14_13) = true := by simpa using c17)); (try (have c17b2 : (x13_10 == x14_13) = true := by simpa using c17)); clear c17; have HC19 := Aside0.mk H; clear H
      go_upto_region 10 with (fail)
      go_cut [74] (fun v74 wc => ∃ (kq : Nat) (x74_18 : Bool), v74 = .bool x74_18 ∧ Aside0 (pledgeref1_Cmp.j2 kq t275 t276 t279 t280 x13_10 0 x74_18 = some r) ∧ Aside0 (kq ≤ kj13) ∧ Drawn0 w wc)
      case first =>
       have H := HC19.out; clear HC19; by_cases c20 : t275 < t279
       ·
        rw [if_pos c20] at H; have c20b0 : decide (t275 < t279) = true := decide_eq_true c20; clear c20
        (first | rw [c20b0] | (simp only [i64_w, i32_w]; rw [c20b0]) | skip)
        have H' := Aside0.mk H; clear H
        go_wp2
        go_meet
        case rel => exact ⟨_, (true), zS, H', ⟨by have := HJ10.out; have := HJ13.out; first | omega | exact Nat.le_refl _⟩, zD⟩
       ·
        rw [if_neg c20] at H; have c20b0 : decide (t275 < t279) = false := decide_eq_false c20; clear c20
        (first | rw [c20b0] | (simp only [i64_w, i32_w]; rw [c20b0]) | skip)
        by_cases c21 : t275 = t279
        ·
         rw [if_pos c21] at H; have c21b0 : (t275 == t279) = true := beq_iff_eq.mpr c21; have c21b1 : (t275 != t279) = false := bne_eq_false_iff_eq.mpr c21; clear c21; have H' := Aside0.mk H; clear H
         go_wp2
         go_meet
         case rel => exact ⟨_, (decide (t276 < t280)), zS, H', ⟨by have := HJ10.out; have := HJ13.out; first | omega | exact Nat.le_refl _⟩, zD⟩
        ·
         rw [if_neg c21] at H; have c21b0 : (t275 == t279) = false := beq_eq_false_iff_ne.mpr c21; have c21b1 : (t275 != t279) = true := bne_iff_ne.mpr c21; have H' := Aside0.mk H; clear H
         go_wp2
         go_meet
         case rel => exact ⟨_, (false), zS, H', ⟨by have := HJ10.out; have := HJ13.out; first | omega | exact Nat.le_refl _⟩, zD⟩
      case rest =>
       clear HC19
       try clear c1
       try clear c2
       try clear p2
       try clear c5
       try clear c6
       try clear p6
       try clear c10
       try clear c12
       try clear c12b0
       try clear c12b1
       try clear c12b2
       try clear c13
       try clear c13b0
       try clear c13b1
       try clear c15
       try clear c15b0
       try clear c15b1
       try clear c15b2
       try clear c16
       try clear c16b0
       try clear c16b1
       try clear c17
       try clear c17b0
       try clear c17b1
       try clear c17b2
       try clear c18
       try clear c20
       try clear c20b0
       try clear c21
       try clear c21b0
       try clear c21b1
       try clear p2
       obtain ⟨kq, x74_18, rfl, HA, HJ18, ⟨mc18, rfl⟩⟩ := hcut
       cases kq with
       | zero => exact absurd HA.out (by simp [pledgeref1_Cmp.j2])
       | succ kj18 =>
        have H := HA.out; clear HA; simp only [pledgeref1_Cmp.j2] at H; by_cases c22 : x74_18 = true
        ·
         subst c22; have H1 : (if x13_10 = true then (some (-(-1))) else (some (-1))) = some r := by rw [if_pos rfl] at H; exact H
         clear H; have H := H1; clear H1; by_cases c23 : x13_10 = true
         ·
          subst c23; have H1 : (some (-(-1))) = some r := by rw [if_pos rfl] at H; exact H
          clear H; have H := H1; clear H1; obtain rfl := Option.some.inj H
          go_wp2
          go_ret
          exact ⟨zF, zD⟩
         ·
          replace c23 := Bool.eq_false_iff.mpr c23; subst c23; have H1 : (some (-1)) = some r := by rw [if_neg (show ¬ (false = true) by decide)] at H; exact H
          clear H; have H := H1; clear H1; obtain rfl := Option.some.inj H
          go_wp2
          go_ret
          exact ⟨zF, zD⟩
        ·
         replace c22 := Bool.eq_false_iff.mpr c22; subst c22; have H1 : (if t275 = t279 then (pledgeref1_Cmp.j3 kj18 x13_10 0 (t276 != t280)) else (pledgeref1_Cmp.j3 kj18 x13_10 0 true)) = some r := by rw [if_neg (show ¬ (false = true) by decide)] at H; exact H
         clear H; have H := H1; clear H1; have HC24 := Aside0.mk H; clear H
         go_upto_region 12 with (fail)
         go_cut [82] (fun v82 wc => ∃ (kq : Nat) (x82_23 : Bool), v82 = .bool x82_23 ∧ Aside0 (pledgeref1_Cmp.j3 kq x13_10 0 x82_23 = some r) ∧ Aside0 (kq ≤ kj18) ∧ Drawn0 w wc)
         case first =>
          have H := HC24.out; clear HC24; by_cases c25 : t275 = t279
          ·
           rw [if_pos c25] at H; have c25b0 : (t275 == t279) = true := beq_iff_eq.mpr c25; have c25b1 : (t275 != t279) = false := bne_eq_false_iff_eq.mpr c25; clear c25
           (first | rw [c25b0] | (simp only [i64_w, i32_w]; rw [c25b0]) | skip)
           have H' := Aside0.mk H; clear H
           go_wp2
           go_meet
           case rel => exact ⟨_, ((t276 != t280)), zS, H', ⟨by have := HJ10.out; have := HJ13.out; have := HJ18.out; first | omega | exact Nat.le_refl _⟩, zD⟩
          ·
           rw [if_neg c25] at H; have c25b0 : (t275 == t279) = false := beq_eq_false_iff_ne.mpr c25; have c25b1 : (t275 != t279) = true := bne_iff_ne.mpr c25
           (first | rw [c25b0] | (simp only [i64_w, i32_w]; rw [c25b0]) | skip)
           have H' := Aside0.mk H; clear H
           go_wp2
           go_meet
           case rel => exact ⟨_, (true), zS, H', ⟨by have := HJ10.out; have := HJ13.out; have := HJ18.out; first | omega | exact Nat.le_refl _⟩, zD⟩
         case rest =>
          clear HC24
          try clear c1
          try clear c2
          try clear p2
          try clear c5
          try clear c6
          try clear p6
          try clear c10
          try clear c12
          try clear c12b0
          try clear c12b1
          try clear c12b2
          try clear c13
          try clear c13b0
          try clear c13b1
          try clear c15
          try clear c15b0
          try clear c15b1
          try clear c15b2
          try clear c16
          try clear c16b0
          try clear c16b1
          try clear c17
          try clear c17b0
          try clear c17b1
          try clear c17b2
          try clear c18
          try clear c20
          try clear c20b0
          try clear c21
          try clear c21b0
          try clear c21b1
          try clear c22
          try clear c23
          try clear c25
          try clear c25b0
          try clear c25b1
          try clear p2
          try clear p6
          obtain ⟨kq, x82_23, rfl, HA, HJ23, ⟨mc23, rfl⟩⟩ := hcut
          cases kq with
          | zero => exact absurd HA.out (by simp [pledgeref1_Cmp.j3])
          | succ kj23 =>
           have H := HA.out; clear HA; simp only [pledgeref1_Cmp.j3] at H; by_cases c26 : x82_23 = true
           ·
            subst c26; have H1 : (if x13_10 = true then (some (-1)) else (some 1)) = some r := by rw [if_pos rfl] at H; exact H
            clear H; have H := H1; clear H1; by_cases c27 : x13_10 = true
            ·
             subst c27; have H1 : (some (-1)) = some r := by rw [if_pos rfl] at H; exact H
             clear H; have H := H1; clear H1; obtain rfl := Option.some.inj H
             go_wp2
             go_ret
             exact ⟨zF, zD⟩
            ·
             replace c27 := Bool.eq_false_iff.mpr c27; subst c27; have H1 : (some 1) = some r := by rw [if_neg (show ¬ (false = true) by decide)] at H; exact H
             clear H; have H := H1; clear H1; obtain rfl := Option.some.inj H
             go_wp2
             go_ret
             exact ⟨zF, zD⟩
           ·
            replace c26 := Bool.eq_false_iff.mpr c26; subst c26; have H1 : (if x13_10 = true then (some (wrap64 (-0))) else (some 0)) = some r := by rw [if_neg (show ¬ (false = true) by decide)] at H; exact H
            clear H; have H := H1; clear H1; by_cases c28 : x13_10 = true
            ·
             subst c28; have H1 : (some (wrap64 (-0))) = some r := by rw [if_pos rfl] at H; exact H
             clear H; have H := H1; clear H1; obtain rfl := Option.some.inj H
             go_wp2
             go_ret
             exact ⟨zF, zD⟩
            ·
             replace c28 := Bool.eq_false_iff.mpr c28; subst c28; have H1 : (some 0) = some r := by rw [if_neg (show ¬ (false = true) by decide)] at H; exact H
             clear H; have H := H1; clear H1; obtain rfl := Option.some.inj H
             go_wp2
             go_ret
             exact ⟨zF, zD⟩

/-! ### pledgeref18_dearer: function 49 -/
def pledgeref18_dearer.f (k : Nat) (a0_0 : Int) (a0_1 : Int) (a0_2 : Int) (a0_3 : Int) (a1_0 : Int) (a1_1 : Int) (a1_2 : Int) (a1_3 : Int) : Option (Bool) := if a0_1 = 0 then (some (a1_1 != 0)) else (if a1_1 = 0 then (some false) else ((pledgeref1_Cmp.f k a0_2 a1_1 a1_2 a0_1).bind fun t283 => (some (decide (t283 > 0)))))
theorem pledgeref18_dearer.mono : ∀ a0 a1 a2 a3 a4 a5 a6 a7 k, LeO (pledgeref18_dearer.f k a0 a1 a2 a3 a4 a5 a6 a7) (pledgeref18_dearer.f (k + 1) a0 a1 a2 a3 a4 a5 a6 a7) := by
 intro a0 a1 a2 a3 a4 a5 a6 a7 k; unfold pledgeref18_dearer.f
 repeat' first
   | (with_reducible exact pledgeref1_Cmp.mono _ _ _ _ _)
   | (with_reducible exact LeO.refl _)
   | (with_reducible exact LeO.none _)
   | (with_reducible refine LeO.ite ?_ ?_)
   | (with_reducible refine LeO.bind ?_ (fun _ => ?_))
   | exact pledgeref1_Cmp.mono _ _ _ _ _
   | exact LeO.none _
   | refine LeO.ite ?_ ?_
   | refine LeO.bind ?_ (fun _ => ?_)
set_option maxHeartbeats 8000000 in
set_option maxRecDepth 100000 in
theorem pledgeref18_dearer.calls [Inhabited (Int → Addr)] (k : Nat) (a0_0 : Int) (a0_1 : Int) (a0_2 : Int) (a0_3 : Int) (a1_0 : Int) (a1_1 : Int) (a1_2 : Int) (a1_3 : Int) (r : Bool) (w : World) (h : pledgeref18_dearer.f k a0_0 a0_1 a0_2 a0_3 a1_0 a1_1 a1_2 a1_3 = some r) :
  Calls Tryd.prog 49 #[.agg #[.int .i64 a0_0, .int .i64 a0_1, .int .i64 a0_2, .int .i64 a0_3], .agg #[.int .i64 a1_0, .int .i64 a1_1, .int .i64 a1_2, .int .i64 a1_3]] w fun e w' => e = .returned (.bool r) ∧ Below w.heap.size w w' := by
 have hu25 := Tryd.underlying25; have HB := Aside0.mk (Below.refl w.heap.size w); have H : (if a0_1 = 0 then (some (a1_1 != 0)) else (if a1_1 = 0 then (some false) else ((pledgeref1_Cmp.f k a0_2 a1_1 a1_2 a0_1).bind fun t283 => (some (decide (t283 > 0)))))) = some r := h; clear h; by_cases c3 : a0_1 = 0
 ·
  rw [if_pos c3] at H; have c3b0 : (a0_1 == 0) = true := beq_iff_eq.mpr c3; have c3b1 : (a0_1 != 0) = false := bne_eq_false_iff_eq.mpr c3; clear c3; obtain rfl := Option.some.inj H
  go_enter Tryd.func49, Tryd.ntmps49
  go_wp2_with (first | ((with_reducible refine gate_dst (N := 2) rfl ?_); refine box_event ?hg (N := 2) ?hd (cs := #[.int .i64 a0_0, .int .i64 a0_1, .int .i64 a0_2, .int .i64 a0_3]) (t := 25) ?hr ?_; (case hd => rfl); (case hg => rfl); (case hr => first | (go_simp; done) | (go_simp; rfl)); intro gb281 hg w4 hbox hb; have n0_ := Aside0.mk (below_step (zH HB.out) hb); have n1_ := Aside0.mk (hbox); have n2_ := Aside0.mk (zg hg (below_size (zH HB.out)) : w.heap.size ≤ gb281); have n3_ := Aside0.mk (zg hg (below_size (zH HB.out)) : w.heap.size ≤ gb281); clear HB; have HB := n0_; have BK281 := n1_; have GW281 := n2_; have GE281 := n3_; clear n0_ n1_ n2_ n3_; clear hb hbox hg) | ((with_reducible refine gate_dst (N := 3) rfl ?_); refine box_event ?hg (N := 3) ?hd (cs := #[.int .i64 a1_0, .int .i64 a1_1, .int .i64 a1_2, .int .i64 a1_3]) (t := 25) ?hr ?_; (case hd => rfl); (case hg => rfl); (case hr => first | (go_simp; done) | (go_simp; rfl)); intro gb282 hg w5 hbox hb; have n0_ := zBB BK281 hb; have n1_ := Aside0.mk (below_step (zH1 HB.out GE281.out) hb); have n2_ := Aside0.mk (hbox); have n3_ := Aside0.mk (zg hg (below_size (zH1 HB.out GE281.out)) : w.heap.size ≤ gb282); have n4_ := Aside0.mk (zg hg (below_size (zH1 HB.out GE281.out)) : w.heap.size ≤ gb282); have n5_ := Aside0.mk (zN hg BK281 : gb281 ≠ gb282); have n6_ := Aside0.mk (zO hg BK281 : gb282 ≠ gb281); clear BK281; clear HB; have BK281 := n0_; have HB := n1_; have BK282 := n2_; have GW282 := n3_; have GE282 := n4_; have NB281_282 := n5_; have NB282_281 := n6_; clear n0_ n1_ n2_ n3_ n4_ n5_ n6_; clear hb hbox hg; have hnb6 := NB281_282.out; have hnc6 := NB282_281.out; have hcz7_0 : w5.cell? ⟨gb281, 0, none⟩ = some (.int .i64 a0_0) := (blk_cell BK281.out 0).trans rfl; have hcz7_1 : w5.cell? ⟨gb281, 1, none⟩ = some (.int .i64 a0_1) := (blk_cell BK281.out 1).trans rfl; have hcz7_2 : w5.cell? ⟨gb281, 2, none⟩ = some (.int .i64 a0_2) := (blk_cell BK281.out 2).trans rfl; have hcz7_3 : w5.cell? ⟨gb281, 3, none⟩ = some (.int .i64 a0_3) := (blk_cell BK281.out 3).trans rfl; have hfz7_0 := blk_frozen BK281.out 0; have hfz7_1 := blk_frozen BK281.out 1; have hfz7_2 := blk_frozen BK281.out 2; have hfz7_3 := blk_frozen BK281.out 3; have hcz8_0 : w5.cell? ⟨gb282, 0, none⟩ = some (.int .i64 a1_0) := (blk_cell BK282.out 0).trans rfl; have hcz8_1 : w5.cell? ⟨gb282, 1, none⟩ = some (.int .i64 a1_1) := (blk_cell BK282.out 1).trans rfl; have hcz8_2 : w5.cell? ⟨gb282, 2, none⟩ = some (.int .i64 a1_2) := (blk_cell BK282.out 2).trans rfl; have hcz8_3 : w5.cell? ⟨gb282, 3, none⟩ = some (.int .i64 a1_3) := (blk_cell BK282.out 3).trans rfl; have hfz8_0 := blk_frozen BK282.out 0; have hfz8_1 := blk_frozen BK282.out 1; have hfz8_2 := blk_frozen BK282.out 2; have hfz8_3 := blk_frozen BK282.out 3))
  go_ret
  exact ⟨zE, zH2 HB.out GE281.out GE282.out⟩
 ·
  rw [if_neg c3] at H; have c3b0 : (a0_1 == 0) = false := beq_eq_false_iff_ne.mpr c3; have c3b1 : (a0_1 != 0) = true := bne_iff_ne.mpr c3; by_cases c9 : a1_1 = 0
  ·
   rw [if_pos c9] at H; have c9b0 : (a1_1 == 0) = true := beq_iff_eq.mpr c9; have c9b1 : (a1_1 != 0) = false := bne_eq_false_iff_eq.mpr c9; clear c9; obtain rfl := Option.some.inj H
   go_enter Tryd.func49, Tryd.ntmps49
   go_wp2_with (first | ((with_reducible refine gate_dst (N := 2) rfl ?_); refine box_event ?hg (N := 2) ?hd (cs := #[.int .i64 a0_0, .int .i64 a0_1, .int .i64 a0_2, .int .i64 a0_3]) (t := 25) ?hr ?_; (case hd => rfl); (case hg => rfl); (case hr => first | (go_simp; done) | (go_simp; rfl)); intro gb281 hg w10 hbox hb; have n0_ := Aside0.mk (below_step (zH HB.out) hb); have n1_ := Aside0.mk (hbox); have n2_ := Aside0.mk (zg hg (below_size (zH HB.out)) : w.heap.size ≤ gb281); have n3_ := Aside0.mk (zg hg (below_size (zH HB.out)) : w.heap.size ≤ gb281); clear HB; have HB := n0_; have BK281 := n1_; have GW281 := n2_; have GE281 := n3_; clear n0_ n1_ n2_ n3_; clear hb hbox hg) | ((with_reducible refine gate_dst (N := 3) rfl ?_); refine box_event ?hg (N := 3) ?hd (cs := #[.int .i64 a1_0, .int .i64 a1_1, .int .i64 a1_2, .int .i64 a1_3]) (t := 25) ?hr ?_; (case hd => rfl); (case hg => rfl); (case hr => first | (go_simp; done) | (go_simp; rfl)); intro gb282 hg w11 hbox hb; have n0_ := zBB BK281 hb; have n1_ := Aside0.mk (below_step (zH1 HB.out GE281.out) hb); have n2_ := Aside0.mk (hbox); have n3_ := Aside0.mk (zg hg (below_size (zH1 HB.out GE281.out)) : w.heap.size ≤ gb282); have n4_ := Aside0.mk (zg hg (below_size (zH1 HB.out GE281.out)) : w.heap.size ≤ gb282); have n5_ := Aside0.mk (zN hg BK281 : gb281 ≠ gb282); have n6_ := Aside0.mk (zO hg BK281 : gb282 ≠ gb281); clear BK281; clear HB; have BK281 := n0_; have HB := n1_; have BK282 := n2_; have GW282 := n3_; have GE282 := n4_; have NB281_282 := n5_; have NB282_281 := n6_; clear n0_ n1_ n2_ n3_ n4_ n5_ n6_; clear hb hbox hg; have hnb12 := NB281_282.out; have hnc12 := NB282_281.out; have hcz13_0 : w11.cell? ⟨gb281, 0, none⟩ = some (.int .i64 a0_0) := (blk_cell BK281.out 0).trans rfl; have hcz13_1 : w11.cell? ⟨gb281, 1, none⟩ = some (.int .i64 a0_1) := (blk_cell BK281.out 1).trans rfl; have hcz13_2 : w11.cell? ⟨gb281, 2, none⟩ = some (.int .i64 a0_2) := (blk_cell BK281.out 2).trans rfl; have hcz13_3 : w11.cell? ⟨gb281, 3, none⟩ = some (.int .i64 a0_3) := (blk_cell BK281.out 3).trans rfl; have hfz13_0 := blk_frozen BK281.out 0; have hfz13_1 := blk_frozen BK281.out 1; have hfz13_2 := blk_frozen BK281.out 2; have hfz13_3 := blk_frozen BK281.out 3; have hcz14_0 : w11.cell? ⟨gb282, 0, none⟩ = some (.int .i64 a1_0) := (blk_cell BK282.out 0).trans rfl; have hcz14_1 : w11.cell? ⟨gb282, 1, none⟩ = some (.int .i64 a1_1) := (blk_cell BK282.out 1).trans rfl; have hcz14_2 : w11.cell? ⟨gb282, 2, none⟩ = some (.int .i64 a1_2) := (blk_cell BK282.out 2).trans rfl; have hcz14_3 : w11.cell? ⟨gb282, 3, none⟩ = some (.int .i64 a1_3) := (blk_cell BK282.out 3).trans rfl; have hfz14_0 := blk_frozen BK282.out 0; have hfz14_1 := blk_frozen BK282.out 1; have hfz14_2 := blk_frozen BK282.out 2; have hfz14_3 := blk_frozen BK282.out 3))
   go_ret
   exact ⟨zE, zH2 HB.out GE281.out GE282.out⟩
  ·
   rw [if_neg c9] at H; have c9b0 : (a1_1 == 0) = false := beq_eq_false_iff_ne.mpr c9; have c9b1 : (a1_1 != 0) = true := bne_iff_ne.mpr c9; replace H := Option.bind_eq_some_iff.mp H; obtain ⟨t283, A150, H⟩ := H; replace H : (some (decide (t283 > 0))) = some r := H; have A15 := Aside0.mk A150; clear A150; obtain rfl := Option.some.inj H
   go_enter Tryd.func49, Tryd.ntmps49
   go_wp2_with (first | ((with_reducible refine gate_dst (N := 2) rfl ?_); refine box_event ?hg (N := 2) ?hd (cs := #[.int .i64 a0_0, .int .i64 a0_1, .int .i64 a0_2, .int .i64 a0_3]) (t := 25) ?hr ?_; (case hd => rfl); (case hg => rfl); (case hr => first | (go_simp; done) | (go_simp; rfl)); intro gb281 hg w16 hbox hb; have n0_ := Aside0.mk (below_step (zH HB.out) hb); have n1_ := Aside0.mk (hbox); have n2_ := Aside0.mk (zg hg (below_size (zH HB.out)) : w.heap.size ≤ gb281); have n3_ := Aside0.mk (zg hg (below_size (zH HB.out)) : w.heap.size ≤ gb281); clear HB; have HB := n0_; have BK281 := n1_; have GW281 := n2_; have GE281 := n3_; clear n0_ n1_ n2_ n3_; clear hb hbox hg) | ((with_reducible refine gate_dst (N := 3) rfl ?_); refine box_event ?hg (N := 3) ?hd (cs := #[.int .i64 a1_0, .int .i64 a1_1, .int .i64 a1_2, .int .i64 a1_3]) (t := 25) ?hr ?_; (case hd => rfl); (case hg => rfl); (case hr => first | (go_simp; done) | (go_simp; rfl)); intro gb282 hg w17 hbox hb; have n0_ := zBB BK281 hb; have n1_ := Aside0.mk (below_step (zH1 HB.out GE281.out) hb); have n2_ := Aside0.mk (hbox); have n3_ := Aside0.mk (zg hg (below_size (zH1 HB.out GE281.out)) : w.heap.size ≤ gb282); have n4_ := Aside0.mk (zg hg (below_size (zH1 HB.out GE281.out)) : w.heap.size ≤ gb282); have n5_ := Aside0.mk (zN hg BK281 : gb281 ≠ gb282); have n6_ := Aside0.mk (zO hg BK281 : gb282 ≠ gb281); clear BK281; clear HB; have BK281 := n0_; have HB := n1_; have BK282 := n2_; have GW282 := n3_; have GE282 := n4_; have NB281_282 := n5_; have NB282_281 := n6_; clear n0_ n1_ n2_ n3_ n4_ n5_ n6_; clear hb hbox hg; have hnb18 := NB281_282.out; have hnc18 := NB282_281.out; have hcz19_0 : w17.cell? ⟨gb281, 0, none⟩ = some (.int .i64 a0_0) := (blk_cell BK281.out 0).trans rfl; have hcz19_1 : w17.cell? ⟨gb281, 1, none⟩ = some (.int .i64 a0_1) := (blk_cell BK281.out 1).trans rfl; have hcz19_2 : w17.cell? ⟨gb281, 2, none⟩ = some (.int .i64 a0_2) := (blk_cell BK281.out 2).trans rfl; have hcz19_3 : w17.cell? ⟨gb281, 3, none⟩ = some (.int .i64 a0_3) := (blk_cell BK281.out 3).trans rfl; have hfz19_0 := blk_frozen BK281.out 0; have hfz19_1 := blk_frozen BK281.out 1; have hfz19_2 := blk_frozen BK281.out 2; have hfz19_3 := blk_frozen BK281.out 3; have hcz20_0 : w17.cell? ⟨gb282, 0, none⟩ = some (.int .i64 a1_0) := (blk_cell BK282.out 0).trans rfl; have hcz20_1 : w17.cell? ⟨gb282, 1, none⟩ = some (.int .i64 a1_1) := (blk_cell BK282.out 1).trans rfl; have hcz20_2 : w17.cell? ⟨gb282, 2, none⟩ = some (.int .i64 a1_2) := (blk_cell BK282.out 2).trans rfl; have hcz20_3 : w17.cell? ⟨gb282, 3, none⟩ = some (.int .i64 a1_3) := (blk_cell BK282.out 3).trans rfl; have hfz20_0 := blk_frozen BK282.out 0; have hfz20_1 := blk_frozen BK282.out 1; have hfz20_2 := blk_frozen BK282.out 2; have hfz20_3 := blk_frozen BK282.out 3) | ((with_reducible refine gate_callee (f := 55) rfl ?_); refine goesL_ (some 29) rfl rfl Tryd.func55 (by kernel_rfl) rfl #[.int .i64 a0_2, .int .i64 a1_1, .int .i64 a1_2, .int .i64 a0_1] rfl zM ?_; (with_reducible refine (pledgeref1_Cmp.calls k a0_2 a1_1 a1_2 a0_1 t283 _ A15.out).mono ?_); rintro e w' ⟨rfl, ⟨nd, rfl⟩⟩; refine ⟨_, rfl, ?_⟩))
   go_ret
   exact ⟨zE, zH2 HB.out GE281.out GE282.out⟩

end Go.Proofs.YtlalofmilhakjaaDoor.ELotsSay
