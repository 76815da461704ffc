/- The functions that the law comes to, as plain functions, and for each a proof that the Go code comes to just these answers. Written by a program of this claim. Conditions: each theorem bears its own. -/
import Derived.Test.YtlalofmilhakjaaDoorELotsSayx0
namespace Go.Proofs.YtlalofmilhakjaaDoor.ELotsSay
open Go.RowKit Go.Proofs.YtlalofmilhakjaaDoorW.PrintWords Go.Proofs.YtlalofmilhakjaaDoorW.PrintLast Go.Proofs.YtlalofmilhakjaaDoorW.PrintMore Go.Proofs.YtlalofmilhakjaaDoorW.PrintOpen
attribute [local go_sem] max2_int min2_int max_two min_two max_three min_three max_four min_four   -- for this text's walks alone
set_option linter.unusedVariables false
set_option linter.unusedSimpArgs false

/-! ### pledgeref18_Valid: function 19 -/
mutual
def pledgeref18_Valid.j0 : Nat → Bool → List (S25) → List Int → Int → Option (Int)
 | 0, _, _, _, _ => none
 | k + 1, x28, x205000, x205001, x205002 => if x28 = true then (some 105) else (if x205002 ≥ 0 then (pledgeref18_Valid.j1 k (decide (x205002 ≤ 1000000000000)) x205000 x205001 x205002) else (pledgeref18_Valid.j1 k false x205000 x205001 x205002))
def pledgeref18_Valid.j1 : Nat → Bool → List (S25) → List Int → Int → Option (Int)
 | 0, _, _, _, _ => none
 | k + 1, x3, x205000, x205001, x205002 => pledgeref18_Valid.l0 k x3 0 x205000 x205001 x205002
def pledgeref18_Valid.l0 : Nat → Bool → Int → List (S25) → List Int → Int → Option (Int)
 | 0, _, _, _, _, _ => none
 | k + 1, x3, x4, x205000, x205001, x205002 => if x4 < (x205001.length : Int) then (if x3 = true then (if 0 ≤ x4 then (if (rd x205001 x4) ≥ 0 then (pledgeref18_Valid.l0 k (decide ((rd x205001 x4) ≤ 1000000000000)) (wrap64 (x4 + 1)) x205000 x205001 x205002) else (pledgeref18_Valid.l0 k false (wrap64 (x4 + 1)) x205000 x205001 x205002)) else (none)) else (pledgeref18_Valid.l0 k false (wrap64 (x4 + 1)) x205000 x205001 x205002)) else (pledgeref18_Valid.l1 k x3 0 x205000 x205001 x205002)
def pledgeref18_Valid.l1 : Nat → Bool → Int → List (S25) → List Int → Int → Option (Int)
 | 0, _, _, _, _, _ => none
 | k + 1, x3, x5, x205000, x205001, x205002 => if x5 < (x205000.length : Int) then (if 0 ≤ x5 then (if x3 = true then (if ((rd_T25 x205000 x5).f0) ≥ 0 then (if ((rd_T25 x205000 x5).f0) ≤ 1000 then (if ((rd_T25 x205000 x5).f1) ≥ 0 then (if ((rd_T25 x205000 x5).f1) ≤ 1000000000 then (if ((rd_T25 x205000 x5).f2) ≥ 0 then (if ((rd_T25 x205000 x5).f2) ≤ 1000000000 then (if ((rd_T25 x205000 x5).f3) ≥ 0 then (pledgeref18_Valid.l1 k (decide (((rd_T25 x205000 x5).f3) < (x205001.length : Int))) (wrap64 (x5 + 1)) x205000 x205001 x205002) else (pledgeref18_Valid.l1 k false (wrap64 (x5 + 1)) x205000 x205001 x205002)) else (pledgeref18_Valid.l1 k false (wrap64 (x5 + 1)) x205000 x205001 x205002)) else (pledgeref18_Valid.l1 k false (wrap64 (x5 + 1)) x205000 x205001 x205002)) else (pledgeref18_Valid.l1 k false (wrap64 (x5 + 1)) x205000 x205001 x205002)) else (pledgeref18_Valid.l1 k false (wrap64 (x5 + 1)) x205000 x205001 x205002)) else (pledgeref18_Valid.l1 k false (wrap64 (x5 + 1)) x205000 x205001 x205002)) else (pledgeref18_Valid.l1 k false (wrap64 (x5 + 1)) x205000 x205001 x205002)) else (pledgeref18_Valid.l1 k false (wrap64 (x5 + 1)) x205000 x205001 x205002)) else (none)) else (if x3 = true then (some 0) else (some 103))
end
def pledgeref18_Valid.f (k : Nat) (l0_0 : List (S25)) (l0_1 : List Int) (a0_2 : Int) : Option (Int) := if (l0_0.length : Int) < 1 then (pledgeref18_Valid.j0 k true l0_0 l0_1 a0_2) else (if (l0_0.length : Int) > 8 then (pledgeref18_Valid.j0 k true l0_0 l0_1 a0_2) else (if (l0_1.length : Int) < 1 then (pledgeref18_Valid.j0 k true l0_0 l0_1 a0_2) else (pledgeref18_Valid.j0 k (decide ((l0_1.length : Int) > 8)) l0_0 l0_1 a0_2)))
theorem pledgeref18_Valid.mono_l : ∀ k, (∀ y0 y1 y2 y3, LeO (pledgeref18_Valid.j0 k y0 y1 y2 y3) (pledgeref18_Valid.j0 (k + 1) y0 y1 y2 y3)) ∧ (∀ y0 y1 y2 y3, LeO (pledgeref18_Valid.j1 k y0 y1 y2 y3) (pledgeref18_Valid.j1 (k + 1) y0 y1 y2 y3)) ∧ (∀ y0 y1 y2 y3 y4, LeO (pledgeref18_Valid.l0 k y0 y1 y2 y3 y4) (pledgeref18_Valid.l0 (k + 1) y0 y1 y2 y3 y4)) ∧ (∀ y0 y1 y2 y3 y4, LeO (pledgeref18_Valid.l1 k y0 y1 y2 y3 y4) (pledgeref18_Valid.l1 (k + 1) y0 y1 y2 y3 y4))
 | 0 => ⟨fun _ _ _ _ r h => by simp [pledgeref18_Valid.j0] at h, fun _ _ _ _ r h => by simp [pledgeref18_Valid.j1] at h, fun _ _ _ _ _ r h => by simp [pledgeref18_Valid.l0] at h, fun _ _ _ _ _ r h => by simp [pledgeref18_Valid.l1] at h⟩
 | k + 1 => by
  obtain ⟨ih0, ih1, ih2, ih3⟩ := pledgeref18_Valid.mono_l k; refine ⟨?_, ?_, ?_, ?_⟩
  ·
   intro y0 y1 y2 y3; unfold pledgeref18_Valid.j0
   repeat' first
   | (with_reducible exact ih0 _ _ _ _)
   | (with_reducible exact ih1 _ _ _ _)
   | (with_reducible exact ih2 _ _ _ _ _)
   | (with_reducible exact ih3 _ _ _ _ _)
   | (with_reducible exact LeO.refl _)
   | (with_reducible exact LeO.none _)
   | (with_reducible refine LeO.ite ?_ ?_)
   | (with_reducible refine LeO.bind ?_ (fun _ => ?_))
   | exact ih0 _ _ _ _
   | exact ih1 _ _ _ _
   | exact ih2 _ _ _ _ _
   | exact ih3 _ _ _ _ _
   | exact LeO.none _
   | refine LeO.ite ?_ ?_
   | refine LeO.bind ?_ (fun _ => ?_)
  ·
   intro y0 y1 y2 y3; unfold pledgeref18_Valid.j1
   repeat' first
   | (with_reducible exact ih0 _ _ _ _)
   | (with_reducible exact ih1 _ _ _ _)
   | (with_reducible exact ih2 _ _ _ _ _)
   | (with_reducible exact ih3 _ _ _ _ _)
   | (with_reducible exact LeO.refl _)
   | (with_reducible exact LeO.none _)
   | (with_reducible refine LeO.ite ?_ ?_)
   | (with_reducible refine LeO.bind ?_ (fun _ => ?_))
   | exact ih0 _ _ _ _
   | exact ih1 _ _ _ _
   | exact ih2 _ _ _ _ _
   | exact ih3 _ _ _ _ _
   | exact LeO.none _
   | refine LeO.ite ?_ ?_
   | refine LeO.bind ?_ (fun _ => ?_)
  ·
   intro y0 y1 y2 y3 y4; unfold pledgeref18_Valid.l0
   repeat' first
   | (with_reducible exact ih0 _ _ _ _)
   | (with_reducible exact ih1 _ _ _ _)
   | (with_reducible exact ih2 _ _ _ _ _)
   | (with_reducible exact ih3 _ _ _ _ _)
   | (with_reducible exact LeO.refl _)
   | (with_reducible exact LeO.none _)
   | (with_reducible refine LeO.ite ?_ ?_)
   | (with_reducible refine LeO.bind ?_ (fun _ => ?_))
   | exact ih0 _ _ _ _
   | exact ih1 _ _ _ _
   | exact ih2 _ _ _ _ _
   | exact ih3 _ _ _ _ _
   | exact LeO.none _
   | refine LeO.ite ?_ ?_
   | refine LeO.bind ?_ (fun _ => ?_)
  ·
   intro y0 y1 y2 y3 y4; unfold pledgeref18_Valid.l1
   repeat' first
   | (with_reducible exact ih0 _ _ _ _)
   | (with_reducible exact ih1 _ _ _ _)
   | (with_reducible exact ih2 _ _ _ _ _)
   | (with_reducible exact ih3 _ _ _ _ _)
   | (with_reducible exact LeO.refl _)
   | (with_reducible exact LeO.none _)
   | (with_reducible refine LeO.ite ?_ ?_)
   | (with_reducible refine LeO.bind ?_ (fun _ => ?_))
   | exact ih0 _ _ _ _
   | exact ih1 _ _ _ _
   | exact ih2 _ _ _ _ _
   | exact ih3 _ _ _ _ _
   | exact LeO.none _
   | refine LeO.ite ?_ ?_
   | refine LeO.bind ?_ (fun _ => ?_)
theorem pledgeref18_Valid.mono : ∀ a0 a1 a2 k, LeO (pledgeref18_Valid.f k a0 a1 a2) (pledgeref18_Valid.f (k + 1) a0 a1 a2) := by
 intro a0 a1 a2 k; obtain ⟨ih0, ih1, ih2, ih3⟩ := pledgeref18_Valid.mono_l k; unfold pledgeref18_Valid.f
 repeat' first
   | (with_reducible exact ih0 _ _ _ _)
   | (with_reducible exact ih1 _ _ _ _)
   | (with_reducible exact ih2 _ _ _ _ _)
   | (with_reducible exact ih3 _ _ _ _ _)
   | (with_reducible exact LeO.refl _)
   | (with_reducible exact LeO.none _)
   | (with_reducible refine LeO.ite ?_ ?_)
   | (with_reducible refine LeO.bind ?_ (fun _ => ?_))
   | exact ih0 _ _ _ _
   | exact ih1 _ _ _ _
   | exact ih2 _ _ _ _ _
   | exact ih3 _ _ _ _ _
   | exact LeO.none _
   | refine LeO.ite ?_ ?_
   | refine LeO.bind ?_ (fun _ => ?_)
set_option maxHeartbeats 8000000 in
set_option maxRecDepth 100000 in
theorem pledgeref18_Valid.calls [Inhabited (Int → Addr)] (k : Nat) (A0_0 : Option Addr) (c0_0 : Nat) (l0_0 : List (S25)) (A0_1 : Option Addr) (c0_1 : Nat) (l0_1 : List Int) (a0_2 : Int) (r : Int) (w : World) (hr0_0 : Kd.C k25 w A0_0 l0_0.length l0_0) (hc0_0 : l0_0.length ≤ c0_0) (hr0_1 : Kd.C (Kd.int .i64) w A0_1 l0_1.length l0_1) (hc0_1 : l0_1.length ≤ c0_1) (h : pledgeref18_Valid.f k l0_0 l0_1 a0_2 = some r) :
  Calls Tryd.prog 19 #[.agg #[.slice A0_0 l0_0.length c0_0, .slice A0_1 l0_1.length c0_1, .int .i64 a0_2]] w fun e w' => e = .returned (.int .i64 r) ∧ Below w.heap.size w w' := by
 have hu45 := Tryd.underlying45; have hu25 := Tryd.underlying25; have HR0_0 := Aside0.mk hr0_0; have HC0_0 := Aside0.mk hc0_0; clear hr0_0 hc0_0; have HR0_1 := Aside0.mk hr0_1; have HC0_1 := Aside0.mk hc0_1; clear hr0_1 hc0_1; have HB := Aside0.mk (Below.refl w.heap.size w); have H : (if (l0_0.length : Int) < 1 then (pledgeref18_Valid.j0 k true l0_0 l0_1 a0_2) else (if (l0_0.length : Int) > 8 then (pledgeref18_Valid.j0 k true l0_0 l0_1 a0_2) else (if (l0_1.length : Int) < 1 then (pledgeref18_Valid.j0 k true l0_0 l0_1 a0_2) else (pledgeref18_Valid.j0 k (decide ((l0_1.length : Int) > 8)) l0_0 l0_1 a0_2)))) = some r := h; clear h; have HC2 := Aside0.mk H; clear H
 go_enter Tryd.func19, Tryd.ntmps19
 go_upto_region 1 with (first | ((with_reducible refine gate_dst (N := 1) rfl ?_); (try (refine gate_guard (by rfl) ?_; dsimp only)); refine box_event ?hg (N := 1) ?hd (cs := #[.slice A0_0 l0_0.length c0_0, .slice A0_1 l0_1.length c0_1, .int .i64 a0_2]) (t := 45) ?hr ?_; (case hd => rfl); (case hg => rfl); (case hr => first | (go_simp; done) | (go_simp; rfl)); intro gb204 hg w3 hbox hb; have n0_ := Aside0.mk (below_step (zH HB.out) hb); have n1_ := Aside0.mk (hbox); have n2_ := Aside0.mk (zg hg (below_size (zH HB.out)) : w.heap.size ≤ gb204); have n3_ := Aside0.mk (zg hg (below_size (zH HB.out)) : w.heap.size ≤ gb204); clear HB; have HB := n0_; have BK204 := n1_; have GW204 := n2_; have GE204 := n3_; clear n0_ n1_ n2_ n3_; clear hb hbox hg))
 (try simp only [Act.put, zq1, zq2, zq3])
 go_cut [28] (fun v28 wc => ∃ (kq : Nat) (x28_1 : Bool), v28 = .bool x28_1 ∧ Aside0 (pledgeref18_Valid.j0 kq x28_1 l0_0 l0_1 a0_2 = some r) ∧ Aside0 (kq ≤ k) ∧ Aside0 (wc.heap[gb204]? = some (.cells #[(.slice A0_0 l0_0.length c0_0), (.slice A0_1 l0_1.length c0_1), .int .i64 a0_2] 45 (0, 0))) ∧ Aside0 (Below w.heap.size w wc))
 case first =>
  have H := HC2.out; clear HC2; by_cases c4 : (l0_0.length : Int) < 1
  ·
   rw [if_pos c4] at H; have c4b0 : decide ((l0_0.length : Int) < 1) = true := decide_eq_true c4; have c4b1 : decide (l0_0.length < 1) = true := decide_eq_true (by omega); clear c4
   (first | rw [c4b0] | (simp only [i64_w, i32_w]; rw [c4b0]) | skip)
   have H' := Aside0.mk H; clear H; have hcz5_0 : w3.cell? ⟨gb204, 0, none⟩ = some (.slice A0_0 l0_0.length c0_0) := (blk_cell BK204.out 0).trans rfl; have hcz5_1 : w3.cell? ⟨gb204, 1, none⟩ = some (.slice A0_1 l0_1.length c0_1) := (blk_cell BK204.out 1).trans rfl; have hcz5_2 : w3.cell? ⟨gb204, 2, none⟩ = some (.int .i64 a0_2) := (blk_cell BK204.out 2).trans rfl; have hfz5_0 := blk_frozen BK204.out 0; have hfz5_1 := blk_frozen BK204.out 1; have hfz5_2 := blk_frozen BK204.out 2
   go_wp2
   go_meet
   case rel => exact ⟨_, (true), zS, H', ⟨by first | omega | exact Nat.le_refl _⟩, ⟨zB BK204.out⟩, ⟨zH1 HB.out GE204.out⟩⟩
  ·
   rw [if_neg c4] at H; have c4b0 : decide ((l0_0.length : Int) < 1) = false := decide_eq_false c4; have c4b1 : decide (l0_0.length < 1) = false := decide_eq_false (by omega); clear c4
   (first | rw [c4b0] | (simp only [i64_w, i32_w]; rw [c4b0]) | skip)
   by_cases c6 : (l0_0.length : Int) > 8
   ·
    rw [if_pos c6] at H; have c6b0 : decide (8 < (l0_0.length : Int)) = true := decide_eq_true c6; have c6b1 : decide (8 < l0_0.length) = true := decide_eq_true (by omega); clear c6; have H' := Aside0.mk H; clear H; have hcz7_0 : w3.cell? ⟨gb204, 0, none⟩ = some (.slice A0_0 l0_0.length c0_0) := (blk_cell BK204.out 0).trans rfl; have hcz7_1 : w3.cell? ⟨gb204, 1, none⟩ = some (.slice A0_1 l0_1.length c0_1) := (blk_cell BK204.out 1).trans rfl; have hcz7_2 : w3.cell? ⟨gb204, 2, none⟩ = some (.int .i64 a0_2) := (blk_cell BK204.out 2).trans rfl; have hfz7_0 := blk_frozen BK204.out 0; have hfz7_1 := blk_frozen BK204.out 1; have hfz7_2 := blk_frozen BK204.out 2
    go_wp2
    go_meet
    case rel => exact ⟨_, (true), zS, H', ⟨by first | omega | exact Nat.le_refl _⟩, ⟨zB BK204.out⟩, ⟨zH1 HB.out GE204.out⟩⟩
   ·
    rw [if_neg c6] at H; have c6b0 : decide (8 < (l0_0.length : Int)) = false := decide_eq_false c6; have c6b1 : decide (8 < l0_0.length) = false := decide_eq_false (by omega); clear c6; by_cases c8 : (l0_1.length : Int) < 1
    ·
     rw [if_pos c8] at H; have c8b0 : decide ((l0_1.length : Int) < 1) = true := decide_eq_true c8; have c8b1 : decide (l0_1.length < 1) = true := decide_eq_true (by omega); clear c8; have H' := Aside0.mk H; clear H; have hcz9_0 : w3.cell? ⟨gb204, 0, none⟩ = some (.slice A0_0 l0_0.length c0_0) := (blk_cell BK204.out 0).trans rfl; have hcz9_1 : w3.cell? ⟨gb204, 1, none⟩ = some (.slice A0_1 l0_1.length c0_1) := (blk_cell BK204.out 1).trans rfl; have hcz9_2 : w3.cell? ⟨gb204, 2, none⟩ = some (.int .i64 a0_2) := (blk_cell BK204.out 2).trans rfl; have hfz9_0 := blk_frozen BK204.out 0; have hfz9_1 := blk_frozen BK204.out 1; have hfz9_2 := blk_frozen BK204.out 2
     go_wp2
     go_meet
     case rel => exact ⟨_, (true), zS, H', ⟨by first | omega | exact Nat.le_refl _⟩, ⟨zB BK204.out⟩, ⟨zH1 HB.out GE204.out⟩⟩
    ·
     rw [if_neg c8] at H; have c8b0 : decide ((l0_1.length : Int) < 1) = false := decide_eq_false c8; have c8b1 : decide (l0_1.length < 1) = false := decide_eq_false (by omega); clear c8; have H' := Aside0.mk H; clear H; have hcz10_0 : w3.cell? ⟨gb204, 0, none⟩ = some (.slice A0_0 l0_0.length c0_0) := (blk_cell BK204.out 0).trans rfl; have hcz10_1 : w3.cell? ⟨gb204, 1, none⟩ = some (.slice A0_1 l0_1.length c0_1) := (blk_cell BK204.out 1).trans rfl; have hcz10_2 : w3.cell? ⟨gb204, 2, none⟩ = some (.int .i64 a0_2) := (blk_cell BK204.out 2).trans rfl; have hfz10_0 := blk_frozen BK204.out 0; have hfz10_1 := blk_frozen BK204.out 1; have hfz10_2 := blk_frozen BK204.out 2
     go_wp2
     go_meet
     case rel => exact ⟨_, (decide ((l0_1.length : Int) > 8)), zS, H', ⟨by first | omega | exact Nat.le_refl _⟩, ⟨zB BK204.out⟩, ⟨zH1 HB.out GE204.out⟩⟩
 case rest =>
  clear HC2
  try clear c1
  try clear p2
  try clear c4
  try clear c4b0
  try clear c4b1
  try clear c6
  try clear c6b0
  try clear c6b1
  try clear c8
  try clear c8b0
  try clear c8b1
  try clear hcz10_0
  try clear hcz10_1
  try clear hcz10_2
  try clear hcz5_0
  try clear hcz5_1
  try clear hcz5_2
  try clear hcz7_0
  try clear hcz7_1
  try clear hcz7_2
  try clear hcz9_0
  try clear hcz9_1
  try clear hcz9_2
  try clear hfz10_0
  try clear hfz10_1
  try clear hfz10_2
  try clear hfz5_0
  try clear hfz5_1
  try clear hfz5_2
  try clear hfz7_0
  try clear hfz7_1
  try clear hfz7_2
  try clear hfz9_0
  try clear hfz9_1
  try clear hfz9_2
  obtain ⟨kq, x28_1, rfl, HA, HJ1, BK204, HB⟩ := hcut
  cases kq with
  | zero => exact absurd HA.out (by simp [pledgeref18_Valid.j0])
  | succ kj1 =>
   have H := HA.out; clear HA; simp only [pledgeref18_Valid.j0] at H; by_cases c11 : x28_1 = true
   ·
    subst c11; have H1 : (some 105) = some r := by rw [if_pos rfl] at H; exact H
    clear H; have H := H1; clear H1; obtain rfl := Option.some.inj H
    go_wp2
    go_ret
    exact ⟨zE, zH1 HB.out GE204.out⟩
   ·
    replace c11 := Bool.eq_false_iff.mpr c11; subst c11; have H1 : (if a0_2 ≥ 0 then (pledgeref18_Valid.j1 kj1 (decide (a0_2 ≤ 1000000000000)) l0_0 l0_1 a0_2) else (pledgeref18_Valid.j1 kj1 false l0_0 l0_1 a0_2)) = some r := by rw [if_neg (show ¬ (false = true) by decide)] at H; exact H
    clear H; have H := H1; clear H1; have HC12 := Aside0.mk H; clear H
    go_upto_region 3 with (fail)
    go_cut [3] (fun v3 wc => ∃ (kq : Nat) (x3_11 : Bool), v3 = .bool x3_11 ∧ Aside0 (pledgeref18_Valid.j1 kq x3_11 l0_0 l0_1 a0_2 = some r) ∧ Aside0 (kq ≤ kj1) ∧ Aside0 (wc.heap[gb204]? = some (.cells #[(.slice A0_0 l0_0.length c0_0), (.slice A0_1 l0_1.length c0_1), .int .i64 a0_2] 45 (0, 0))) ∧ Aside0 (Below w.heap.size w wc))
    case first =>
     have H := HC12.out; clear HC12; by_cases c13 : a0_2 ≥ 0
     ·
      rw [if_pos c13] at H; have c13b0 : decide (0 ≤ a0_2) = true := decide_eq_true c13; clear c13
      (first | rw [c13b0] | (simp only [i64_w, i32_w]; rw [c13b0]) | skip)
      have H' := Aside0.mk H; clear H; have hcz14_0 : wc.cell? ⟨gb204, 0, none⟩ = some (.slice A0_0 l0_0.length c0_0) := (blk_cell BK204.out 0).trans rfl; have hcz14_1 : wc.cell? ⟨gb204, 1, none⟩ = some (.slice A0_1 l0_1.length c0_1) := (blk_cell BK204.out 1).trans rfl; have hcz14_2 : wc.cell? ⟨gb204, 2, none⟩ = some (.int .i64 a0_2) := (blk_cell BK204.out 2).trans rfl; have hfz14_0 := blk_frozen BK204.out 0; have hfz14_1 := blk_frozen BK204.out 1; have hfz14_2 := blk_frozen BK204.out 2
      go_wp2
      go_meet
      case rel => exact ⟨_, (decide (a0_2 ≤ 1000000000000)), zS, H', ⟨by have := HJ1.out; first | omega | exact Nat.le_refl _⟩, ⟨zB BK204.out⟩, ⟨zH1 HB.out GE204.out⟩⟩
     ·
      rw [if_neg c13] at H; have c13b0 : decide (0 ≤ a0_2) = false := decide_eq_false c13; clear c13
      (first | rw [c13b0] | (simp only [i64_w, i32_w]; rw [c13b0]) | skip)
      have H' := Aside0.mk H; clear H; have hcz15_0 : wc.cell? ⟨gb204, 0, none⟩ = some (.slice A0_0 l0_0.length c0_0) := (blk_cell BK204.out 0).trans rfl; have hcz15_1 : wc.cell? ⟨gb204, 1, none⟩ = some (.slice A0_1 l0_1.length c0_1) := (blk_cell BK204.out 1).trans rfl; have hcz15_2 : wc.cell? ⟨gb204, 2, none⟩ = some (.int .i64 a0_2) := (blk_cell BK204.out 2).trans rfl; have hfz15_0 := blk_frozen BK204.out 0; have hfz15_1 := blk_frozen BK204.out 1; have hfz15_2 := blk_frozen BK204.out 2
      go_wp2
      go_meet
      case rel => exact ⟨_, (false), zS, H', ⟨by have := HJ1.out; first | omega | exact Nat.le_refl _⟩, ⟨zB BK204.out⟩, ⟨zH1 HB.out GE204.out⟩⟩
    case rest =>
     clear HC12
     try clear c1
     try clear p2
     try clear c4
     try clear c4b0
     try clear c4b1
     try clear c6
     try clear c6b0
     try clear c6b1
     try clear c8
     try clear c8b0
     try clear c8b1
     try clear c11
     try clear c13
     try clear c13b0
     try clear hcz10_0
     try clear hcz10_1
     try clear hcz10_2
     try clear hcz14_0
     try clear hcz14_1
     try clear hcz14_2
     try clear hcz15_0
     try clear hcz15_1
     try clear hcz15_2
     try clear hcz5_0
     try clear hcz5_1
     try clear hcz5_2
     try clear hcz7_0
     try clear hcz7_1
     try clear hcz7_2
     try clear hcz9_0
     try clear hcz9_1
     try clear hcz9_2
     try clear hfz10_0
     try clear hfz10_1
     try clear hfz10_2
     try clear hfz14_0
     try clear hfz14_1
     try clear hfz14_2
     try clear hfz15_0
     try clear hfz15_1
     try clear hfz15_2
     try clear hfz5_0
     try clear hfz5_1
     try clear hfz5_2
     try clear hfz7_0
     try clear hfz7_1
     try clear hfz7_2
     try clear hfz9_0
     try clear hfz9_1
     try clear hfz9_2
     try clear p2
     obtain ⟨kq, x3_11, rfl, HA, HJ11, BK204, HB⟩ := hcut
     cases kq with
     | zero => exact absurd HA.out (by simp [pledgeref18_Valid.j1])
     | succ kj11 =>
      have H := HA.out; clear HA; simp only [pledgeref18_Valid.j1] at H; have H' := Aside0.mk H; clear H
      go_wp2
      go_loopg [3, 4] kj11 (fun kq v3 v4 w' => ∃ (x3_3 : Bool) (x4_3 : Int), v3 = .bool x3_3 ∧ v4 = .int .i64 x4_3 ∧ Aside0 (pledgeref18_Valid.l0 kq x3_3 x4_3 l0_0 l0_1 a0_2 = some r) ∧ Aside0 (kq ≤ kj11) ∧ Aside0 (w'.heap[gb204]? = some (.cells #[(.slice A0_0 l0_0.length c0_0), (.slice A0_1 l0_1.length c0_1), .int .i64 a0_2] 45 (0, 0))) ∧ Aside0 (Below w.heap.size w w'))
      case atStart => exact ⟨(x3_11), (0), zS, zS, H', ⟨Nat.le_refl _⟩, ⟨zB BK204.out⟩, ⟨zH1 HB.out GE204.out⟩⟩
      case round =>
       clear H'
       try clear c1
       try clear p2
       try clear c4
       try clear c4b0
       try clear c4b1
       try clear c6
       try clear c6b0
       try clear c6b1
       try clear c8
       try clear c8b0
       try clear c8b1
       try clear c11
       try clear c13
       try clear c13b0
       try clear hcz10_0
       try clear hcz10_1
       try clear hcz10_2
       try clear hcz14_0
       try clear hcz14_1
       try clear hcz14_2
       try clear hcz15_0
       try clear hcz15_1
       try clear hcz15_2
       try clear hcz5_0
       try clear hcz5_1
       try clear hcz5_2
       try clear hcz7_0
       try clear hcz7_1
       try clear hcz7_2
       try clear hcz9_0
       try clear hcz9_1
       try clear hcz9_2
       try clear hfz10_0
       try clear hfz10_1
       try clear hfz10_2
       try clear hfz14_0
       try clear hfz14_1
       try clear hfz14_2
       try clear hfz15_0
       try clear hfz15_1
       try clear hfz15_2
       try clear hfz5_0
       try clear hfz5_1
       try clear hfz5_2
       try clear hfz7_0
       try clear hfz7_1
       try clear hfz7_2
       try clear hfz9_0
       try clear hfz9_1
       try clear hfz9_2
       try clear p2
       obtain ⟨x3_3, x4_3, rfl, rfl, HA, HK3, BK204, HB⟩ := hrel
       cases gk with
       | zero => exact absurd HA.out (by simp [pledgeref18_Valid.l0])
       | succ k3 =>
        have H := HA.out; clear HA; simp only [pledgeref18_Valid.l0] at H; by_cases c16 : x4_3 < (l0_1.length : Int)
        ·
         rw [if_pos c16] at H; have c16b0 : decide (x4_3 < (l0_1.length : Int)) = true := decide_eq_true c16; clear c16; by_cases c17 : x3_3 = true
         ·
          subst c17; have H1 : (if 0 ≤ x4_3 then (if (rd l0_1 x4_3) ≥ 0 then (pledgeref18_Valid.l0 k3 (decide ((rd l0_1 x4_3) ≤ 1000000000000)) (wrap64 (x4_3 + 1)) l0_0 l0_1 a0_2) else (pledgeref18_Valid.l0 k3 false (wrap64 (x4_3 + 1)) l0_0 l0_1 a0_2)) else (none)) = some r := by rw [if_pos rfl] at H; exact H
          clear H; have H := H1; clear H1; by_cases c18 : 0 ≤ x4_3
          ·
           rw [if_pos c18] at H; have c18b0 : decide (0 ≤ x4_3) = true := decide_eq_true c18; clear c18; by_cases c19 : (rd l0_1 x4_3) ≥ 0
           ·
            rw [if_pos c19] at H; have c19b0 : decide (0 ≤ (rd l0_1 x4_3)) = true := decide_eq_true c19; clear c19; have H' := Aside0.mk H; clear H; have hcz20_0 : wr.cell? ⟨gb204, 0, none⟩ = some (.slice A0_0 l0_0.length c0_0) := (blk_cell BK204.out 0).trans rfl; have hcz20_1 : wr.cell? ⟨gb204, 1, none⟩ = some (.slice A0_1 l0_1.length c0_1) := (blk_cell BK204.out 1).trans rfl; have hcz20_2 : wr.cell? ⟨gb204, 2, none⟩ = some (.int .i64 a0_2) := (blk_cell BK204.out 2).trans rfl; have hfz20_0 := blk_frozen BK204.out 0; have hfz20_1 := blk_frozen BK204.out 1; have hfz20_2 := blk_frozen BK204.out 2; have p205 : 0 ≤ (x4_3 : Int) := of_decide_eq_true zA; have q205 : x4_3 < (l0_1.length : Int) := of_decide_eq_true zA; obtain ⟨ad205, e205, hx205_0⟩ := Kd.at_int HR0_1.out x4_3 p205 q205
            cases e205
            replace hx205_0 := (HB.out.cell (World.block_lt_of_cell? w _ hx205_0)).trans hx205_0; replace p205 := eq_true p205; replace q205 := eq_true q205; have p206 : 0 ≤ (x4_3 : Int) := of_decide_eq_true zA; have q206 : x4_3 < (l0_1.length : Int) := of_decide_eq_true zA; obtain ⟨ad206, e206, hx206_0⟩ := Kd.at_int HR0_1.out x4_3 p206 q206; obtain rfl : ad205 = ad206 := (by injection e206); replace hx206_0 := (HB.out.cell (World.block_lt_of_cell? w _ hx206_0)).trans hx206_0; replace p206 := eq_true p206; replace q206 := eq_true q206
            go_wp2
            go_roundg k3
            case measure => have := HJ1.out; have := HJ11.out; have := HK3.out; omega
            case rel => exact ⟨(decide ((rd l0_1 x4_3) ≤ 1000000000000)), (wrap64 (x4_3 + 1)), zS, zS, H', ⟨by have := HJ1.out; have := HJ11.out; have := HK3.out; omega⟩, ⟨zB BK204.out⟩, ⟨zH1 HB.out GE204.out⟩⟩
           ·
            rw [if_neg c19] at H; have c19b0 : decide (0 ≤ (rd l0_1 x4_3)) = false := decide_eq_false c19; clear c19; have H' := Aside0.mk H; clear H; have hcz21_0 : wr.cell? ⟨gb204, 0, none⟩ = some (.slice A0_0 l0_0.length c0_0) := (blk_cell BK204.out 0).trans rfl; have hcz21_1 : wr.cell? ⟨gb204, 1, none⟩ = some (.slice A0_1 l0_1.length c0_1) := (blk_cell BK204.out 1).trans rfl; have hcz21_2 : wr.cell? ⟨gb204, 2, none⟩ = some (.int .i64 a0_2) := (blk_cell BK204.out 2).trans rfl; have hfz21_0 := blk_frozen BK204.out 0; have hfz21_1 := blk_frozen BK204.out 1; have hfz21_2 := blk_frozen BK204.out 2; have p205 : 0 ≤ (x4_3 : Int) := of_decide_eq_true zA; have q205 : x4_3 < (l0_1.length : Int) := of_decide_eq_true zA; obtain ⟨ad205, e205, hx205_0⟩ := Kd.at_int HR0_1.out x4_3 p205 q205
            cases e205
            replace hx205_0 := (HB.out.cell (World.block_lt_of_cell? w _ hx205_0)).trans hx205_0; replace p205 := eq_true p205; replace q205 := eq_true q205
            go_wp2
            go_roundg k3
            case measure => have := HJ1.out; have := HJ11.out; have := HK3.out; omega
            case rel => exact ⟨(false), (wrap64 (x4_3 + 1)), zS, zS, H', ⟨by have := HJ1.out; have := HJ11.out; have := HK3.out; omega⟩, ⟨zB BK204.out⟩, ⟨zH1 HB.out GE204.out⟩⟩
          ·
           rw [if_neg c18] at H; exact absurd H (by simp)
         ·
          replace c17 := Bool.eq_false_iff.mpr c17; subst c17; have H1 : (pledgeref18_Valid.l0 k3 false (wrap64 (x4_3 + 1)) l0_0 l0_1 a0_2) = some r := by rw [if_neg (show ¬ (false = true) by decide)] at H; exact H
          clear H; have H := H1; clear H1; have H' := Aside0.mk H; clear H; have hcz22_0 : wr.cell? ⟨gb204, 0, none⟩ = some (.slice A0_0 l0_0.length c0_0) := (blk_cell BK204.out 0).trans rfl; have hcz22_1 : wr.cell? ⟨gb204, 1, none⟩ = some (.slice A0_1 l0_1.length c0_1) := (blk_cell BK204.out 1).trans rfl; have hcz22_2 : wr.cell? ⟨gb204, 2, none⟩ = some (.int .i64 a0_2) := (blk_cell BK204.out 2).trans rfl; have hfz22_0 := blk_frozen BK204.out 0; have hfz22_1 := blk_frozen BK204.out 1; have hfz22_2 := blk_frozen BK204.out 2
          go_wp2
          go_roundg k3
          case measure => have := HJ1.out; have := HJ11.out; have := HK3.out; omega
          case rel => exact ⟨(false), (wrap64 (x4_3 + 1)), zS, zS, H', ⟨by have := HJ1.out; have := HJ11.out; have := HK3.out; omega⟩, ⟨zB BK204.out⟩, ⟨zH1 HB.out GE204.out⟩⟩
        ·
         rw [if_neg c16] at H; have c16b0 : decide (x4_3 < (l0_1.length : Int)) = false := decide_eq_false c16; clear c16; have H' := Aside0.mk H; clear H; have hcz23_0 : wr.cell? ⟨gb204, 0, none⟩ = some (.slice A0_0 l0_0.length c0_0) := (blk_cell BK204.out 0).trans rfl; have hcz23_1 : wr.cell? ⟨gb204, 1, none⟩ = some (.slice A0_1 l0_1.length c0_1) := (blk_cell BK204.out 1).trans rfl; have hcz23_2 : wr.cell? ⟨gb204, 2, none⟩ = some (.int .i64 a0_2) := (blk_cell BK204.out 2).trans rfl; have hfz23_0 := blk_frozen BK204.out 0; have hfz23_1 := blk_frozen BK204.out 1; have hfz23_2 := blk_frozen BK204.out 2
         go_wp2
         go_loopg [3, 5] k3 (fun kq v3 v5 w' => ∃ (x3_4 : Bool) (x5_4 : Int), v3 = .bool x3_4 ∧ v5 = .int .i64 x5_4 ∧ Aside0 (pledgeref18_Valid.l1 kq x3_4 x5_4 l0_0 l0_1 a0_2 = some r) ∧ Aside0 (kq ≤ k3) ∧ Aside0 (w'.heap[gb204]? = some (.cells #[(.slice A0_0 l0_0.length c0_0), (.slice A0_1 l0_1.length c0_1), .int .i64 a0_2] 45 (0, 0))) ∧ Aside0 (Below w.heap.size w w'))
         case atStart => exact ⟨(x3_3), (0), zS, zS, H', ⟨Nat.le_refl _⟩, ⟨zB BK204.out⟩, ⟨zH1 HB.out GE204.out⟩⟩
         case round =>
          clear H'
          try clear c1
          try clear p2
          try clear q2
          try clear hx2
          try clear c4
          try clear c4b0
          try clear c4b1
          try clear c6
          try clear c6b0
          try clear c6b1
          try clear p6
          try clear c8
          try clear c8b0
          try clear c8b1
          try clear c11
          try clear c13
          try clear c13b0
          try clear c16
          try clear c16b0
          try clear c17
          try clear c18
          try clear c18b0
          try clear c19
          try clear c19b0
          try clear p20
          try clear q20
          try clear hx20
          try clear hcz10_0
          try clear hcz10_1
          try clear hcz10_2
          try clear hcz14_0
          try clear hcz14_1
          try clear hcz14_2
          try clear hcz15_0
          try clear hcz15_1
          try clear hcz15_2
          try clear hcz20_0
          try clear hcz20_1
          try clear hcz20_2
          try clear hcz21_0
          try clear hcz21_1
          try clear hcz21_2
          try clear hcz22_0
          try clear hcz22_1
          try clear hcz22_2
          try clear hcz23_0
          try clear hcz23_1
          try clear hcz23_2
          try clear hcz5_0
          try clear hcz5_1
          try clear hcz5_2
          try clear hcz7_0
          try clear hcz7_1
          try clear hcz7_2
          try clear hcz9_0
          try clear hcz9_1
          try clear hcz9_2
          try clear hfz10_0
          try clear hfz10_1
          try clear hfz10_2
          try clear hfz14_0
          try clear hfz14_1
          try clear hfz14_2
          try clear hfz15_0
          try clear hfz15_1
          try clear hfz15_2
          try clear hfz20_0
          try clear hfz20_1
          try clear hfz20_2
          try clear hfz21_0
          try clear hfz21_1
          try clear hfz21_2
          try clear hfz22_0
          try clear hfz22_1
          try clear hfz22_2
          try clear hfz23_0
          try clear hfz23_1
          try clear hfz23_2
          try clear hfz5_0
          try clear hfz5_1
          try clear hfz5_2
          try clear hfz7_0
          try clear hfz7_1
          try clear hfz7_2
          try clear hfz9_0
          try clear hfz9_1
          try clear hfz9_2
          try clear hx205_0
          try clear hx206_0
          try clear p2
          try clear p205
          try clear p206
          try clear q205
          try clear q206
          obtain ⟨x3_4, x5_4, rfl, rfl, HA, HK4, BK204, HB⟩ := hrel
          cases gk with
          | zero => exact absurd HA.out (by simp [pledgeref18_Valid.l1])
          | succ k4 =>
           have H := HA.out; clear HA; simp only [pledgeref18_Valid.l1] at H; by_cases c24 : x5_4 < (l0_0.length : Int)
           ·
            rw [if_pos c24] at H; have c24b0 : decide (x5_4 < (l0_0.length : Int)) = true := decide_eq_true c24; clear c24; by_cases c25 : 0 ≤ x5_4
            ·
             rw [if_pos c25] at H; have c25b0 : decide (0 ≤ x5_4) = true := decide_eq_true c25; clear c25; by_cases c26 : x3_4 = true
             ·
              subst c26; have H1 : (if ((rd_T25 l0_0 x5_4).f0) ≥ 0 then (if ((rd_T25 l0_0 x5_4).f0) ≤ 1000 then (if ((rd_T25 l0_0 x5_4).f1) ≥ 0 then (if ((rd_T25 l0_0 x5_4).f1) ≤ 1000000000 then (if ((rd_T25 l0_0 x5_4).f2) ≥ 0 then (if ((rd_T25 l0_0 x5_4).f2) ≤ 1000000000 then (if ((rd_T25 l0_0 x5_4).f3) ≥ 0 then (pledgeref18_Valid.l1 k4 (decide (((rd_T25 l0_0 x5_4).f3) < (l0_1.length : Int))) (wrap64 (x5_4 + 1)) l0_0 l0_1 a0_2) else (pledgeref18_Valid.l1 k4 false (wrap64 (x5_4 + 1)) l0_0 l0_1 a0_2)) else (pledgeref18_Valid.l1 k4 false (wrap64 (x5_4 + 1)) l0_0 l0_1 a0_2)) else (pledgeref18_Valid.l1 k4 false (wrap64 (x5_4 + 1)) l0_0 l0_1 a0_2)) else (pledgeref18_Valid.l1 k4 false (wrap64 (x5_4 + 1)) l0_0 l0_1 a0_2)) else (pledgeref18_Valid.l1 k4 false (wrap64 (x5_4 + 1)) l0_0 l0_1 a0_2)) else (pledgeref18_Valid.l1 k4 false (wrap64 (x5_4 + 1)) l0_0 l0_1 a0_2)) else (pledgeref18_Valid.l1 k4 false (wrap64 (x5_4 + 1)) l0_0 l0_1 a0_2)) = some r := by rw [if_pos rfl] at H; exact H
              clear H; have H := H1; clear H1; by_cases c27 : ((rd_T25 l0_0 x5_4).f0) ≥ 0
              ·
               rw [if_pos c27] at H; have c27b0 : decide (0 ≤ ((rd_T25 l0_0 x5_4).f0)) = true := decide_eq_true c27; clear c27; by_cases c28 : ((rd_T25 l0_0 x5_4).f0) ≤ 1000
               ·
                rw [if_pos c28] at H; have c28b0 : decide (((rd_T25 l0_0 x5_4).f0) ≤ 1000) = true := decide_eq_true c28; clear c28; by_cases c29 : ((rd_T25 l0_0 x5_4).f1) ≥ 0
                ·
                 rw [if_pos c29] at H; have c29b0 : decide (0 ≤ ((rd_T25 l0_0 x5_4).f1)) = true := decide_eq_true c29; clear c29; by_cases c30 : ((rd_T25 l0_0 x5_4).f1) ≤ 1000000000
                 ·
                  rw [if_pos c30] at H; have c30b0 : decide (((rd_T25 l0_0 x5_4).f1) ≤ 1000000000) = true := decide_eq_true c30; clear c30; by_cases c31 : ((rd_T25 l0_0 x5_4).f2) ≥ 0
                  ·
                   rw [if_pos c31] at H; have c31b0 : decide (0 ≤ ((rd_T25 l0_0 x5_4).f2)) = true := decide_eq_true c31; clear c31; by_cases c32 : ((rd_T25 l0_0 x5_4).f2) ≤ 1000000000
                   ·
                    rw [if_pos c32] at H; have c32b0 : decide (((rd_T25 l0_0 x5_4).f2) ≤ 1000000000) = true := decide_eq_true c32; clear c32; by_cases c33 : ((rd_T25 l0_0 x5_4).f3) ≥ 0
                    ·
                     rw [if_pos c33] at H; have c33b0 : decide (0 ≤ ((rd_T25 l0_0 x5_4).f3)) = true := decide_eq_true c33; clear c33; have H' := Aside0.mk H; clear H; have hcz34_0 : wr.cell? ⟨gb204, 0, none⟩ = some (.slice A0_0 l0_0.length c0_0) := (blk_cell BK204.out 0).trans rfl; have hcz34_1 : wr.cell? ⟨gb204, 1, none⟩ = some (.slice A0_1 l0_1.length c0_1) := (blk_cell BK204.out 1).trans rfl; have hcz34_2 : wr.cell? ⟨gb204, 2, none⟩ = some (.int .i64 a0_2) := (blk_cell BK204.out 2).trans rfl; have hfz34_0 := blk_frozen BK204.out 0; have hfz34_1 := blk_frozen BK204.out 1; have hfz34_2 := blk_frozen BK204.out 2; have p207 : 0 ≤ (x5_4 : Int) := of_decide_eq_true zA; have q207 : x5_4 < (l0_0.length : Int) := of_decide_eq_true zA; obtain ⟨ad207, e207, hx207_0, hx207_1, hx207_2, hx207_3⟩ := at_T25 HR0_0.out x5_4 p207 q207
                     cases e207
                     replace hx207_0 := (HB.out.cell (World.block_lt_of_cell? w _ hx207_0)).trans hx207_0; replace hx207_1 := (HB.out.cell (World.block_lt_of_cell? w _ hx207_1)).trans hx207_1; replace hx207_2 := (HB.out.cell (World.block_lt_of_cell? w _ hx207_2)).trans hx207_2; replace hx207_3 := (HB.out.cell (World.block_lt_of_cell? w _ hx207_3)).trans hx207_3; replace p207 := eq_true p207; replace q207 := eq_true q207
                     go_wp2_with (first | ((with_reducible refine gate_dst (N := 6) rfl ?_); (try (refine gate_guard (by rfl) ?_; dsimp only)); refine box_event ?hg (N := 6) ?hd (cs := #[.int .i64 0, .int .i64 0, .int .i64 0, .int .i64 0]) (t := 25) ?hr ?_; (case hd => rfl); (case hg => rfl); (case hr => first | (go_simp; done) | (go_simp; rfl)); intro gb208 hg w35 hbox hb; have n0_ := zBB BK204 hb; have n1_ := Aside0.mk (below_step (zH1 HB.out GE204.out) hb); have n2_ := Aside0.mk (hbox); have n3_ := Aside0.mk (zg hg (below_size (zH1 HB.out GE204.out)) : w.heap.size ≤ gb208); have n4_ := Aside0.mk (zg hg (below_size (zH1 HB.out GE204.out)) : w.heap.size ≤ gb208); have n5_ := Aside0.mk (zN hg BK204 : gb204 ≠ gb208); have n6_ := Aside0.mk (zO hg BK204 : gb208 ≠ gb204); clear BK204; clear HB; have BK204 := n0_; have HB := n1_; have BK208 := n2_; have GW208 := n3_; have GE208 := n4_; have NB204_208 := n5_; have NB208_204 := n6_; clear n0_ n1_ n2_ n3_ n4_ n5_ n6_; clear hb hbox hg; have hnb36 := NB208_204.out; have hnc36 := NB204_208.out; have hcz37_0 : w35.cell? ⟨gb208, 0, none⟩ = some (.int .i64 0) := (blk_cell BK208.out 0).trans rfl; have hcz37_1 : w35.cell? ⟨gb208, 1, none⟩ = some (.int .i64 0) := (blk_cell BK208.out 1).trans rfl; have hcz37_2 : w35.cell? ⟨gb208, 2, none⟩ = some (.int .i64 0) := (blk_cell BK208.out 2).trans rfl; have hcz37_3 : w35.cell? ⟨gb208, 3, none⟩ = some (.int .i64 0) := (blk_cell BK208.out 3).trans rfl; have hfz37_0 := blk_frozen BK208.out 0; have hfz37_1 := blk_frozen BK208.out 1; have hfz37_2 := blk_frozen BK208.out 2; have hfz37_3 := blk_frozen BK208.out 3; have hcz38_0 : w35.cell? ⟨gb204, 0, none⟩ = some (.slice (some ad207) l0_0.length c0_0) := (blk_cell BK204.out 0).trans rfl; have hcz38_1 : w35.cell? ⟨gb204, 1, none⟩ = some (.slice A0_1 l0_1.length c0_1) := (blk_cell BK204.out 1).trans rfl; have hcz38_2 : w35.cell? ⟨gb204, 2, none⟩ = some (.int .i64 a0_2) := (blk_cell BK204.out 2).trans rfl; have hfz38_0 := blk_frozen BK204.out 0; have hfz38_1 := blk_frozen BK204.out 1; have hfz38_2 := blk_frozen BK204.out 2))
                     go_roundg k4
                     case measure => have := HJ1.out; have := HJ11.out; have := HK3.out; have := HK4.out; omega
                     case rel => exact ⟨(decide (((rd_T25 l0_0 x5_4).f3) < (l0_1.length : Int))), (wrap64 (x5_4 + 1)), zS, zS, H', ⟨by have := HJ1.out; have := HJ11.out; have := HK3.out; have := HK4.out; omega⟩, ⟨by (with_reducible repeat (first | refine blk_drewN ?_ _ | refine blk_drew ?_ | refine blk_alloc ?_ _ | refine blk_far ?_ NB204_208.out _)); exact BK204.out⟩, ⟨zH2 HB.out GE204.out GE208.out⟩⟩
                    ·
                     rw [if_neg c33] at H; have c33b0 : decide (0 ≤ ((rd_T25 l0_0 x5_4).f3)) = false := decide_eq_false c33; clear c33; have H' := Aside0.mk H; clear H; have hcz39_0 : wr.cell? ⟨gb204, 0, none⟩ = some (.slice A0_0 l0_0.length c0_0) := (blk_cell BK204.out 0).trans rfl; have hcz39_1 : wr.cell? ⟨gb204, 1, none⟩ = some (.slice A0_1 l0_1.length c0_1) := (blk_cell BK204.out 1).trans rfl; have hcz39_2 : wr.cell? ⟨gb204, 2, none⟩ = some (.int .i64 a0_2) := (blk_cell BK204.out 2).trans rfl; have hfz39_0 := blk_frozen BK204.out 0; have hfz39_1 := blk_frozen BK204.out 1; have hfz39_2 := blk_frozen BK204.out 2; have p207 : 0 ≤ (x5_4 : Int) := of_decide_eq_true zA; have q207 : x5_4 < (l0_0.length : Int) := of_decide_eq_true zA; obtain ⟨ad207, e207, hx207_0, hx207_1, hx207_2, hx207_3⟩ := at_T25 HR0_0.out x5_4 p207 q207
                     cases e207
                     replace hx207_0 := (HB.out.cell (World.block_lt_of_cell? w _ hx207_0)).trans hx207_0; replace hx207_1 := (HB.out.cell (World.block_lt_of_cell? w _ hx207_1)).trans hx207_1; replace hx207_2 := (HB.out.cell (World.block_lt_of_cell? w _ hx207_2)).trans hx207_2; replace hx207_3 := (HB.out.cell (World.block_lt_of_cell? w _ hx207_3)).trans hx207_3; replace p207 := eq_true p207; replace q207 := eq_true q207
                     go_wp2_with (first | ((with_reducible refine gate_dst (N := 6) rfl ?_); (try (refine gate_guard (by rfl) ?_; dsimp only)); refine box_event ?hg (N := 6) ?hd (cs := #[.int .i64 0, .int .i64 0, .int .i64 0, .int .i64 0]) (t := 25) ?hr ?_; (case hd => rfl); (case hg => rfl); (case hr => first | (go_simp; done) | (go_simp; rfl)); intro gb208 hg w40 hbox hb; have n0_ := zBB BK204 hb; have n1_ := Aside0.mk (below_step (zH1 HB.out GE204.out) hb); have n2_ := Aside0.mk (hbox); have n3_ := Aside0.mk (zg hg (below_size (zH1 HB.out GE204.out)) : w.heap.size ≤ gb208); have n4_ := Aside0.mk (zg hg (below_size (zH1 HB.out GE204.out)) : w.heap.size ≤ gb208); have n5_ := Aside0.mk (zN hg BK204 : gb204 ≠ gb208); have n6_ := Aside0.mk (zO hg BK204 : gb208 ≠ gb204); clear BK204; clear HB; have BK204 := n0_; have HB := n1_; have BK208 := n2_; have GW208 := n3_; have GE208 := n4_; have NB204_208 := n5_; have NB208_204 := n6_; clear n0_ n1_ n2_ n3_ n4_ n5_ n6_; clear hb hbox hg; have hnb41 := NB208_204.out; have hnc41 := NB204_208.out; have hcz42_0 : w40.cell? ⟨gb208, 0, none⟩ = some (.int .i64 0) := (blk_cell BK208.out 0).trans rfl; have hcz42_1 : w40.cell? ⟨gb208, 1, none⟩ = some (.int .i64 0) := (blk_cell BK208.out 1).trans rfl; have hcz42_2 : w40.cell? ⟨gb208, 2, none⟩ = some (.int .i64 0) := (blk_cell BK208.out 2).trans rfl; have hcz42_3 : w40.cell? ⟨gb208, 3, none⟩ = some (.int .i64 0) := (blk_cell BK208.out 3).trans rfl; have hfz42_0 := blk_frozen BK208.out 0; have hfz42_1 := blk_frozen BK208.out 1; have hfz42_2 := blk_frozen BK208.out 2; have hfz42_3 := blk_frozen BK208.out 3))
                     go_roundg k4
                     case measure => have := HJ1.out; have := HJ11.out; have := HK3.out; have := HK4.out; omega
                     case rel => exact ⟨(false), (wrap64 (x5_4 + 1)), zS, zS, H', ⟨by have := HJ1.out; have := HJ11.out; have := HK3.out; have := HK4.out; omega⟩, ⟨by (with_reducible repeat (first | refine blk_drewN ?_ _ | refine blk_drew ?_ | refine blk_alloc ?_ _ | refine blk_far ?_ NB204_208.out _)); exact BK204.out⟩, ⟨zH2 HB.out GE204.out GE208.out⟩⟩
                   ·
                    rw [if_neg c32] at H; have c32b0 : decide (((rd_T25 l0_0 x5_4).f2) ≤ 1000000000) = false := decide_eq_false c32; clear c32; have H' := Aside0.mk H; clear H; have hcz43_0 : wr.cell? ⟨gb204, 0, none⟩ = some (.slice A0_0 l0_0.length c0_0) := (blk_cell BK204.out 0).trans rfl; have hcz43_1 : wr.cell? ⟨gb204, 1, none⟩ = some (.slice A0_1 l0_1.length c0_1) := (blk_cell BK204.out 1).trans rfl; have hcz43_2 : wr.cell? ⟨gb204, 2, none⟩ = some (.int .i64 a0_2) := (blk_cell BK204.out 2).trans rfl; have hfz43_0 := blk_frozen BK204.out 0; have hfz43_1 := blk_frozen BK204.out 1; have hfz43_2 := blk_frozen BK204.out 2; have p207 : 0 ≤ (x5_4 : Int) := of_decide_eq_true zA; have q207 : x5_4 < (l0_0.length : Int) := of_decide_eq_true zA; obtain ⟨ad207, e207, hx207_0, hx207_1, hx207_2, hx207_3⟩ := at_T25 HR0_0.out x5_4 p207 q207
                    cases e207
                    replace hx207_0 := (HB.out.cell (World.block_lt_of_cell? w _ hx207_0)).trans hx207_0; replace hx207_1 := (HB.out.cell (World.block_lt_of_cell? w _ hx207_1)).trans hx207_1; replace hx207_2 := (HB.out.cell (World.block_lt_of_cell? w _ hx207_2)).trans hx207_2; replace hx207_3 := (HB.out.cell (World.block_lt_of_cell? w _ hx207_3)).trans hx207_3; replace p207 := eq_true p207; replace q207 := eq_true q207
                    go_wp2_with (first | ((with_reducible refine gate_dst (N := 6) rfl ?_); (try (refine gate_guard (by rfl) ?_; dsimp only)); refine box_event ?hg (N := 6) ?hd (cs := #[.int .i64 0, .int .i64 0, .int .i64 0, .int .i64 0]) (t := 25) ?hr ?_; (case hd => rfl); (case hg => rfl); (case hr => first | (go_simp; done) | (go_simp; rfl)); intro gb208 hg w44 hbox hb; have n0_ := zBB BK204 hb; have n1_ := Aside0.mk (below_step (zH1 HB.out GE204.out) hb); have n2_ := Aside0.mk (hbox); have n3_ := Aside0.mk (zg hg (below_size (zH1 HB.out GE204.out)) : w.heap.size ≤ gb208); have n4_ := Aside0.mk (zg hg (below_size (zH1 HB.out GE204.out)) : w.heap.size ≤ gb208); have n5_ := Aside0.mk (zN hg BK204 : gb204 ≠ gb208); have n6_ := Aside0.mk (zO hg BK204 : gb208 ≠ gb204); clear BK204; clear HB; have BK204 := n0_; have HB := n1_; have BK208 := n2_; have GW208 := n3_; have GE208 := n4_; have NB204_208 := n5_; have NB208_204 := n6_; clear n0_ n1_ n2_ n3_ n4_ n5_ n6_; clear hb hbox hg; have hnb45 := NB208_204.out; have hnc45 := NB204_208.out; have hcz46_0 : w44.cell? ⟨gb208, 0, none⟩ = some (.int .i64 0) := (blk_cell BK208.out 0).trans rfl; have hcz46_1 : w44.cell? ⟨gb208, 1, none⟩ = some (.int .i64 0) := (blk_cell BK208.out 1).trans rfl; have hcz46_2 : w44.cell? ⟨gb208, 2, none⟩ = some (.int .i64 0) := (blk_cell BK208.out 2).trans rfl; have hcz46_3 : w44.cell? ⟨gb208, 3, none⟩ = some (.int .i64 0) := (blk_cell BK208.out 3).trans rfl; have hfz46_0 := blk_frozen BK208.out 0; have hfz46_1 := blk_frozen BK208.out 1; have hfz46_2 := blk_frozen BK208.out 2; have hfz46_3 := blk_frozen BK208.out 3))
                    go_roundg k4
                    case measure => have := HJ1.out; have := HJ11.out; have := HK3.out; have := HK4.out; omega
                    case rel => exact ⟨(false), (wrap64 (x5_4 + 1)), zS, zS, H', ⟨by have := HJ1.out; have := HJ11.out; have := HK3.out; have := HK4.out; omega⟩, ⟨by (with_reducible repeat (first | refine blk_drewN ?_ _ | refine blk_drew ?_ | refine blk_alloc ?_ _ | refine blk_far ?_ NB204_208.out _)); exact BK204.out⟩, ⟨zH2 HB.out GE204.out GE208.out⟩⟩
                  ·
                   rw [if_neg c31] at H; have c31b0 : decide (0 ≤ ((rd_T25 l0_0 x5_4).f2)) = false := decide_eq_false c31; clear c31; have H' := Aside0.mk H; clear H; have hcz47_0 : wr.cell? ⟨gb204, 0, none⟩ = some (.slice A0_0 l0_0.length c0_0) := (blk_cell BK204.out 0).trans rfl; have hcz47_1 : wr.cell? ⟨gb204, 1, none⟩ = some (.slice A0_1 l0_1.length c0_1) := (blk_cell BK204.out 1).trans rfl; have hcz47_2 : wr.cell? ⟨gb204, 2, none⟩ = some (.int .i64 a0_2) := (blk_cell BK204.out 2).trans rfl; have hfz47_0 := blk_frozen BK204.out 0; have hfz47_1 := blk_frozen BK204.out 1; have hfz47_2 := blk_frozen BK204.out 2; have p207 : 0 ≤ (x5_4 : Int) := of_decide_eq_true zA; have q207 : x5_4 < (l0_0.length : Int) := of_decide_eq_true zA; obtain ⟨ad207, e207, hx207_0, hx207_1, hx207_2, hx207_3⟩ := at_T25 HR0_0.out x5_4 p207 q207
                   cases e207
                   replace hx207_0 := (HB.out.cell (World.block_lt_of_cell? w _ hx207_0)).trans hx207_0; replace hx207_1 := (HB.out.cell (World.block_lt_of_cell? w _ hx207_1)).trans hx207_1; replace hx207_2 := (HB.out.cell (World.block_lt_of_cell? w _ hx207_2)).trans hx207_2; replace hx207_3 := (HB.out.cell (World.block_lt_of_cell? w _ hx207_3)).trans hx207_3; replace p207 := eq_true p207; replace q207 := eq_true q207
                   go_wp2_with (first | ((with_reducible refine gate_dst (N := 6) rfl ?_); (try (refine gate_guard (by rfl) ?_; dsimp only)); refine box_event ?hg (N := 6) ?hd (cs := #[.int .i64 0, .int .i64 0, .int .i64 0, .int .i64 0]) (t := 25) ?hr ?_; (case hd => rfl); (case hg => rfl); (case hr => first | (go_simp; done) | (go_simp; rfl)); intro gb208 hg w48 hbox hb; have n0_ := zBB BK204 hb; have n1_ := Aside0.mk (below_step (zH1 HB.out GE204.out) hb); have n2_ := Aside0.mk (hbox); have n3_ := Aside0.mk (zg hg (below_size (zH1 HB.out GE204.out)) : w.heap.size ≤ gb208); have n4_ := Aside0.mk (zg hg (below_size (zH1 HB.out GE204.out)) : w.heap.size ≤ gb208); have n5_ := Aside0.mk (zN hg BK204 : gb204 ≠ gb208); have n6_ := Aside0.mk (zO hg BK204 : gb208 ≠ gb204); clear BK204; clear HB; have BK204 := n0_; have HB := n1_; have BK208 := n2_; have GW208 := n3_; have GE208 := n4_; have NB204_208 := n5_; have NB208_204 := n6_; clear n0_ n1_ n2_ n3_ n4_ n5_ n6_; clear hb hbox hg; have hnb49 := NB208_204.out; have hnc49 := NB204_208.out; have hcz50_0 : w48.cell? ⟨gb208, 0, none⟩ = some (.int .i64 0) := (blk_cell BK208.out 0).trans rfl; have hcz50_1 : w48.cell? ⟨gb208, 1, none⟩ = some (.int .i64 0) := (blk_cell BK208.out 1).trans rfl; have hcz50_2 : w48.cell? ⟨gb208, 2, none⟩ = some (.int .i64 0) := (blk_cell BK208.out 2).trans rfl; have hcz50_3 : w48.cell? ⟨gb208, 3, none⟩ = some (.int .i64 0) := (blk_cell BK208.out 3).trans rfl; have hfz50_0 := blk_frozen BK208.out 0; have hfz50_1 := blk_frozen BK208.out 1; have hfz50_2 := blk_frozen BK208.out 2; have hfz50_3 := blk_frozen BK208.out 3))
                   go_roundg k4
                   case measure => have := HJ1.out; have := HJ11.out; have := HK3.out; have := HK4.out; omega
                   case rel => exact ⟨(false), (wrap64 (x5_4 + 1)), zS, zS, H', ⟨by have := HJ1.out; have := HJ11.out; have := HK3.out; have := HK4.out; omega⟩, ⟨by (with_reducible repeat (first | refine blk_drewN ?_ _ | refine blk_drew ?_ | refine blk_alloc ?_ _ | refine blk_far ?_ NB204_208.out _)); exact BK204.out⟩, ⟨zH2 HB.out GE204.out GE208.out⟩⟩
                 ·
                  rw [if_neg c30] at H; have c30b0 : decide (((rd_T25 l0_0 x5_4).f1) ≤ 1000000000) = false := decide_eq_false c30; clear c30; have H' := Aside0.mk H; clear H; have hcz51_0 : wr.cell? ⟨gb204, 0, none⟩ = some (.slice A0_0 l0_0.length c0_0) := (blk_cell BK204.out 0).trans rfl; have hcz51_1 : wr.cell? ⟨gb204, 1, none⟩ = some (.slice A0_1 l0_1.length c0_1) := (blk_cell BK204.out 1).trans rfl; have hcz51_2 : wr.cell? ⟨gb204, 2, none⟩ = some (.int .i64 a0_2) := (blk_cell BK204.out 2).trans rfl; have hfz51_0 := blk_frozen BK204.out 0; have hfz51_1 := blk_frozen BK204.out 1; have hfz51_2 := blk_frozen BK204.out 2; have p207 : 0 ≤ (x5_4 : Int) := of_decide_eq_true zA; have q207 : x5_4 < (l0_0.length : Int) := of_decide_eq_true zA; obtain ⟨ad207, e207, hx207_0, hx207_1, hx207_2, hx207_3⟩ := at_T25 HR0_0.out x5_4 p207 q207
                  cases e207
                  replace hx207_0 := (HB.out.cell (World.block_lt_of_cell? w _ hx207_0)).trans hx207_0; replace hx207_1 := (HB.out.cell (World.block_lt_of_cell? w _ hx207_1)).trans hx207_1; replace hx207_2 := (HB.out.cell (World.block_lt_of_cell? w _ hx207_2)).trans hx207_2; replace hx207_3 := (HB.out.cell (World.block_lt_of_cell? w _ hx207_3)).trans hx207_3; replace p207 := eq_true p207; replace q207 := eq_true q207
                  go_wp2_with (first | ((with_reducible refine gate_dst (N := 6) rfl ?_); (try (refine gate_guard (by rfl) ?_; dsimp only)); refine box_event ?hg (N := 6) ?hd (cs := #[.int .i64 0, .int .i64 0, .int .i64 0, .int .i64 0]) (t := 25) ?hr ?_; (case hd => rfl); (case hg => rfl); (case hr => first | (go_simp; done) | (go_simp; rfl)); intro gb208 hg w52 hbox hb; have n0_ := zBB BK204 hb; have n1_ := Aside0.mk (below_step (zH1 HB.out GE204.out) hb); have n2_ := Aside0.mk (hbox); have n3_ := Aside0.mk (zg hg (below_size (zH1 HB.out GE204.out)) : w.heap.size ≤ gb208); have n4_ := Aside0.mk (zg hg (below_size (zH1 HB.out GE204.out)) : w.heap.size ≤ gb208); have n5_ := Aside0.mk (zN hg BK204 : gb204 ≠ gb208); have n6_ := Aside0.mk (zO hg BK204 : gb208 ≠ gb204); clear BK204; clear HB; have BK204 := n0_; have HB := n1_; have BK208 := n2_; have GW208 := n3_; have GE208 := n4_; have NB204_208 := n5_; have NB208_204 := n6_; clear n0_ n1_ n2_ n3_ n4_ n5_ n6_; clear hb hbox hg; have hnb53 := NB208_204.out; have hnc53 := NB204_208.out; have hcz54_0 : w52.cell? ⟨gb208, 0, none⟩ = some (.int .i64 0) := (blk_cell BK208.out 0).trans rfl; have hcz54_1 : w52.cell? ⟨gb208, 1, none⟩ = some (.int .i64 0) := (blk_cell BK208.out 1).trans rfl; have hcz54_2 : w52.cell? ⟨gb208, 2, none⟩ = some (.int .i64 0) := (blk_cell BK208.out 2).trans rfl; have hcz54_3 : w52.cell? ⟨gb208, 3, none⟩ = some (.int .i64 0) := (blk_cell BK208.out 3).trans rfl; have hfz54_0 := blk_frozen BK208.out 0; have hfz54_1 := blk_frozen BK208.out 1; have hfz54_2 := blk_frozen BK208.out 2; have hfz54_3 := blk_frozen BK208.out 3))
                  go_roundg k4
                  case measure => have := HJ1.out; have := HJ11.out; have := HK3.out; have := HK4.out; omega
                  case rel => exact ⟨(false), (wrap64 (x5_4 + 1)), zS, zS, H', ⟨by have := HJ1.out; have := HJ11.out; have := HK3.out; have := HK4.out; omega⟩, ⟨by (with_reducible repeat (first | refine blk_drewN ?_ _ | refine blk_drew ?_ | refine blk_alloc ?_ _ | refine blk_far ?_ NB204_208.out _)); exact BK204.out⟩, ⟨zH2 HB.out GE204.out GE208.out⟩⟩
                ·
                 rw [if_neg c29] at H; have c29b0 : decide (0 ≤ ((rd_T25 l0_0 x5_4).f1)) = false := decide_eq_false c29; clear c29; have H' := Aside0.mk H; clear H; have hcz55_0 : wr.cell? ⟨gb204, 0, none⟩ = some (.slice A0_0 l0_0.length c0_0) := (blk_cell BK204.out 0).trans rfl; have hcz55_1 : wr.cell? ⟨gb204, 1, none⟩ = some (.slice A0_1 l0_1.length c0_1) := (blk_cell BK204.out 1).trans rfl; have hcz55_2 : wr.cell? ⟨gb204, 2, none⟩ = some (.int .i64 a0_2) := (blk_cell BK204.out 2).trans rfl; have hfz55_0 := blk_frozen BK204.out 0; have hfz55_1 := blk_frozen BK204.out 1; have hfz55_2 := blk_frozen BK204.out 2; have p207 : 0 ≤ (x5_4 : Int) := of_decide_eq_true zA; have q207 : x5_4 < (l0_0.length : Int) := of_decide_eq_true zA; obtain ⟨ad207, e207, hx207_0, hx207_1, hx207_2, hx207_3⟩ := at_T25 HR0_0.out x5_4 p207 q207
                 cases e207
                 replace hx207_0 := (HB.out.cell (World.block_lt_of_cell? w _ hx207_0)).trans hx207_0; replace hx207_1 := (HB.out.cell (World.block_lt_of_cell? w _ hx207_1)).trans hx207_1; replace hx207_2 := (HB.out.cell (World.block_lt_of_cell? w _ hx207_2)).trans hx207_2; replace hx207_3 := (HB.out.cell (World.block_lt_of_cell? w _ hx207_3)).trans hx207_3; replace p207 := eq_true p207; replace q207 := eq_true q207
                 go_wp2_with (first | ((with_reducible refine gate_dst (N := 6) rfl ?_); (try (refine gate_guard (by rfl) ?_; dsimp only)); refine box_event ?hg (N := 6) ?hd (cs := #[.int .i64 0, .int .i64 0, .int .i64 0, .int .i64 0]) (t := 25) ?hr ?_; (case hd => rfl); (case hg => rfl); (case hr => first | (go_simp; done) | (go_simp; rfl)); intro gb208 hg w56 hbox hb; have n0_ := zBB BK204 hb; have n1_ := Aside0.mk (below_step (zH1 HB.out GE204.out) hb); have n2_ := Aside0.mk (hbox); have n3_ := Aside0.mk (zg hg (below_size (zH1 HB.out GE204.out)) : w.heap.size ≤ gb208); have n4_ := Aside0.mk (zg hg (below_size (zH1 HB.out GE204.out)) : w.heap.size ≤ gb208); have n5_ := Aside0.mk (zN hg BK204 : gb204 ≠ gb208); have n6_ := Aside0.mk (zO hg BK204 : gb208 ≠ gb204); clear BK204; clear HB; have BK204 := n0_; have HB := n1_; have BK208 := n2_; have GW208 := n3_; have GE208 := n4_; have NB204_208 := n5_; have NB208_204 := n6_; clear n0_ n1_ n2_ n3_ n4_ n5_ n6_; clear hb hbox hg; have hnb57 := NB208_204.out; have hnc57 := NB204_208.out; have hcz58_0 : w56.cell? ⟨gb208, 0, none⟩ = some (.int .i64 0) := (blk_cell BK208.out 0).trans rfl; have hcz58_1 : w56.cell? ⟨gb208, 1, none⟩ = some (.int .i64 0) := (blk_cell BK208.out 1).trans rfl; have hcz58_2 : w56.cell? ⟨gb208, 2, none⟩ = some (.int .i64 0) := (blk_cell BK208.out 2).trans rfl; have hcz58_3 : w56.cell? ⟨gb208, 3, none⟩ = some (.int .i64 0) := (blk_cell BK208.out 3).trans rfl; have hfz58_0 := blk_frozen BK208.out 0; have hfz58_1 := blk_frozen BK208.out 1; have hfz58_2 := blk_frozen BK208.out 2; have hfz58_3 := blk_frozen BK208.out 3))
                 go_roundg k4
                 case measure => have := HJ1.out; have := HJ11.out; have := HK3.out; have := HK4.out; omega
                 case rel => exact ⟨(false), (wrap64 (x5_4 + 1)), zS, zS, H', ⟨by have := HJ1.out; have := HJ11.out; have := HK3.out; have := HK4.out; omega⟩, ⟨by (with_reducible repeat (first | refine blk_drewN ?_ _ | refine blk_drew ?_ | refine blk_alloc ?_ _ | refine blk_far ?_ NB204_208.out _)); exact BK204.out⟩, ⟨zH2 HB.out GE204.out GE208.out⟩⟩
               ·
                rw [if_neg c28] at H; have c28b0 : decide (((rd_T25 l0_0 x5_4).f0) ≤ 1000) = false := decide_eq_false c28; clear c28; have H' := Aside0.mk H; clear H; have hcz59_0 : wr.cell? ⟨gb204, 0, none⟩ = some (.slice A0_0 l0_0.length c0_0) := (blk_cell BK204.out 0).trans rfl; have hcz59_1 : wr.cell? ⟨gb204, 1, none⟩ = some (.slice A0_1 l0_1.length c0_1) := (blk_cell BK204.out 1).trans rfl; have hcz59_2 : wr.cell? ⟨gb204, 2, none⟩ = some (.int .i64 a0_2) := (blk_cell BK204.out 2).trans rfl; have hfz59_0 := blk_frozen BK204.out 0; have hfz59_1 := blk_frozen BK204.out 1; have hfz59_2 := blk_frozen BK204.out 2; have p207 : 0 ≤ (x5_4 : Int) := of_decide_eq_true zA; have q207 : x5_4 < (l0_0.length : Int) := of_decide_eq_true zA; obtain ⟨ad207, e207, hx207_0, hx207_1, hx207_2, hx207_3⟩ := at_T25 HR0_0.out x5_4 p207 q207
                cases e207
                replace hx207_0 := (HB.out.cell (World.block_lt_of_cell? w _ hx207_0)).trans hx207_0; replace hx207_1 := (HB.out.cell (World.block_lt_of_cell? w _ hx207_1)).trans hx207_1; replace hx207_2 := (HB.out.cell (World.block_lt_of_cell? w _ hx207_2)).trans hx207_2; replace hx207_3 := (HB.out.cell (World.block_lt_of_cell? w _ hx207_3)).trans hx207_3; replace p207 := eq_true p207; replace q207 := eq_true q207
                go_wp2_with (first | ((with_reducible refine gate_dst (N := 6) rfl ?_); (try (refine gate_guard (by rfl) ?_; dsimp only)); refine box_event ?hg (N := 6) ?hd (cs := #[.int .i64 0, .int .i64 0, .int .i64 0, .int .i64 0]) (t := 25) ?hr ?_; (case hd => rfl); (case hg => rfl); (case hr => first | (go_simp; done) | (go_simp; rfl)); intro gb208 hg w60 hbox hb; have n0_ := zBB BK204 hb; have n1_ := Aside0.mk (below_step (zH1 HB.out GE204.out) hb); have n2_ := Aside0.mk (hbox); have n3_ := Aside0.mk (zg hg (below_size (zH1 HB.out GE204.out)) : w.heap.size ≤ gb208); have n4_ := Aside0.mk (zg hg (below_size (zH1 HB.out GE204.out)) : w.heap.size ≤ gb208); have n5_ := Aside0.mk (zN hg BK204 : gb204 ≠ gb208); have n6_ := Aside0.mk (zO hg BK204 : gb208 ≠ gb204); clear BK204; clear HB; have BK204 := n0_; have HB := n1_; have BK208 := n2_; have GW208 := n3_; have GE208 := n4_; have NB204_208 := n5_; have NB208_204 := n6_; clear n0_ n1_ n2_ n3_ n4_ n5_ n6_; clear hb hbox hg; have hnb61 := NB208_204.out; have hnc61 := NB204_208.out; have hcz62_0 : w60.cell? ⟨gb208, 0, none⟩ = some (.int .i64 0) := (blk_cell BK208.out 0).trans rfl; have hcz62_1 : w60.cell? ⟨gb208, 1, none⟩ = some (.int .i64 0) := (blk_cell BK208.out 1).trans rfl; have hcz62_2 : w60.cell? ⟨gb208, 2, none⟩ = some (.int .i64 0) := (blk_cell BK208.out 2).trans rfl; have hcz62_3 : w60.cell? ⟨gb208, 3, none⟩ = some (.int .i64 0) := (blk_cell BK208.out 3).trans rfl; have hfz62_0 := blk_frozen BK208.out 0; have hfz62_1 := blk_frozen BK208.out 1; have hfz62_2 := blk_frozen BK208.out 2; have hfz62_3 := blk_frozen BK208.out 3))
                go_roundg k4
                case measure => have := HJ1.out; have := HJ11.out; have := HK3.out; have := HK4.out; omega
                case rel => exact ⟨(false), (wrap64 (x5_4 + 1)), zS, zS, H', ⟨by have := HJ1.out; have := HJ11.out; have := HK3.out; have := HK4.out; omega⟩, ⟨by (with_reducible repeat (first | refine blk_drewN ?_ _ | refine blk_drew ?_ | refine blk_alloc ?_ _ | refine blk_far ?_ NB204_208.out _)); exact BK204.out⟩, ⟨zH2 HB.out GE204.out GE208.out⟩⟩
              ·
               rw [if_neg c27] at H; have c27b0 : decide (0 ≤ ((rd_T25 l0_0 x5_4).f0)) = false := decide_eq_false c27; clear c27; have H' := Aside0.mk H; clear H; have hcz63_0 : wr.cell? ⟨gb204, 0, none⟩ = some (.slice A0_0 l0_0.length c0_0) := (blk_cell BK204.out 0).trans rfl; have hcz63_1 : wr.cell? ⟨gb204, 1, none⟩ = some (.slice A0_1 l0_1.length c0_1) := (blk_cell BK204.out 1).trans rfl; have hcz63_2 : wr.cell? ⟨gb204, 2, none⟩ = some (.int .i64 a0_2) := (blk_cell BK204.out 2).trans rfl; have hfz63_0 := blk_frozen BK204.out 0; have hfz63_1 := blk_frozen BK204.out 1; have hfz63_2 := blk_frozen BK204.out 2; have p207 : 0 ≤ (x5_4 : Int) := of_decide_eq_true zA; have q207 : x5_4 < (l0_0.length : Int) := of_decide_eq_true zA; obtain ⟨ad207, e207, hx207_0, hx207_1, hx207_2, hx207_3⟩ := at_T25 HR0_0.out x5_4 p207 q207
               cases e207
               replace hx207_0 := (HB.out.cell (World.block_lt_of_cell? w _ hx207_0)).trans hx207_0; replace hx207_1 := (HB.out.cell (World.block_lt_of_cell? w _ hx207_1)).trans hx207_1; replace hx207_2 := (HB.out.cell (World.block_lt_of_cell? w _ hx207_2)).trans hx207_2; replace hx207_3 := (HB.out.cell (World.block_lt_of_cell? w _ hx207_3)).trans hx207_3; replace p207 := eq_true p207; replace q207 := eq_true q207
               go_wp2_with (first | ((with_reducible refine gate_dst (N := 6) rfl ?_); (try (refine gate_guard (by rfl) ?_; dsimp only)); refine box_event ?hg (N := 6) ?hd (cs := #[.int .i64 0, .int .i64 0, .int .i64 0, .int .i64 0]) (t := 25) ?hr ?_; (case hd => rfl); (case hg => rfl); (case hr => first | (go_simp; done) | (go_simp; rfl)); intro gb208 hg w64 hbox hb; have n0_ := zBB BK204 hb; have n1_ := Aside0.mk (below_step (zH1 HB.out GE204.out) hb); have n2_ := Aside0.mk (hbox); have n3_ := Aside0.mk (zg hg (below_size (zH1 HB.out GE204.out)) : w.heap.size ≤ gb208); have n4_ := Aside0.mk (zg hg (below_size (zH1 HB.out GE204.out)) : w.heap.size ≤ gb208); have n5_ := Aside0.mk (zN hg BK204 : gb204 ≠ gb208); have n6_ := Aside0.mk (zO hg BK204 : gb208 ≠ gb204); clear BK204; clear HB; have BK204 := n0_; have HB := n1_; have BK208 := n2_; have GW208 := n3_; have GE208 := n4_; have NB204_208 := n5_; have NB208_204 := n6_; clear n0_ n1_ n2_ n3_ n4_ n5_ n6_; clear hb hbox hg; have hnb65 := NB208_204.out; have hnc65 := NB204_208.out; have hcz66_0 : w64.cell? ⟨gb208, 0, none⟩ = some (.int .i64 0) := (blk_cell BK208.out 0).trans rfl; have hcz66_1 : w64.cell? ⟨gb208, 1, none⟩ = some (.int .i64 0) := (blk_cell BK208.out 1).trans rfl; have hcz66_2 : w64.cell? ⟨gb208, 2, none⟩ = some (.int .i64 0) := (blk_cell BK208.out 2).trans rfl; have hcz66_3 : w64.cell? ⟨gb208, 3, none⟩ = some (.int .i64 0) := (blk_cell BK208.out 3).trans rfl; have hfz66_0 := blk_frozen BK208.out 0; have hfz66_1 := blk_frozen BK208.out 1; have hfz66_2 := blk_frozen BK208.out 2; have hfz66_3 := blk_frozen BK208.out 3))
               go_roundg k4
               case measure => have := HJ1.out; have := HJ11.out; have := HK3.out; have := HK4.out; omega
               case rel => exact ⟨(false), (wrap64 (x5_4 + 1)), zS, zS, H', ⟨by have := HJ1.out; have := HJ11.out; have := HK3.out; have := HK4.out; omega⟩, ⟨by (with_reducible repeat (first | refine blk_drewN ?_ _ | refine blk_drew ?_ | refine blk_alloc ?_ _ | refine blk_far ?_ NB204_208.out _)); exact BK204.out⟩, ⟨zH2 HB.out GE204.out GE208.out⟩⟩
             ·
              replace c26 := Bool.eq_false_iff.mpr c26; subst c26; have H1 : (pledgeref18_Valid.l1 k4 false (wrap64 (x5_4 + 1)) l0_0 l0_1 a0_2) = some r := by rw [if_neg (show ¬ (false = true) by decide)] at H; exact H
              clear H; have H := H1; clear H1; have H' := Aside0.mk H; clear H; have hcz67_0 : wr.cell? ⟨gb204, 0, none⟩ = some (.slice A0_0 l0_0.length c0_0) := (blk_cell BK204.out 0).trans rfl; have hcz67_1 : wr.cell? ⟨gb204, 1, none⟩ = some (.slice A0_1 l0_1.length c0_1) := (blk_cell BK204.out 1).trans rfl; have hcz67_2 : wr.cell? ⟨gb204, 2, none⟩ = some (.int .i64 a0_2) := (blk_cell BK204.out 2).trans rfl; have hfz67_0 := blk_frozen BK204.out 0; have hfz67_1 := blk_frozen BK204.out 1; have hfz67_2 := blk_frozen BK204.out 2; have p207 : 0 ≤ (x5_4 : Int) := of_decide_eq_true zA; have q207 : x5_4 < (l0_0.length : Int) := of_decide_eq_true zA; obtain ⟨ad207, e207, hx207_0, hx207_1, hx207_2, hx207_3⟩ := at_T25 HR0_0.out x5_4 p207 q207
              cases e207
              replace hx207_0 := (HB.out.cell (World.block_lt_of_cell? w _ hx207_0)).trans hx207_0; replace hx207_1 := (HB.out.cell (World.block_lt_of_cell? w _ hx207_1)).trans hx207_1; replace hx207_2 := (HB.out.cell (World.block_lt_of_cell? w _ hx207_2)).trans hx207_2; replace hx207_3 := (HB.out.cell (World.block_lt_of_cell? w _ hx207_3)).trans hx207_3; replace p207 := eq_true p207; replace q207 := eq_true q207
              go_wp2_with (first | ((with_reducible refine gate_dst (N := 6) rfl ?_); (try (refine gate_guard (by rfl) ?_; dsimp only)); refine box_event ?hg (N := 6) ?hd (cs := #[.int .i64 0, .int .i64 0, .int .i64 0, .int .i64 0]) (t := 25) ?hr ?_; (case hd => rfl); (case hg => rfl); (case hr => first | (go_simp; done) | (go_simp; rfl)); intro gb208 hg w68 hbox hb; have n0_ := zBB BK204 hb; have n1_ := Aside0.mk (below_step (zH1 HB.out GE204.out) hb); have n2_ := Aside0.mk (hbox); have n3_ := Aside0.mk (zg hg (below_size (zH1 HB.out GE204.out)) : w.heap.size ≤ gb208); have n4_ := Aside0.mk (zg hg (below_size (zH1 HB.out GE204.out)) : w.heap.size ≤ gb208); have n5_ := Aside0.mk (zN hg BK204 : gb204 ≠ gb208); have n6_ := Aside0.mk (zO hg BK204 : gb208 ≠ gb204); clear BK204; clear HB; have BK204 := n0_; have HB := n1_; have BK208 := n2_; have GW208 := n3_; have GE208 := n4_; have NB204_208 := n5_; have NB208_204 := n6_; clear n0_ n1_ n2_ n3_ n4_ n5_ n6_; clear hb hbox hg; have hnb69 := NB208_204.out; have hnc69 := NB204_208.out; have hcz70_0 : w68.cell? ⟨gb208, 0, none⟩ = some (.int .i64 0) := (blk_cell BK208.out 0).trans rfl; have hcz70_1 : w68.cell? ⟨gb208, 1, none⟩ = some (.int .i64 0) := (blk_cell BK208.out 1).trans rfl; have hcz70_2 : w68.cell? ⟨gb208, 2, none⟩ = some (.int .i64 0) := (blk_cell BK208.out 2).trans rfl; have hcz70_3 : w68.cell? ⟨gb208, 3, none⟩ = some (.int .i64 0) := (blk_cell BK208.out 3).trans rfl; have hfz70_0 := blk_frozen BK208.out 0; have hfz70_1 := blk_frozen BK208.out 1; have hfz70_2 := blk_frozen BK208.out 2; have hfz70_3 := blk_frozen BK208.out 3))
              go_roundg k4
              case measure => have := HJ1.out; have := HJ11.out; have := HK3.out; have := HK4.out; omega
              case rel => exact ⟨(false), (wrap64 (x5_4 + 1)), zS, zS, H', ⟨by have := HJ1.out; have := HJ11.out; have := HK3.out; have := HK4.out; omega⟩, ⟨by (with_reducible repeat (first | refine blk_drewN ?_ _ | refine blk_drew ?_ | refine blk_alloc ?_ _ | refine blk_far ?_ NB204_208.out _)); exact BK204.out⟩, ⟨zH2 HB.out GE204.out GE208.out⟩⟩
            ·
             rw [if_neg c25] at H; exact absurd H (by simp)
           ·
            rw [if_neg c24] at H; have c24b0 : decide (x5_4 < (l0_0.length : Int)) = false := decide_eq_false c24; clear c24; by_cases c71 : x3_4 = true
            ·
             subst c71; have H1 : (some 0) = some r := by rw [if_pos rfl] at H; exact H
             clear H; have H := H1; clear H1; obtain rfl := Option.some.inj H; have hcz72_0 : wr.cell? ⟨gb204, 0, none⟩ = some (.slice A0_0 l0_0.length c0_0) := (blk_cell BK204.out 0).trans rfl; have hcz72_1 : wr.cell? ⟨gb204, 1, none⟩ = some (.slice A0_1 l0_1.length c0_1) := (blk_cell BK204.out 1).trans rfl; have hcz72_2 : wr.cell? ⟨gb204, 2, none⟩ = some (.int .i64 a0_2) := (blk_cell BK204.out 2).trans rfl; have hfz72_0 := blk_frozen BK204.out 0; have hfz72_1 := blk_frozen BK204.out 1; have hfz72_2 := blk_frozen BK204.out 2
             go_wp2
             go_ret
             exact ⟨zE, zH1 HB.out GE204.out⟩
            ·
             replace c71 := Bool.eq_false_iff.mpr c71; subst c71; have H1 : (some 103) = some r := by rw [if_neg (show ¬ (false = true) by decide)] at H; exact H
             clear H; have H := H1; clear H1; obtain rfl := Option.some.inj H; have hcz73_0 : wr.cell? ⟨gb204, 0, none⟩ = some (.slice A0_0 l0_0.length c0_0) := (blk_cell BK204.out 0).trans rfl; have hcz73_1 : wr.cell? ⟨gb204, 1, none⟩ = some (.slice A0_1 l0_1.length c0_1) := (blk_cell BK204.out 1).trans rfl; have hcz73_2 : wr.cell? ⟨gb204, 2, none⟩ = some (.int .i64 a0_2) := (blk_cell BK204.out 2).trans rfl; have hfz73_0 := blk_frozen BK204.out 0; have hfz73_1 := blk_frozen BK204.out 1; have hfz73_2 := blk_frozen BK204.out 2
             go_wp2
             go_ret
             exact ⟨zE, zH1 HB.out GE204.out⟩

end Go.Proofs.YtlalofmilhakjaaDoor.ELotsSay
