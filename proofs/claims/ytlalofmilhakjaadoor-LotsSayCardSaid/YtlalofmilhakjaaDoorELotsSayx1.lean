/- The functions that the law comes to, as plain functions, and for each a proof that the Go code comes to just these answers. Written by a program of this claim. Conditions: each theorem bears its own. -/
import Derived.Test.YtlalofmilhakjaaDoorELotsSayx0
namespace Go.Proofs.YtlalofmilhakjaaDoor.ELotsSay
open Go.RowKit Go.Proofs.YtlalofmilhakjaaDoorW.PrintWords Go.Proofs.YtlalofmilhakjaaDoorW.PrintLast Go.Proofs.YtlalofmilhakjaaDoorW.PrintMore Go.Proofs.YtlalofmilhakjaaDoorW.PrintOpen
attribute [local go_sem] max2_int min2_int max_two min_two max_three min_three max_four min_four   -- for this text's walks alone
set_option linter.unusedVariables false
set_option linter.unusedSimpArgs false

/-! ### lots_within: function 34 -/
def lots_within.f (a0 : Int) (a1 : Int) : Option (Bool) := if a0 ≥ 0 then (some (decide (a0 ≤ a1))) else (some false)
set_option maxHeartbeats 8000000 in
set_option maxRecDepth 100000 in
theorem lots_within.calls [Inhabited (Int → Addr)] (a0 : Int) (a1 : Int) (r : Bool) (w : World) (h : lots_within.f a0 a1 = some r) :
    Calls Tryd.prog 34 #[.int .i64 a0, .int .i64 a1] w fun e w' => e = .returned (.bool r) ∧ Drawn0 w w' := by
  have H : (if a0 ≥ 0 then (some (decide (a0 ≤ a1))) else (some false)) = some r := h; clear h; by_cases c3 : a0 ≥ 0
  · rw [if_pos c3] at H
    have c3b0 : decide (0 ≤ a0) = true := decide_eq_true c3; clear c3; obtain rfl := Option.some.inj H
    go_enter Tryd.func34, Tryd.ntmps34
    go_wp2
    go_ret
    exact ⟨zF, zD⟩
  · rw [if_neg c3] at H
    have c3b0 : decide (0 ≤ a0) = false := decide_eq_false c3; clear c3; obtain rfl := Option.some.inj H
    go_enter Tryd.func34, Tryd.ntmps34
    go_wp2
    go_ret
    exact ⟨zF, zD⟩

/-! ### lots_lot: function 31 -/
def lots_lot.f (a0_0 : Int) (a0_1 : Int) (a0_2 : Int) (a0_3 : Int) (a1 : Int) : Option (Bool) := if a0_0 ≥ 0 then (if a0_0 ≤ 1000 then ((lots_within.f a0_1 1000000000).bind fun t102 => (if t102 = true then ((lots_within.f a0_2 1000000000).bind fun t103 => (if t103 = true then (if a0_3 ≥ 0 then (some (decide (a0_3 < a1))) else (some false)) else (some false))) else (some false))) else (some false)) else (some false)
set_option maxHeartbeats 8000000 in
set_option maxRecDepth 100000 in
theorem lots_lot.calls [Inhabited (Int → Addr)] (a0_0 : Int) (a0_1 : Int) (a0_2 : Int) (a0_3 : Int) (a1 : Int) (r : Bool) (w : World) (h : lots_lot.f a0_0 a0_1 a0_2 a0_3 a1 = some r) :
  Calls Tryd.prog 31 #[.agg #[.int .i64 a0_0, .int .i64 a0_1, .int .i64 a0_2, .int .i64 a0_3], .int .i64 a1] w fun e w' => e = .returned (.bool r) ∧ Below w.heap.size w w' := by
 have hu25 := Tryd.underlying25; have HB := Aside0.mk (Below.refl w.heap.size w); have H : (if a0_0 ≥ 0 then (if a0_0 ≤ 1000 then ((lots_within.f a0_1 1000000000).bind fun t102 => (if t102 = true then ((lots_within.f a0_2 1000000000).bind fun t103 => (if t103 = true then (if a0_3 ≥ 0 then (some (decide (a0_3 < a1))) else (some false)) else (some false))) else (some false))) else (some false)) else (some false)) = some r := h; clear h; by_cases c3 : a0_0 ≥ 0
 ·
  rw [if_pos c3] at H; have c3b0 : decide (0 ≤ a0_0) = true := decide_eq_true c3; clear c3; by_cases c4 : a0_0 ≤ 1000
  ·
   rw [if_pos c4] at H; have c4b0 : decide (a0_0 ≤ 1000) = true := decide_eq_true c4; clear c4; replace H := Option.bind_eq_some_iff.mp H; obtain ⟨t102, A50, H⟩ := H; replace H : (if t102 = true then ((lots_within.f a0_2 1000000000).bind fun t103 => (if t103 = true then (if a0_3 ≥ 0 then (some (decide (a0_3 < a1))) else (some false)) else (some false))) else (some false)) = some r := H; have A5 := Aside0.mk A50; clear A50; by_cases c6 : t102 = true
   ·
    subst c6; have H1 : ((lots_within.f a0_2 1000000000).bind fun t103 => (if t103 = true then (if a0_3 ≥ 0 then (some (decide (a0_3 < a1))) else (some false)) else (some false))) = some r := by rw [if_pos rfl] at H; exact H
    clear H; have H := H1; clear H1; replace H := Option.bind_eq_some_iff.mp H; obtain ⟨t103, A70, H⟩ := H; replace H : (if t103 = true then (if a0_3 ≥ 0 then (some (decide (a0_3 < a1))) else (some false)) else (some false)) = some r := H; have A7 := Aside0.mk A70; clear A70; by_cases c8 : t103 = true
    ·
     subst c8; have H1 : (if a0_3 ≥ 0 then (some (decide (a0_3 < a1))) else (some false)) = some r := by rw [if_pos rfl] at H; exact H
     clear H; have H := H1; clear H1; by_cases c9 : a0_3 ≥ 0
     ·
      rw [if_pos c9] at H; have c9b0 : decide (0 ≤ a0_3) = true := decide_eq_true c9; clear c9; obtain rfl := Option.some.inj H
      go_enter Tryd.func31, Tryd.ntmps31
      go_wp2_with (first | ((with_reducible refine gate_dst (N := 2) rfl ?_); refine box_event ?hg (N := 2) ?hd (cs := #[.int .i64 a0_0, .int .i64 a0_1, .int .i64 a0_2, .int .i64 a0_3]) (t := 25) ?hr ?_; (case hd => rfl); (case hg => rfl); (case hr => first | (go_simp; done) | (go_simp; rfl)); intro gb101 hg w10 hbox hb; have n0_ := Aside0.mk (below_step (zH HB.out) hb); have n1_ := Aside0.mk (hbox); have n2_ := Aside0.mk (zg hg (below_size (zH HB.out)) : w.heap.size ≤ gb101); have n3_ := Aside0.mk (zg hg (below_size (zH HB.out)) : w.heap.size ≤ gb101); clear HB; have HB := n0_; have BK101 := n1_; have GW101 := n2_; have GE101 := n3_; clear n0_ n1_ n2_ n3_; clear hb hbox hg; have hcz11_0 : w10.cell? ⟨gb101, 0, none⟩ = some (.int .i64 a0_0) := (blk_cell BK101.out 0).trans rfl; have hcz11_1 : w10.cell? ⟨gb101, 1, none⟩ = some (.int .i64 a0_1) := (blk_cell BK101.out 1).trans rfl; have hcz11_2 : w10.cell? ⟨gb101, 2, none⟩ = some (.int .i64 a0_2) := (blk_cell BK101.out 2).trans rfl; have hcz11_3 : w10.cell? ⟨gb101, 3, none⟩ = some (.int .i64 a0_3) := (blk_cell BK101.out 3).trans rfl; have hfz11_0 := blk_frozen BK101.out 0; have hfz11_1 := blk_frozen BK101.out 1; have hfz11_2 := blk_frozen BK101.out 2; have hfz11_3 := blk_frozen BK101.out 3) | (go_at_call 34; (with_reducible refine (lots_within.calls a0_1 1000000000 true _ A5.out).mono ?_); rintro e w' ⟨rfl, ⟨nd, rfl⟩⟩) | (go_at_call 34; (with_reducible refine (lots_within.calls a0_2 1000000000 true _ A7.out).mono ?_); rintro e w' ⟨rfl, ⟨nd, rfl⟩⟩))
      go_ret
      exact ⟨zE, zH1 HB.out GE101.out⟩
     ·
      rw [if_neg c9] at H; have c9b0 : decide (0 ≤ a0_3) = false := decide_eq_false c9; clear c9; obtain rfl := Option.some.inj H
      go_enter Tryd.func31, Tryd.ntmps31
      go_wp2_with (first | ((with_reducible refine gate_dst (N := 2) rfl ?_); refine box_event ?hg (N := 2) ?hd (cs := #[.int .i64 a0_0, .int .i64 a0_1, .int .i64 a0_2, .int .i64 a0_3]) (t := 25) ?hr ?_; (case hd => rfl); (case hg => rfl); (case hr => first | (go_simp; done) | (go_simp; rfl)); intro gb101 hg w12 hbox hb; have n0_ := Aside0.mk (below_step (zH HB.out) hb); have n1_ := Aside0.mk (hbox); have n2_ := Aside0.mk (zg hg (below_size (zH HB.out)) : w.heap.size ≤ gb101); have n3_ := Aside0.mk (zg hg (below_size (zH HB.out)) : w.heap.size ≤ gb101); clear HB; have HB := n0_; have BK101 := n1_; have GW101 := n2_; have GE101 := n3_; clear n0_ n1_ n2_ n3_; clear hb hbox hg; have hcz13_0 : w12.cell? ⟨gb101, 0, none⟩ = some (.int .i64 a0_0) := (blk_cell BK101.out 0).trans rfl; have hcz13_1 : w12.cell? ⟨gb101, 1, none⟩ = some (.int .i64 a0_1) := (blk_cell BK101.out 1).trans rfl; have hcz13_2 : w12.cell? ⟨gb101, 2, none⟩ = some (.int .i64 a0_2) := (blk_cell BK101.out 2).trans rfl; have hcz13_3 : w12.cell? ⟨gb101, 3, none⟩ = some (.int .i64 a0_3) := (blk_cell BK101.out 3).trans rfl; have hfz13_0 := blk_frozen BK101.out 0; have hfz13_1 := blk_frozen BK101.out 1; have hfz13_2 := blk_frozen BK101.out 2; have hfz13_3 := blk_frozen BK101.out 3) | (go_at_call 34; (with_reducible refine (lots_within.calls a0_1 1000000000 true _ A5.out).mono ?_); rintro e w' ⟨rfl, ⟨nd, rfl⟩⟩) | (go_at_call 34; (with_reducible refine (lots_within.calls a0_2 1000000000 true _ A7.out).mono ?_); rintro e w' ⟨rfl, ⟨nd, rfl⟩⟩))
      go_ret
      exact ⟨zE, zH1 HB.out GE101.out⟩
    ·
     replace c8 := Bool.eq_false_iff.mpr c8; subst c8; have H1 : (some false) = some r := by rw [if_neg (show ¬ (false = true) by decide)] at H; exact H
     clear H; have H := H1; clear H1; obtain rfl := Option.some.inj H
     go_enter Tryd.func31, Tryd.ntmps31
     go_wp2_with (first | ((with_reducible refine gate_dst (N := 2) rfl ?_); refine box_event ?hg (N := 2) ?hd (cs := #[.int .i64 a0_0, .int .i64 a0_1, .int .i64 a0_2, .int .i64 a0_3]) (t := 25) ?hr ?_; (case hd => rfl); (case hg => rfl); (case hr => first | (go_simp; done) | (go_simp; rfl)); intro gb101 hg w14 hbox hb; have n0_ := Aside0.mk (below_step (zH HB.out) hb); have n1_ := Aside0.mk (hbox); have n2_ := Aside0.mk (zg hg (below_size (zH HB.out)) : w.heap.size ≤ gb101); have n3_ := Aside0.mk (zg hg (below_size (zH HB.out)) : w.heap.size ≤ gb101); clear HB; have HB := n0_; have BK101 := n1_; have GW101 := n2_; have GE101 := n3_; clear n0_ n1_ n2_ n3_; clear hb hbox hg; have hcz15_0 : w14.cell? ⟨gb101, 0, none⟩ = some (.int .i64 a0_0) := (blk_cell BK101.out 0).trans rfl; have hcz15_1 : w14.cell? ⟨gb101, 1, none⟩ = some (.int .i64 a0_1) := (blk_cell BK101.out 1).trans rfl; have hcz15_2 : w14.cell? ⟨gb101, 2, none⟩ = some (.int .i64 a0_2) := (blk_cell BK101.out 2).trans rfl; have hcz15_3 : w14.cell? ⟨gb101, 3, none⟩ = some (.int .i64 a0_3) := (blk_cell BK101.out 3).trans rfl; have hfz15_0 := blk_frozen BK101.out 0; have hfz15_1 := blk_frozen BK101.out 1; have hfz15_2 := blk_frozen BK101.out 2; have hfz15_3 := blk_frozen BK101.out 3) | (go_at_call 34; (with_reducible refine (lots_within.calls a0_1 1000000000 true _ A5.out).mono ?_); rintro e w' ⟨rfl, ⟨nd, rfl⟩⟩) | (go_at_call 34; (with_reducible refine (lots_within.calls a0_2 1000000000 false _ A7.out).mono ?_); rintro e w' ⟨rfl, ⟨nd, rfl⟩⟩))
     go_ret
     exact ⟨zE, zH1 HB.out GE101.out⟩
   ·
    replace c6 := Bool.eq_false_iff.mpr c6; subst c6; have H1 : (some false) = some r := by rw [if_neg (show ¬ (false = true) by decide)] at H; exact H
    clear H; have H := H1; clear H1; obtain rfl := Option.some.inj H
    go_enter Tryd.func31, Tryd.ntmps31
    go_wp2_with (first | ((with_reducible refine gate_dst (N := 2) rfl ?_); refine box_event ?hg (N := 2) ?hd (cs := #[.int .i64 a0_0, .int .i64 a0_1, .int .i64 a0_2, .int .i64 a0_3]) (t := 25) ?hr ?_; (case hd => rfl); (case hg => rfl); (case hr => first | (go_simp; done) | (go_simp; rfl)); intro gb101 hg w16 hbox hb; have n0_ := Aside0.mk (below_step (zH HB.out) hb); have n1_ := Aside0.mk (hbox); have n2_ := Aside0.mk (zg hg (below_size (zH HB.out)) : w.heap.size ≤ gb101); have n3_ := Aside0.mk (zg hg (below_size (zH HB.out)) : w.heap.size ≤ gb101); clear HB; have HB := n0_; have BK101 := n1_; have GW101 := n2_; have GE101 := n3_; clear n0_ n1_ n2_ n3_; clear hb hbox hg; have hcz17_0 : w16.cell? ⟨gb101, 0, none⟩ = some (.int .i64 a0_0) := (blk_cell BK101.out 0).trans rfl; have hcz17_1 : w16.cell? ⟨gb101, 1, none⟩ = some (.int .i64 a0_1) := (blk_cell BK101.out 1).trans rfl; have hcz17_2 : w16.cell? ⟨gb101, 2, none⟩ = some (.int .i64 a0_2) := (blk_cell BK101.out 2).trans rfl; have hcz17_3 : w16.cell? ⟨gb101, 3, none⟩ = some (.int .i64 a0_3) := (blk_cell BK101.out 3).trans rfl; have hfz17_0 := blk_frozen BK101.out 0; have hfz17_1 := blk_frozen BK101.out 1; have hfz17_2 := blk_frozen BK101.out 2; have hfz17_3 := blk_frozen BK101.out 3) | (go_at_call 34; (with_reducible refine (lots_within.calls a0_1 1000000000 false _ A5.out).mono ?_); rintro e w' ⟨rfl, ⟨nd, rfl⟩⟩))
    go_ret
    exact ⟨zE, zH1 HB.out GE101.out⟩
  ·
   rw [if_neg c4] at H; have c4b0 : decide (a0_0 ≤ 1000) = false := decide_eq_false c4; clear c4; obtain rfl := Option.some.inj H
   go_enter Tryd.func31, Tryd.ntmps31
   go_wp2_with (first | ((with_reducible refine gate_dst (N := 2) rfl ?_); refine box_event ?hg (N := 2) ?hd (cs := #[.int .i64 a0_0, .int .i64 a0_1, .int .i64 a0_2, .int .i64 a0_3]) (t := 25) ?hr ?_; (case hd => rfl); (case hg => rfl); (case hr => first | (go_simp; done) | (go_simp; rfl)); intro gb101 hg w18 hbox hb; have n0_ := Aside0.mk (below_step (zH HB.out) hb); have n1_ := Aside0.mk (hbox); have n2_ := Aside0.mk (zg hg (below_size (zH HB.out)) : w.heap.size ≤ gb101); have n3_ := Aside0.mk (zg hg (below_size (zH HB.out)) : w.heap.size ≤ gb101); clear HB; have HB := n0_; have BK101 := n1_; have GW101 := n2_; have GE101 := n3_; clear n0_ n1_ n2_ n3_; clear hb hbox hg; have hcz19_0 : w18.cell? ⟨gb101, 0, none⟩ = some (.int .i64 a0_0) := (blk_cell BK101.out 0).trans rfl; have hcz19_1 : w18.cell? ⟨gb101, 1, none⟩ = some (.int .i64 a0_1) := (blk_cell BK101.out 1).trans rfl; have hcz19_2 : w18.cell? ⟨gb101, 2, none⟩ = some (.int .i64 a0_2) := (blk_cell BK101.out 2).trans rfl; have hcz19_3 : w18.cell? ⟨gb101, 3, none⟩ = some (.int .i64 a0_3) := (blk_cell BK101.out 3).trans rfl; have hfz19_0 := blk_frozen BK101.out 0; have hfz19_1 := blk_frozen BK101.out 1; have hfz19_2 := blk_frozen BK101.out 2; have hfz19_3 := blk_frozen BK101.out 3))
   go_ret
   exact ⟨zE, zH1 HB.out GE101.out⟩
 ·
  rw [if_neg c3] at H; have c3b0 : decide (0 ≤ a0_0) = false := decide_eq_false c3; clear c3; obtain rfl := Option.some.inj H
  go_enter Tryd.func31, Tryd.ntmps31
  go_wp2_with (first | ((with_reducible refine gate_dst (N := 2) rfl ?_); refine box_event ?hg (N := 2) ?hd (cs := #[.int .i64 a0_0, .int .i64 a0_1, .int .i64 a0_2, .int .i64 a0_3]) (t := 25) ?hr ?_; (case hd => rfl); (case hg => rfl); (case hr => first | (go_simp; done) | (go_simp; rfl)); intro gb101 hg w20 hbox hb; have n0_ := Aside0.mk (below_step (zH HB.out) hb); have n1_ := Aside0.mk (hbox); have n2_ := Aside0.mk (zg hg (below_size (zH HB.out)) : w.heap.size ≤ gb101); have n3_ := Aside0.mk (zg hg (below_size (zH HB.out)) : w.heap.size ≤ gb101); clear HB; have HB := n0_; have BK101 := n1_; have GW101 := n2_; have GE101 := n3_; clear n0_ n1_ n2_ n3_; clear hb hbox hg; have hcz21_0 : w20.cell? ⟨gb101, 0, none⟩ = some (.int .i64 a0_0) := (blk_cell BK101.out 0).trans rfl; have hcz21_1 : w20.cell? ⟨gb101, 1, none⟩ = some (.int .i64 a0_1) := (blk_cell BK101.out 1).trans rfl; have hcz21_2 : w20.cell? ⟨gb101, 2, none⟩ = some (.int .i64 a0_2) := (blk_cell BK101.out 2).trans rfl; have hcz21_3 : w20.cell? ⟨gb101, 3, none⟩ = some (.int .i64 a0_3) := (blk_cell BK101.out 3).trans rfl; have hfz21_0 := blk_frozen BK101.out 0; have hfz21_1 := blk_frozen BK101.out 1; have hfz21_2 := blk_frozen BK101.out 2; have hfz21_3 := blk_frozen BK101.out 3))
  go_ret
  exact ⟨zE, zH1 HB.out GE101.out⟩

/-! ### lots_Valid: function 12 -/
/-- A function value that answers p of each element, and leaves what was there. -/
def Answers {α : Type} (enc : α → Value) (p : α → Bool) (g : Nat) (cap : Array Value) (w : World) : Prop :=
 ∀ (x : α) (W : World), Below w.heap.size w W → Calls Tryd.prog g (#[enc x] ++ cap) W fun e w' => e = .returned (.bool (p x)) ∧ Below W.heap.size W w'
def fnd {α : Type} (p : α → Bool) (l : List α) (i : Nat) : Int := match (l.drop i).findIdx? p with
 | none => -1
 | some j => ((i + j : Nat) : Int)
theorem fnd_end {α : Type} (p : α → Bool) (l : List α) (i : Nat) (h : l.length ≤ i) : fnd p l i = -1 := by unfold fnd; rw [List.drop_eq_nil_of_le h]; rfl
theorem fnd_yes {α : Type} (p : α → Bool) (l : List α) (i : Nat) (h : i < l.length) (hp : p l[i] = true) : fnd p l i = (i : Int) := by
 unfold fnd; rw [List.drop_eq_getElem_cons h]; simp only [List.findIdx?_cons, hp]; simp
theorem fnd_no {α : Type} (p : α → Bool) (l : List α) (i : Nat) (h : i < l.length) (hp : p l[i] = false) : fnd p l i = fnd p l (i + 1) := by
 unfold fnd; rw [List.drop_eq_getElem_cons h]; simp only [List.findIdx?_cons, hp]
 cases (l.drop (i + 1)).findIdx? p with
 | none => simp
 | some j => simp; omega
theorem fnd_any {α : Type} (p : α → Bool) (l : List α) : decide (0 ≤ fnd p l 0) = l.any p := by
 unfold fnd; rw [List.drop_zero]
 cases h : l.findIdx? p with
 | none =>
  have := List.findIdx?_eq_none_iff.1 h; simp only [Int.reduceNeg, Int.reduceLE, decide_false]; exact (List.any_eq_false.2 (fun x hx => by simp [this x hx])).symm
 | some j =>
  obtain ⟨hj, hp, _⟩ := List.findIdx?_eq_some_iff_getElem.1 h; rw [decide_eq_true (show (0 : Int) ≤ ((0 + j : Nat) : Int) by omega)]; exact (List.any_eq_true.2 ⟨_, List.getElem_mem hj, hp⟩).symm
set_option maxHeartbeats 4000000 in
set_option maxRecDepth 100000 in
theorem idx_ints (l : List Int) (A : Option Addr) (c : Nat) (w : World) (hr : Kd.C (Kd.int .i64) w A l.length l) (p : Int → Bool) (g : Nat) (cap : Array Value) (hp : Answers (Value.int .i64) p g cap w) (heg : ∀ (args : Array Value) (W : World), (callFunc g args).run Tryd.prog W = .ok (.enter g args) W) :
  Calls Tryd.prog 46 #[.slice A l.length c, .func (.func g) #[] cap] w fun e w' => e = .returned (.int .i64 (fnd p l 0)) ∧ Below w.heap.size w w' := by
 have HR := Aside0.mk hr; have HP := Aside0.mk hp; have hlen := hr.2.1; clear hr hp
 go_enter Tryd.func46, Tryd.ntmps46
 go_wp2
 go_loopw [8] (fun i w' => ∃ k : Nat, k ≤ l.length ∧ i = .int .i64 k ∧ Aside0 (fnd p l 0 = fnd p l k) ∧ Aside0 (Below w.heap.size w w')) (fun i _ => l.length - (intOf i).toNat)
 case atStart => exact ⟨0, Nat.zero_le _, rfl, ⟨rfl⟩, ⟨Below.refl _ _⟩⟩
 case round =>
  obtain ⟨k, hk, rfl, HF, HB⟩ := hrel; have HC := Kd.C_below HR.out HB.out; by_cases hlt : k < l.length
  ·
   obtain ⟨ad, e, hx⟩ := Kd.at_int HC (k : Int) (by omega) (by omega); subst e; have hrd : rd l (k : Int) = l[k] := by unfold rd; rw [Int.toNat_natCast, List.getD_eq_getElem?_getD, List.getElem?_eq_getElem hlt]; rfl
   rw [hrd, Int.toNat_natCast] at hx; have HY := Aside0.mk (fnd_yes p l k hlt); have HN := Aside0.mk (fnd_no p l k hlt); clear hrd HC; have hb0 : decide (k < l.length) = true := decide_eq_true hlt; have hl1 : ((k : Int) < (l.length : Int)) = True := eq_true (by omega)
   cases hpx : p l[k]
   ·
    have HX := Aside0.mk hpx; clear hpx
    go_wp2_with (go_at_fn g; refine (HP.out l[k] _ HB.out).mono ?_; rintro e w2 ⟨rfl, hb⟩; rw [HX.out]; have HB2 := Aside0.mk (below_step HB.out hb); clear hb)
    go_roundw
    case rel => exact ⟨k + 1, by omega, by go_num, ⟨HF.out.trans (HN.out HX.out)⟩, HB2⟩
    case measure => simp [intOf]; omega
   ·
    have HX := Aside0.mk hpx; clear hpx
    go_wp2_with (go_at_fn g; refine (HP.out l[k] _ HB.out).mono ?_; rintro e w2 ⟨rfl, hb⟩; rw [HX.out]; have HB2 := Aside0.mk (below_step HB.out hb); clear hb)
    go_ret
    exact ⟨by rw [HF.out, HY.out HX.out]; rfl, HB2.out⟩
  ·
   have hb0 : decide (k < l.length) = false := decide_eq_false hlt; have hl1 : ¬ ((k : Int) < (l.length : Int)) := by omega
   have HE := Aside0.mk (fnd_end p l k (by omega)); clear HC
   go_wp2
   go_ret
   exact ⟨by rw [HF.out, HE.out]; rfl, HB.out⟩
def encL (x : S25) : Value := .agg #[.int .i64 x.f0, .int .i64 x.f1, .int .i64 x.f2, .int .i64 x.f3]
set_option maxHeartbeats 4000000 in
set_option maxRecDepth 100000 in
theorem idx_lots (l : List S25) (A : Option Addr) (c : Nat) (w : World) (hr : Kd.C k25 w A l.length l) (p : S25 → Bool) (g : Nat) (cap : Array Value) (hp : Answers encL p g cap w) (heg : ∀ (args : Array Value) (W : World), (callFunc g args).run Tryd.prog W = .ok (.enter g args) W) :
  Calls Tryd.prog 45 #[.slice A l.length c, .func (.func g) #[] cap] w fun e w' => e = .returned (.int .i64 (fnd p l 0)) ∧ Below w.heap.size w w' := by
 have HR := Aside0.mk hr; have HP := Aside0.mk hp; have hlen := hr.2.1; have hu25 := Tryd.underlying25; clear hr hp
 go_enter Tryd.func45, Tryd.ntmps45
 go_wp2
 go_loopw [8] (fun i w' => ∃ k : Nat, k ≤ l.length ∧ i = .int .i64 k ∧ Aside0 (fnd p l 0 = fnd p l k) ∧ Aside0 (Below w.heap.size w w')) (fun i _ => l.length - (intOf i).toNat)
 case atStart => exact ⟨0, Nat.zero_le _, rfl, ⟨rfl⟩, ⟨Below.refl _ _⟩⟩
 case round =>
  obtain ⟨k, hk, rfl, HF, HB⟩ := hrel; have HC := Kd.C_below HR.out HB.out; by_cases hlt : k < l.length
  ·
   obtain ⟨ad, e, hx0, hx1, hx2, hx3⟩ := at_T25 HC (k : Int) (by omega) (by omega); subst e; have hrd : rd_T25 l (k : Int) = l[k] := by unfold rd_T25; rw [Int.toNat_natCast, List.getD_eq_getElem?_getD, List.getElem?_eq_getElem hlt]; rfl
   rw [hrd, Int.toNat_natCast] at hx0 hx1 hx2 hx3; have HY := Aside0.mk (fnd_yes p l k hlt); have HN := Aside0.mk (fnd_no p l k hlt); have HP2 := Aside0.mk (fun W hb => HP.out l[k] W hb); simp only [encL] at HP2; clear hrd HC; have hb0 : decide (k < l.length) = true := decide_eq_true hlt; have hl1 : ((k : Int) < (l.length : Int)) = True := eq_true (by omega)
   cases hpx : p l[k]
   ·
    have HX := Aside0.mk hpx; clear hpx
    go_wp2_with (go_at_fn g; refine (HP2.out _ HB.out).mono ?_; rintro e w2 ⟨rfl, hb⟩; rw [HX.out]; have HB2 := Aside0.mk (below_step HB.out hb); clear hb)
    go_roundw
    case rel => exact ⟨k + 1, by omega, by go_num, ⟨HF.out.trans (HN.out HX.out)⟩, HB2⟩
    case measure => simp [intOf]; omega
   ·
    have HX := Aside0.mk hpx; clear hpx
    go_wp2_with (go_at_fn g; refine (HP2.out _ HB.out).mono ?_; rintro e w2 ⟨rfl, hb⟩; rw [HX.out]; have HB2 := Aside0.mk (below_step HB.out hb); clear hb)
    go_ret
    exact ⟨by rw [HF.out, HY.out HX.out]; rfl, HB2.out⟩
  ·
   have hb0 : decide (k < l.length) = false := decide_eq_false hlt; have hl1 : ¬ ((k : Int) < (l.length : Int)) := by omega
   have HE := Aside0.mk (fnd_end p l k (by omega)); clear HC
   go_wp2
   go_ret
   exact ⟨by rw [HF.out, HE.out]; rfl, HB.out⟩
set_option maxHeartbeats 4000000 in
theorem has_ints (l : List Int) (A : Option Addr) (c : Nat) (w : World) (hr : Kd.C (Kd.int .i64) w A l.length l) (p : Int → Bool) (g : Nat) (cap : Array Value) (hp : Answers (Value.int .i64) p g cap w) (heg : ∀ (args : Array Value) (W : World), (callFunc g args).run Tryd.prog W = .ok (.enter g args) W) :
  Calls Tryd.prog 32 #[.slice A l.length c, .func (.func g) #[] cap] w fun e w' => e = .returned (.bool (l.any p)) ∧ Below w.heap.size w w' := by
 have HI := Aside0.mk (idx_ints l A c w hr p g cap hp heg); have HA := Aside0.mk (fnd_any p l); clear hr hp heg
 go_enter Tryd.func32, Tryd.ntmps32
 go_wp2_with (go_at_call 46; refine HI.out.mono ?_; rintro e w2 ⟨rfl, hb⟩; have HB := Aside0.mk hb; clear hb)
 go_ret
 exact ⟨by rw [← HA.out]; rfl, HB.out⟩
set_option maxHeartbeats 4000000 in
theorem has_lots (l : List S25) (A : Option Addr) (c : Nat) (w : World) (hr : Kd.C k25 w A l.length l) (p : S25 → Bool) (g : Nat) (cap : Array Value) (hp : Answers encL p g cap w) (heg : ∀ (args : Array Value) (W : World), (callFunc g args).run Tryd.prog W = .ok (.enter g args) W) :
  Calls Tryd.prog 29 #[.slice A l.length c, .func (.func g) #[] cap] w fun e w' => e = .returned (.bool (l.any p)) ∧ Below w.heap.size w w' := by
 have HI := Aside0.mk (idx_lots l A c w hr p g cap hp heg); have HA := Aside0.mk (fnd_any p l); clear hr hp heg
 go_enter Tryd.func29, Tryd.ntmps29
 go_wp2_with (go_at_call 45; refine HI.out.mono ?_; rintro e w2 ⟨rfl, hb⟩; have HB := Aside0.mk hb; clear hb)
 go_ret
 exact ⟨by rw [← HA.out]; rfl, HB.out⟩
def inB (n m : Int) : Bool := decide (0 ≤ n ∧ n ≤ m)
theorem within_b (n m : Int) : lots_within.f n m = some (inB n m) := by
 unfold lots_within.f inB; by_cases h : n ≥ 0
 · rw [if_pos h]; exact congrArg some (decide_eq_decide.2 (by omega))
 · rw [if_neg h, decide_eq_false (by omega)]
def lotB (x : S25) (n : Int) : Bool := inB x.f0 1000 && inB x.f1 1000000000 && inB x.f2 1000000000 && decide (0 ≤ x.f3 ∧ x.f3 < n)
theorem lot_b (x : S25) (n : Int) : lots_lot.f x.f0 x.f1 x.f2 x.f3 n = some (lotB x n) := by
 unfold lots_lot.f lotB; simp only [within_b, Option.bind_some]; by_cases h0 : x.f0 ≥ 0
 ·
  rw [if_pos h0]; by_cases h1 : x.f0 ≤ 1000
  ·
   rw [if_pos h1, show inB x.f0 1000 = true from decide_eq_true ⟨h0, h1⟩]
   cases inB x.f1 1000000000
   · simp
   ·
    cases inB x.f2 1000000000
    · simp
    ·
     by_cases h3 : x.f3 ≥ 0
     · simp [h3]
     · simp [h3]
  · rw [if_neg h1, show inB x.f0 1000 = false from decide_eq_false (fun h => h1 h.2)]; simp
 · rw [if_neg h0, show inB x.f0 1000 = false from decide_eq_false (fun h => h0 h.1)]; simp
theorem enters30 : ∀ (args : Array Value) (W : World), (callFunc 30 args).run Tryd.prog W = .ok (.enter 30 args) W := by
 intro args W; have hf := Tryd.func30; have h1 : (Tryd.f30).name ≠ "runtime.NumGoroutine" := by decide
 have h2 : (Tryd.f30).body.isSome = true := by rfl
 obtain ⟨c, hc⟩ := Option.isSome_iff_exists.1 h2
 simp [callFunc, hf, h1, hc, mark]
theorem enters33 : ∀ (args : Array Value) (W : World), (callFunc 33 args).run Tryd.prog W = .ok (.enter 33 args) W := by
 intro args W; have hf := Tryd.func33; have h1 : (Tryd.f33).name ≠ "runtime.NumGoroutine" := by decide
 have h2 : (Tryd.f33).body.isSome = true := by rfl
 obtain ⟨c, hc⟩ := Option.isSome_iff_exists.1 h2
 simp [callFunc, hf, h1, hc, mark]
set_option maxHeartbeats 4000000 in
theorem caps_answers [Inhabited (Int → Addr)] (w : World) : Answers (Value.int .i64) (fun n => !inB n 1000000000000) 33 #[] w := by
 intro x W _; have HW := Aside0.mk (fun w => lots_within.calls x 1000000000000 (inB x 1000000000000) w (within_b x 1000000000000)); have HB := Aside0.mk (Below.refl W.heap.size W)
 go_enter Tryd.func33, Tryd.ntmps33
 go_wp2_with (go_at_call 34; refine (HW.out _).mono ?_; rintro e w2 ⟨rfl, hd⟩; have HB2 := Aside0.mk hd.below; clear hd)
 go_ret
 exact ⟨rfl, HB2.out⟩
set_option maxHeartbeats 4000000 in
theorem lots_answers [Inhabited (Int → Addr)] (w : World) (b : Nat) (A : Option Addr) (n c : Nat) (hx : w.cell? ⟨b, 1, none⟩ = some (.slice A n c)) : Answers encL (fun x => !lotB x n) 30 #[.pointer (some ⟨b, 0, none⟩)] w := by
 intro x W hb; have hx1 : W.cell? ⟨b, 1, none⟩ = some (.slice A n c) := (hb.cell (World.block_lt_of_cell? w _ hx)).trans hx; have hlt : b < W.heap.size := World.block_lt_of_cell? W _ hx1; have hne : b ≠ W.heap.size := Nat.ne_of_lt hlt; have HW := Aside0.mk (fun w => lots_lot.calls x.f0 x.f1 x.f2 x.f3 n (lotB x n) w (lot_b x n)); have hu25 := Tryd.underlying25; have hu29 := Tryd.underlying29; clear hb hx
 show Calls Tryd.prog 30 #[.agg #[.int .i64 x.f0, .int .i64 x.f1, .int .i64 x.f2, .int .i64 x.f3], .pointer (some ⟨b, 0, none⟩)] W _
 go_enter Tryd.func30, Tryd.ntmps30
 go_wp2_with (go_at_call 31; refine (HW.out _).mono ?_; rintro e w2 ⟨rfl, hb⟩; have HB2 := Aside0.mk hb; clear hb)
 go_ret
 exact ⟨rfl, below_step (below_alloc (Below.refl _ _) _) HB2.out⟩
/-- What is amiss with a problem. -/
def lots_Valid.f (l0_0 : List S25) (l0_1 : List Int) (a0_2 : Int) : Option (Option Int) :=
 some (if l0_0.length = 0 ∨ 8 < l0_0.length ∨ l0_1.length = 0 ∨ 8 < l0_1.length then some 105
  else if (l0_0.any fun x => !lotB x (l0_1.length : Int)) = true ∨ (l0_1.any fun n => !inB n 1000000000000) = true ∨ inB a0_2 1000000000000 = false then some 103 else none)
set_option maxHeartbeats 8000000 in
set_option maxRecDepth 100000 in
theorem lots_Valid.calls [Inhabited (Int → Addr)] (A0_0 : Option Addr) (c0_0 : Nat) (l0_0 : List S25) (A0_1 : Option Addr) (c0_1 : Nat) (l0_1 : List Int) (a0_2 : Int) (r : Option Int) (w : World) (hG : GlobOK w) (hr0_0 : Kd.C k25 w A0_0 l0_0.length l0_0) (hc0_0 : l0_0.length ≤ c0_0) (hr0_1 : Kd.C (Kd.int .i64) w A0_1 l0_1.length l0_1) (hc0_1 : l0_1.length ≤ c0_1) (h : lots_Valid.f l0_0 l0_1 a0_2 = some r) :
  Calls Tryd.prog 12 #[.agg #[.slice A0_0 l0_0.length c0_0, .slice A0_1 l0_1.length c0_1, .int .i64 a0_2]] w fun e w' => e = .returned (errW r) ∧ Below w.heap.size w w' := by
 have hx105 := GlobOK.at hG 105 0 (by simp [globTab]); have hx103 := GlobOK.at hG 103 1 (by simp [globTab]); have hu29 := Tryd.underlying29; have hmf : ∀ (fn : Fn) (first cap : Array Value) (w : World), (Instr.makeFunc fn first cap).run Tryd.prog w = .ok (.func fn first cap) w := fun _ _ _ _ => rfl; unfold lots_Valid.f at h; replace h := Option.some.inj h; have HB := Aside0.mk (Below.refl w.heap.size w); by_cases h1 : l0_0.length = 0 ∨ 8 < l0_0.length ∨ l0_1.length = 0 ∨ 8 < l0_1.length
 ·
  rw [if_pos h1] at h; subst h; have hcase : (l0_0.length = 0) ∨ (¬ l0_0.length = 0 ∧ 8 < l0_0.length) ∨ (¬ l0_0.length = 0 ∧ ¬ 8 < l0_0.length ∧ l0_1.length = 0) ∨ (¬ l0_0.length = 0 ∧ ¬ 8 < l0_0.length ∧ ¬ l0_1.length = 0 ∧ 8 < l0_1.length) := by omega
  clear hG hr0_0 hr0_1 h1; have hlt105 : 0 < w.heap.size := World.block_lt_of_cell? w _ hx105; have hy105 : (w.alloc (.cells #[.slice A0_0 l0_0.length c0_0, .slice A0_1 l0_1.length c0_1, .int .i64 a0_2] 29)).cell? ⟨0, 0, none⟩ = some (.iface 104 (.pointer (some (adr 105)))) := (World.cell?_alloc_lt _ _ _ hlt105).trans hx105
  rcases hcase with h1 | ⟨h1, h2⟩ | ⟨h1, h2, h3⟩ | ⟨h1, h2, h3, h4⟩
  ·
   have t1 : ((l0_0.length : Int) == 0) = true := by simp [h1]
   clear h1
   go_enter Tryd.func12, Tryd.ntmps12
   go_wp2
   go_ret
   exact ⟨rfl, below_alloc (Below.refl _ _) _⟩
  ·
   have t1 : ((l0_0.length : Int) == 0) = false := by simpa using h1
   have t2 : decide ((8 : Int) < (l0_0.length : Int)) = true := decide_eq_true (by omega); clear h1 h2
   go_enter Tryd.func12, Tryd.ntmps12
   go_wp2
   go_ret
   exact ⟨rfl, below_alloc (Below.refl _ _) _⟩
  ·
   have t1 : ((l0_0.length : Int) == 0) = false := by simpa using h1
   have t2 : decide ((8 : Int) < (l0_0.length : Int)) = false := decide_eq_false (by omega); have t3 : ((l0_1.length : Int) == 0) = true := by simp [h3]
   clear h1 h2 h3
   go_enter Tryd.func12, Tryd.ntmps12
   go_wp2
   go_ret
   exact ⟨rfl, below_alloc (Below.refl _ _) _⟩
  ·
   have t1 : ((l0_0.length : Int) == 0) = false := by simpa using h1
   have t2 : decide ((8 : Int) < (l0_0.length : Int)) = false := decide_eq_false (by omega); have t3 : ((l0_1.length : Int) == 0) = false := by simpa using h3
   have t4 : decide ((8 : Int) < (l0_1.length : Int)) = true := decide_eq_true (by omega); clear h1 h2 h3 h4
   go_enter Tryd.func12, Tryd.ntmps12
   go_wp2
   go_ret
   exact ⟨rfl, below_alloc (Below.refl _ _) _⟩
 ·
  rw [if_neg h1] at h; have t1 : ((l0_0.length : Int) == 0) = false := by simpa using (show ¬ l0_0.length = 0 by omega)
  have t2 : decide ((8 : Int) < (l0_0.length : Int)) = false := decide_eq_false (by omega); have t3 : ((l0_1.length : Int) == 0) = false := by simpa using (show ¬ l0_1.length = 0 by omega)
  have t4 : decide ((8 : Int) < (l0_1.length : Int)) = false := decide_eq_false (by omega); have hlt103 : 1 < w.heap.size := World.block_lt_of_cell? w _ hx103; obtain ⟨W1, hW1⟩ : ∃ W1, w.alloc (.cells #[.slice A0_0 l0_0.length c0_0, .slice A0_1 l0_1.length c0_1, .int .i64 a0_2] 29) = W1 := ⟨_, rfl⟩; have B1 : Below w.heap.size w W1 := hW1 ▸ below_alloc (Below.refl _ _) _; have q0 : W1.heap[w.heap.size]? = some (.cells #[.slice A0_0 l0_0.length c0_0, .slice A0_1 l0_1.length c0_1, .int .i64 a0_2] 29 (0, 0)) := hW1 ▸ blk_new w _; have q1 := Aside0.mk ((blk_cell q0 1).trans (show _ = some (.slice A0_1 l0_1.length c0_1) from rfl)); have q2 := Aside0.mk ((blk_cell q0 2).trans (show _ = some (.int .i64 a0_2) from rfl)); obtain ⟨p1, hp1⟩ : ∃ b, (l0_0.any fun x => !lotB x (l0_1.length : Int)) = b := ⟨_, rfl⟩; obtain ⟨p2, hp2⟩ : ∃ b, (l0_1.any fun n => !inB n 1000000000000) = b := ⟨_, rfl⟩; obtain ⟨p3, hp3⟩ : ∃ b, inB a0_2 1000000000000 = b := ⟨_, rfl⟩; have K1 := Aside0.mk (has_lots l0_0 A0_0 c0_0 W1 (Kd.C_below hr0_0 B1) (fun x => !lotB x (l0_1.length : Int)) 30 _ (lots_answers W1 w.heap.size A0_1 l0_1.length c0_1 q1.out) enters30); have K2 := Aside0.mk (fun (W : World) (hb : Below w.heap.size w W) => has_ints l0_1 A0_1 c0_1 W (Kd.C_below hr0_1 hb) (fun n => !inB n 1000000000000) 33 #[] (caps_answers W) enters33); have K3 := Aside0.mk (fun W => lots_within.calls a0_2 1000000000000 p3 W (by rw [within_b, hp3])); rw [hp1] at K1 h; rw [hp2] at h; simp only [hp2] at K2; rw [hp3] at h; clear q0 hr0_0 hr0_1 hG h1 hp1 hp2 hp3; have HX := Aside0.mk hx103; have HE := Aside0.mk h; have HB1 := Aside0.mk B1; clear h B1 hx103 hx105; have ne1 : w.heap.size < W1.heap.size := World.block_lt_of_cell? W1 _ q1.out; have fin : ∀ (W W' : World), Below w.heap.size w W → Below W.heap.size W W' → W'.cell? ⟨1, 0, none⟩ = some (.iface 104 (.pointer (some (adr 103)))) := fun W W' h1 h2 => ((below_step h1 h2).cell hlt103).trans HX.out; have FIN := Aside0.mk fin; clear fin; have P1 : Aside0 (∀ (W' : World), Below W1.heap.size W1 W' → W'.cell? ⟨w.heap.size, 1, none⟩ = some (.slice A0_1 l0_1.length c0_1)) := ⟨fun W' h => (h.cell ne1).trans q1.out⟩; have P2 : Aside0 (∀ (W W' : World), Below W1.heap.size W1 W → Below W.heap.size W W' → W'.cell? ⟨w.heap.size, 2, none⟩ = some (.int .i64 a0_2)) := ⟨fun W W' h h' => ((below_step h h').cell ne1).trans q2.out⟩; have NE1 := Aside0.mk ne1; clear q1 q2 ne1; subst hW1
  cases p1
  ·
   cases p2
   ·
    cases p3
    all_goals
     go_enter Tryd.func12, Tryd.ntmps12
     go_wp2_with (first
      | (go_at_call 29; refine K1.out.mono ?_; rintro e w2 ⟨rfl, hb⟩; have HB2 := Aside0.mk hb; have z1 := P1.out _ hb; clear hb)
      | (go_at_call 32; refine (K2.out _ (below_step HB1.out HB2.out)).mono ?_; rintro e w3 ⟨rfl, hb⟩; have HB3 := Aside0.mk hb; have z2 := P2.out _ _ HB2.out hb; clear hb)
      | (go_at_call 34; refine (K3.out _).mono ?_; rintro e w4 ⟨rfl, hd⟩; have HB4 := Aside0.mk hd.below; clear hd; have z3 := FIN.out _ _ (below_step (below_step HB1.out HB2.out) HB3.out) HB4.out))
     go_ret
     exact ⟨by rw [← HE.out]; rfl, below_step (below_step (below_step HB1.out HB2.out) HB3.out) HB4.out⟩
   ·
    go_enter Tryd.func12, Tryd.ntmps12
    go_wp2_with (first
     | (go_at_call 29; refine K1.out.mono ?_; rintro e w2 ⟨rfl, hb⟩; have HB2 := Aside0.mk hb; have z1 := P1.out _ hb; clear hb)
     | (go_at_call 32; refine (K2.out _ (below_step HB1.out HB2.out)).mono ?_; rintro e w3 ⟨rfl, hb⟩; have HB3 := Aside0.mk hb; have z2 := FIN.out _ _ (below_step HB1.out HB2.out) hb; clear hb))
    go_ret
    exact ⟨by rw [← HE.out]; rfl, below_step (below_step HB1.out HB2.out) HB3.out⟩
  ·
   go_enter Tryd.func12, Tryd.ntmps12
   go_wp2_with (go_at_call 29; refine K1.out.mono ?_; rintro e w2 ⟨rfl, hb⟩; have HB2 := Aside0.mk hb; have z1 := FIN.out _ _ HB1.out hb; clear hb)
   go_ret
   exact ⟨by rw [← HE.out]; rfl, below_step HB1.out HB2.out⟩

end Go.Proofs.YtlalofmilhakjaaDoor.ELotsSay
