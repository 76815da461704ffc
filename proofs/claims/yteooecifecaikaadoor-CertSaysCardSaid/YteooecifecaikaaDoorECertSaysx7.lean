/- The functions that the law comes to, as plain functions, and for each a proof that the Go code comes to just these answers. Written by a program of this claim. Conditions: each theorem bears its own. -/
import Derived.Test.YteooecifecaikaaDoorECertSaysx0
import Derived.Test.YteooecifecaikaaDoorECertSaysx1
namespace Go.Proofs.YteooecifecaikaaDoor.ECertSays
open Go.RowKit Go.Proofs.YteooecifecaikaaDoorW.PrintWords Go.Proofs.YteooecifecaikaaDoorW.PrintLast Go.Proofs.YteooecifecaikaaDoorW.PrintMore Go.Proofs.YteooecifecaikaaDoorW.PrintOpen
attribute [local go_sem] max2_int min2_int max_two min_two max_three min_three max_four min_four   -- for this text's walks alone
set_option linter.unusedVariables false
set_option linter.unusedSimpArgs false

/-! ### bound_is: function 38 -/
def bound_is.f (l0_0 : List (S47)) (l0_1 : List Int) (a0_2 : Int) (a1 : Int) : Option (Bool) := (lots_Valid.f l0_0 l0_1 a0_2).bind fun t218 => (if t218.isNone = true then (if a1 ≥ 0 then (some (decide (a1 ≤ (l0_0.length : Int)))) else (some false)) else (some false))
set_option maxHeartbeats 8000000 in
set_option maxRecDepth 100000 in
theorem bound_is.calls [Inhabited (Int → Addr)] (A0_0 : Option Addr) (c0_0 : Nat) (l0_0 : List (S47)) (A0_1 : Option Addr) (c0_1 : Nat) (l0_1 : List Int) (a0_2 : Int) (a1 : Int) (r : Bool) (w : World) (hG : GlobOK w) (hr0_0 : Kd.C k47 w A0_0 l0_0.length l0_0) (hc0_0 : l0_0.length ≤ c0_0) (hr0_1 : Kd.C (Kd.int .i64) w A0_1 l0_1.length l0_1) (hc0_1 : l0_1.length ≤ c0_1) (h : bound_is.f l0_0 l0_1 a0_2 a1 = some r) :
  Calls Tryd.prog 38 #[.agg #[.slice A0_0 l0_0.length c0_0, .slice A0_1 l0_1.length c0_1, .int .i64 a0_2], .int .i64 a1] w fun e w' => e = .returned (.bool r) ∧ Below w.heap.size w w' := by
 have hu25 := Tryd.underlying25; have hu36 := Tryd.underlying36; have hu107 := Tryd.underlying107; have HG := Aside0.mk hG; clear hG; have HR0_0 := Aside0.mk hr0_0; have HC0_0 := Aside0.mk hc0_0; clear hr0_0 hc0_0; have HR0_1 := Aside0.mk hr0_1; have HC0_1 := Aside0.mk hc0_1; clear hr0_1 hc0_1; have HB := Aside0.mk (Below.refl w.heap.size w); have H : ((lots_Valid.f l0_0 l0_1 a0_2).bind fun t218 => (if t218.isNone = true then (if a1 ≥ 0 then (some (decide (a1 ≤ (l0_0.length : Int)))) else (some false)) else (some false))) = some r := h; clear h; replace H := Option.bind_eq_some_iff.mp H; obtain ⟨t218, A30, H⟩ := H; replace H : (if t218.isNone = true then (if a1 ≥ 0 then (some (decide (a1 ≤ (l0_0.length : Int)))) else (some false)) else (some false)) = some r := H; have A3 := Aside0.mk A30; clear A30
 rcases t218 with _ | q219
 ·
  have H1 : (if a1 ≥ 0 then (some (decide (a1 ≤ (l0_0.length : Int)))) else (some false)) = some r := by rw [if_pos (show (none : Option Int).isNone = true by rfl)] at H; exact H
  clear H; have H := H1; clear H1
  try simp only [errW_none, errW_some]
  by_cases c4 : a1 ≥ 0
  ·
   rw [if_pos c4] at H; have c4b0 : decide (0 ≤ a1) = true := decide_eq_true c4; clear c4; obtain rfl := Option.some.inj H
   go_enter Tryd.func38, Tryd.ntmps38
   go_wp2_with (first | ((with_reducible refine gate_dst (N := 2) rfl ?_); (try (refine gate_guard (by rfl) ?_; dsimp only)); refine box_event ?hg (N := 2) ?hd (cs := #[.slice A0_0 l0_0.length c0_0, .slice A0_1 l0_1.length c0_1, .int .i64 a0_2]) (t := 25) ?hr ?_; (case hd => rfl); (case hg => rfl); (case hr => first | (go_simp; done) | (go_simp; rfl)); intro gb217 hg w5 hbox hb; have n0_ := Aside0.mk (below_step (zH HB.out) hb); have n1_ := Aside0.mk (hbox); have n2_ := Aside0.mk (zg hg (below_size (zH HB.out)) : w.heap.size ≤ gb217); have n3_ := Aside0.mk (zg hg (below_size (zH HB.out)) : w.heap.size ≤ gb217); clear HB; have HB := n0_; have BK217 := n1_; have GW217 := n2_; have GE217 := n3_; clear n0_ n1_ n2_ n3_; clear hb hbox hg; have hcz6_0 : w5.cell? ⟨gb217, 0, none⟩ = some (.slice A0_0 l0_0.length c0_0) := (blk_cell BK217.out 0).trans rfl; have hcz6_1 : w5.cell? ⟨gb217, 1, none⟩ = some (.slice A0_1 l0_1.length c0_1) := (blk_cell BK217.out 1).trans rfl; have hcz6_2 : w5.cell? ⟨gb217, 2, none⟩ = some (.int .i64 a0_2) := (blk_cell BK217.out 2).trans rfl; have hfz6_0 := blk_frozen BK217.out 0; have hfz6_1 := blk_frozen BK217.out 1; have hfz6_2 := blk_frozen BK217.out 2) | ((with_reducible refine gate_callee (f := 20) rfl ?_); refine goesL_ (some 6) rfl rfl Tryd.func20 (by kernel_rfl) rfl #[.agg #[.slice A0_0 l0_0.length c0_0, .slice A0_1 l0_1.length c0_1, .int .i64 a0_2]] rfl zM ?_; (with_reducible refine (lots_Valid.calls _ _ l0_0 _ _ l0_1 a0_2 none _ ?side1 ?side2 ?side3 ?side4 ?side5 A3.out).mono ?_); (case side1 => exact GlobOK.below HG.out (zH1 HB.out GE217.out)); (case side2 => exact zC HR0_0.out HB.out); (case side3 => exact HC0_0.out); (case side4 => exact zC HR0_1.out HB.out); (case side5 => exact HC0_1.out); rintro e w7 ⟨rfl, hb⟩; refine ⟨_, rfl, ?_⟩; have n0_ := zBB BK217 hb; have n1_ := Aside0.mk (below_step (zH1 HB.out GE217.out) hb); clear BK217; clear HB; have BK217 := n0_; have HB := n1_; clear n0_ n1_; (try clear hb); (try clear hb2); (try clear hk); (try clear hi); (try simp only [errW_none, errW_some]); have hcz8_0 : w7.cell? ⟨gb217, 0, none⟩ = some (.slice A0_0 l0_0.length c0_0) := (blk_cell BK217.out 0).trans rfl; have hcz8_1 : w7.cell? ⟨gb217, 1, none⟩ = some (.slice A0_1 l0_1.length c0_1) := (blk_cell BK217.out 1).trans rfl; have hcz8_2 : w7.cell? ⟨gb217, 2, none⟩ = some (.int .i64 a0_2) := (blk_cell BK217.out 2).trans rfl; have hfz8_0 := blk_frozen BK217.out 0; have hfz8_1 := blk_frozen BK217.out 1; have hfz8_2 := blk_frozen BK217.out 2))
   go_ret
   exact ⟨zE, zH1 HB.out GE217.out⟩
  ·
   rw [if_neg c4] at H; have c4b0 : decide (0 ≤ a1) = false := decide_eq_false c4; clear c4; obtain rfl := Option.some.inj H
   go_enter Tryd.func38, Tryd.ntmps38
   go_wp2_with (first | ((with_reducible refine gate_dst (N := 2) rfl ?_); (try (refine gate_guard (by rfl) ?_; dsimp only)); refine box_event ?hg (N := 2) ?hd (cs := #[.slice A0_0 l0_0.length c0_0, .slice A0_1 l0_1.length c0_1, .int .i64 a0_2]) (t := 25) ?hr ?_; (case hd => rfl); (case hg => rfl); (case hr => first | (go_simp; done) | (go_simp; rfl)); intro gb217 hg w9 hbox hb; have n0_ := Aside0.mk (below_step (zH HB.out) hb); have n1_ := Aside0.mk (hbox); have n2_ := Aside0.mk (zg hg (below_size (zH HB.out)) : w.heap.size ≤ gb217); have n3_ := Aside0.mk (zg hg (below_size (zH HB.out)) : w.heap.size ≤ gb217); clear HB; have HB := n0_; have BK217 := n1_; have GW217 := n2_; have GE217 := n3_; clear n0_ n1_ n2_ n3_; clear hb hbox hg; have hcz10_0 : w9.cell? ⟨gb217, 0, none⟩ = some (.slice A0_0 l0_0.length c0_0) := (blk_cell BK217.out 0).trans rfl; have hcz10_1 : w9.cell? ⟨gb217, 1, none⟩ = some (.slice A0_1 l0_1.length c0_1) := (blk_cell BK217.out 1).trans rfl; have hcz10_2 : w9.cell? ⟨gb217, 2, none⟩ = some (.int .i64 a0_2) := (blk_cell BK217.out 2).trans rfl; have hfz10_0 := blk_frozen BK217.out 0; have hfz10_1 := blk_frozen BK217.out 1; have hfz10_2 := blk_frozen BK217.out 2) | ((with_reducible refine gate_callee (f := 20) rfl ?_); refine goesL_ (some 6) rfl rfl Tryd.func20 (by kernel_rfl) rfl #[.agg #[.slice A0_0 l0_0.length c0_0, .slice A0_1 l0_1.length c0_1, .int .i64 a0_2]] rfl zM ?_; (with_reducible refine (lots_Valid.calls _ _ l0_0 _ _ l0_1 a0_2 none _ ?side1 ?side2 ?side3 ?side4 ?side5 A3.out).mono ?_); (case side1 => exact GlobOK.below HG.out (zH1 HB.out GE217.out)); (case side2 => exact zC HR0_0.out HB.out); (case side3 => exact HC0_0.out); (case side4 => exact zC HR0_1.out HB.out); (case side5 => exact HC0_1.out); rintro e w11 ⟨rfl, hb⟩; refine ⟨_, rfl, ?_⟩; have n0_ := zBB BK217 hb; have n1_ := Aside0.mk (below_step (zH1 HB.out GE217.out) hb); clear BK217; clear HB; have BK217 := n0_; have HB := n1_; clear n0_ n1_; (try clear hb); (try clear hb2); (try clear hk); (try clear hi); (try simp only [errW_none, errW_some])))
   go_ret
   exact ⟨zE, zH1 HB.out GE217.out⟩
 ·
  have H1 : (some false) = some r := by rw [if_neg (show ¬ (some q219).isNone = true by simp)] at H; exact H
  clear H; have H := H1; clear H1
  try simp only [errW_none, errW_some]
  obtain rfl := Option.some.inj H
  go_enter Tryd.func38, Tryd.ntmps38
  go_wp2_with (first | ((with_reducible refine gate_dst (N := 2) rfl ?_); (try (refine gate_guard (by rfl) ?_; dsimp only)); refine box_event ?hg (N := 2) ?hd (cs := #[.slice A0_0 l0_0.length c0_0, .slice A0_1 l0_1.length c0_1, .int .i64 a0_2]) (t := 25) ?hr ?_; (case hd => rfl); (case hg => rfl); (case hr => first | (go_simp; done) | (go_simp; rfl)); intro gb217 hg w12 hbox hb; have n0_ := Aside0.mk (below_step (zH HB.out) hb); have n1_ := Aside0.mk (hbox); have n2_ := Aside0.mk (zg hg (below_size (zH HB.out)) : w.heap.size ≤ gb217); have n3_ := Aside0.mk (zg hg (below_size (zH HB.out)) : w.heap.size ≤ gb217); clear HB; have HB := n0_; have BK217 := n1_; have GW217 := n2_; have GE217 := n3_; clear n0_ n1_ n2_ n3_; clear hb hbox hg; have hcz13_0 : w12.cell? ⟨gb217, 0, none⟩ = some (.slice A0_0 l0_0.length c0_0) := (blk_cell BK217.out 0).trans rfl; have hcz13_1 : w12.cell? ⟨gb217, 1, none⟩ = some (.slice A0_1 l0_1.length c0_1) := (blk_cell BK217.out 1).trans rfl; have hcz13_2 : w12.cell? ⟨gb217, 2, none⟩ = some (.int .i64 a0_2) := (blk_cell BK217.out 2).trans rfl; have hfz13_0 := blk_frozen BK217.out 0; have hfz13_1 := blk_frozen BK217.out 1; have hfz13_2 := blk_frozen BK217.out 2) | ((with_reducible refine gate_callee (f := 20) rfl ?_); refine goesL_ (some 6) rfl rfl Tryd.func20 (by kernel_rfl) rfl #[.agg #[.slice A0_0 l0_0.length c0_0, .slice A0_1 l0_1.length c0_1, .int .i64 a0_2]] rfl zM ?_; (with_reducible refine (lots_Valid.calls _ _ l0_0 _ _ l0_1 a0_2 (some q219) _ ?side1 ?side2 ?side3 ?side4 ?side5 A3.out).mono ?_); (case side1 => exact GlobOK.below HG.out (zH1 HB.out GE217.out)); (case side2 => exact zC HR0_0.out HB.out); (case side3 => exact HC0_0.out); (case side4 => exact zC HR0_1.out HB.out); (case side5 => exact HC0_1.out); rintro e w14 ⟨rfl, hb⟩; refine ⟨_, rfl, ?_⟩; have n0_ := zBB BK217 hb; have n1_ := Aside0.mk (below_step (zH1 HB.out GE217.out) hb); clear BK217; clear HB; have BK217 := n0_; have HB := n1_; clear n0_ n1_; (try clear hb); (try clear hb2); (try clear hk); (try clear hi); (try simp only [errW_none, errW_some])))
  go_ret
  exact ⟨zE, zH1 HB.out GE217.out⟩

/-! ### fix_size: function 52 -/
def fix_size.f (a0 : Int) : Option (Int × Bool) := if a0 < 0 then (some (IntKind.u64.wrap (-(IntKind.u64.wrap (a0))), true)) else (some (IntKind.u64.wrap (a0), false))
set_option maxHeartbeats 8000000 in
set_option maxRecDepth 100000 in
theorem fix_size.calls [Inhabited (Int → Addr)] (a0 : Int) (r1 : Int) (r2 : Bool) (w : World) (h : fix_size.f a0 = some (r1, r2)) :
    Calls Tryd.prog 52 #[.int .i64 a0] w fun e w' => e = .returned (.tuple #[.int .u64 r1, .bool r2]) ∧ Drawn0 w w' := by
  have H : (if a0 < 0 then (some (IntKind.u64.wrap (-(IntKind.u64.wrap (a0))), true)) else (some (IntKind.u64.wrap (a0), false))) = some (r1, r2) := h; clear h; by_cases c2 : a0 < 0
  · rw [if_pos c2] at H
    have c2b0 : decide (a0 < 0) = true := decide_eq_true c2; clear c2; simp only [Option.some.injEq, Prod.mk.injEq] at H; obtain ⟨rfl, rfl⟩ := H
    go_enter Tryd.func52, Tryd.ntmps52
    go_wp2
    go_ret2
    exact ⟨zF, zD⟩
  · rw [if_neg c2] at H
    have c2b0 : decide (a0 < 0) = false := decide_eq_false c2; clear c2; simp only [Option.some.injEq, Prod.mk.injEq] at H; obtain ⟨rfl, rfl⟩ := H
    go_enter Tryd.func52, Tryd.ntmps52
    go_wp2
    go_ret2
    exact ⟨zF, zD⟩

/-! ### fix_Wide: function 53 -/
def fix_Wide.f (a0 : Int) (a1 : Int) : Option (Int × Int) := some (IntKind.u64.wrap ((IntKind.u64.wrap ((IntKind.u64.wrap ((a0 / 4294967296) * (a1 / 4294967296))) + ((IntKind.u64.wrap ((IntKind.u64.wrap ((a0 / 4294967296) * (Go.bits .and .u64 a1 4294967295))) + ((IntKind.u64.wrap ((Go.bits .and .u64 a0 4294967295) * (Go.bits .and .u64 a1 4294967295))) / 4294967296))) / 4294967296))) + ((IntKind.u64.wrap ((IntKind.u64.wrap ((Go.bits .and .u64 a0 4294967295) * (a1 / 4294967296))) + (Go.bits .and .u64 (IntKind.u64.wrap ((IntKind.u64.wrap ((a0 / 4294967296) * (Go.bits .and .u64 a1 4294967295))) + ((IntKind.u64.wrap ((Go.bits .and .u64 a0 4294967295) * (Go.bits .and .u64 a1 4294967295))) / 4294967296))) 4294967295))) / 4294967296)), IntKind.u64.wrap (a0 * a1))
set_option maxHeartbeats 8000000 in
set_option maxRecDepth 100000 in
theorem fix_Wide.calls [Inhabited (Int → Addr)] (a0 : Int) (a1 : Int) (r1 : Int) (r2 : Int) (w : World) (h : fix_Wide.f a0 a1 = some (r1, r2)) :
    Calls Tryd.prog 53 #[.int .u64 a0, .int .u64 a1] w fun e w' => e = .returned (.tuple #[.int .u64 r1, .int .u64 r2]) ∧ Drawn0 w w' := by
  have H : (some (IntKind.u64.wrap ((IntKind.u64.wrap ((IntKind.u64.wrap ((a0 / 4294967296) * (a1 / 4294967296))) + ((IntKind.u64.wrap ((IntKind.u64.wrap ((a0 / 4294967296) * (Go.bits .and .u64 a1 4294967295))) + ((IntKind.u64.wrap ((Go.bits .and .u64 a0 4294967295) * (Go.bits .and .u64 a1 4294967295))) / 4294967296))) / 4294967296))) + ((IntKind.u64.wrap ((IntKind.u64.wrap ((Go.bits .and .u64 a0 4294967295) * (a1 / 4294967296))) + (Go.bits .and .u64 (IntKind.u64.wrap ((IntKind.u64.wrap ((a0 / 4294967296) * (Go.bits .and .u64 a1 4294967295))) + ((IntKind.u64.wrap ((Go.bits .and .u64 a0 4294967295) * (Go.bits .and .u64 a1 4294967295))) / 4294967296))) 4294967295))) / 4294967296)), IntKind.u64.wrap (a0 * a1))) = some (r1, r2) := h; clear h; simp only [Option.some.injEq, Prod.mk.injEq] at H; obtain ⟨rfl, rfl⟩ := H
  go_enter Tryd.func53, Tryd.ntmps53
  go_wp2
  go_ret2
  exact ⟨zF, zD⟩

/-! ### bits_Add64: function 66 -/
theorem bits_Add64_run (x y c : Int) (hx : 0 ≤ x) (hy : 0 ≤ y) (h0 : 0 ≤ c) (h1 : c ≤ 1) (w : World) :
    (callFunc 66 #[.int .u64 x, .int .u64 y, .int .u64 c]).run Tryd.prog w = .ok (.value (.tuple #[.int .u64 ((x + y + c) % 18446744073709551616), .int .u64 ((x + y + c) / 18446744073709551616)])) w := by
  rw [run_callFunc_extern Tryd.func66 (by kernel_rfl) (by kernel_rfl) (by kernel_rfl) (e := add64Entry) (by kernel_rfl), run_add64 x y c hx hy h0 h1]; rfl

/-! ### fix_product: function 61 -/
def fix_product.f (a0 : Int) (a1 : Int) : Option (Int × Int) := (fix_size.f a0).bind fun bt221 => ((fix_size.f a1).bind fun bt223 => ((fix_Wide.f bt221.1 bt223.1).bind fun bt225 => (if (bt221.2 == bt223.2) = true then (some (wrap64 (bt225.1), bt225.2)) else (if 0 ≤ (Go.bits .xor .u64 IntKind.u64.max bt225.2) then (some (wrap64 (IntKind.u64.wrap ((Go.bits .xor .u64 IntKind.u64.max bt225.1) + (((Go.bits .xor .u64 IntKind.u64.max bt225.2) + 1) / 18446744073709551616))), ((Go.bits .xor .u64 IntKind.u64.max bt225.2) + 1) % 18446744073709551616)) else (none)))))
set_option maxHeartbeats 8000000 in
set_option maxRecDepth 100000 in
theorem fix_product.calls [Inhabited (Int → Addr)] (a0 : Int) (a1 : Int) (r1 : Int) (r2 : Int) (w : World) (h : fix_product.f a0 a1 = some (r1, r2)) :
  Calls Tryd.prog 61 #[.int .i64 a0, .int .i64 a1] w fun e w' => e = .returned (.agg #[.int .i64 r1, .int .u64 r2]) ∧ Below w.heap.size w w' := by
 have hu101 := Tryd.underlying101; have HB := Aside0.mk (Below.refl w.heap.size w); have H : ((fix_size.f a0).bind fun bt221 => ((fix_size.f a1).bind fun bt223 => ((fix_Wide.f bt221.1 bt223.1).bind fun bt225 => (if (bt221.2 == bt223.2) = true then (some (wrap64 (bt225.1), bt225.2)) else (if 0 ≤ (Go.bits .xor .u64 IntKind.u64.max bt225.2) then (some (wrap64 (IntKind.u64.wrap ((Go.bits .xor .u64 IntKind.u64.max bt225.1) + (((Go.bits .xor .u64 IntKind.u64.max bt225.2) + 1) / 18446744073709551616))), ((Go.bits .xor .u64 IntKind.u64.max bt225.2) + 1) % 18446744073709551616)) else (none)))))) = some (r1, r2) := h; clear h; replace H := Option.bind_eq_some_iff.mp H; obtain ⟨⟨t221, t222⟩, A30, H⟩ := H; replace H : ((fix_size.f a1).bind fun bt223 => ((fix_Wide.f t221 bt223.1).bind fun bt225 => (if (t222 == bt223.2) = true then (some (wrap64 (bt225.1), bt225.2)) else (if 0 ≤ (Go.bits .xor .u64 IntKind.u64.max bt225.2) then (some (wrap64 (IntKind.u64.wrap ((Go.bits .xor .u64 IntKind.u64.max bt225.1) + (((Go.bits .xor .u64 IntKind.u64.max bt225.2) + 1) / 18446744073709551616))), ((Go.bits .xor .u64 IntKind.u64.max bt225.2) + 1) % 18446744073709551616)) else (none))))) = some (r1, r2) := H; have A3 := Aside0.mk A30; clear A30; replace H := Option.bind_eq_some_iff.mp H; obtain ⟨⟨t223, t224⟩, A40, H⟩ := H; replace H : ((fix_Wide.f t221 t223).bind fun bt225 => (if (t222 == t224) = true then (some (wrap64 (bt225.1), bt225.2)) else (if 0 ≤ (Go.bits .xor .u64 IntKind.u64.max bt225.2) then (some (wrap64 (IntKind.u64.wrap ((Go.bits .xor .u64 IntKind.u64.max bt225.1) + (((Go.bits .xor .u64 IntKind.u64.max bt225.2) + 1) / 18446744073709551616))), ((Go.bits .xor .u64 IntKind.u64.max bt225.2) + 1) % 18446744073709551616)) else (none)))) = some (r1, r2) := H; have A4 := Aside0.mk A40; clear A40; replace H := Option.bind_eq_some_iff.mp H; obtain ⟨⟨t225, t226⟩, A50, H⟩ := H; replace H : (if (t222 == t224) = true then (some (wrap64 (t225), t226)) else (if 0 ≤ (Go.bits .xor .u64 IntKind.u64.max t226) then (some (wrap64 (IntKind.u64.wrap ((Go.bits .xor .u64 IntKind.u64.max t225) + (((Go.bits .xor .u64 IntKind.u64.max t226) + 1) / 18446744073709551616))), ((Go.bits .xor .u64 IntKind.u64.max t226) + 1) % 18446744073709551616)) else (none))) = some (r1, r2) := H; have A5 := Aside0.mk A50; clear A50; by_cases c6 : (t222 == t224) = true
 ·
  rw [if_pos c6] at H; have c6b0 : (t222 == t224) = true := c6; (try (have c6b1 : decide (t222 = t224) = true := by simpa using c6)); (try (have c6b2 : (t222 == t224) = true := by simpa using c6)); clear c6; simp only [Option.some.injEq, Prod.mk.injEq] at H; obtain ⟨rfl, rfl⟩ := H
  go_enter Tryd.func61, Tryd.ntmps61
  go_wp2_with (first | ((with_reducible refine gate_dst (N := 4) rfl ?_); refine box_event ?hg (N := 4) ?hd (cs := #[.int .i64 0, .int .u64 0]) (t := 101) ?hr ?_; (case hd => rfl); (case hg => rfl); (case hr => first | (go_simp; done) | (go_simp; rfl)); intro gb220 hg w7 hbox hb; have n0_ := Aside0.mk (below_step (zH HB.out) hb); have n1_ := Aside0.mk (hbox); have n2_ := Aside0.mk (zg hg (below_size (zH HB.out)) : w.heap.size ≤ gb220); have n3_ := Aside0.mk (zg hg (below_size (zH HB.out)) : w.heap.size ≤ gb220); clear HB; have HB := n0_; have BK220 := n1_; have GW220 := n2_; have GE220 := n3_; clear n0_ n1_ n2_ n3_; clear hb hbox hg) | ((with_reducible refine gate_callee (f := 52) rfl ?_); refine goesL_ (some 14) rfl rfl Tryd.func52 (by kernel_rfl) rfl #[.int .i64 a0] rfl zM ?_; (with_reducible refine (fix_size.calls a0 t221 t222 _ A3.out).mono ?_); rintro e w' ⟨rfl, ⟨nd, rfl⟩⟩; refine ⟨_, rfl, ?_⟩; (try (rw [drewN_self w7]; generalize hq_ : World.drewN w7 _ = w7; have n0_ : Aside0 (w7.heap[gb220]? = some (.cells #[.int .i64 0, .int .u64 0] 101 (0, 0))) := ⟨by rw [← hq_]; exact (zB BK220.out)⟩; have n1_ : Aside0 (Below w.heap.size w w7) := ⟨by rw [← hq_]; exact (zH1 HB.out GE220.out)⟩; clear BK220 HB hq_; have BK220 := n0_; have HB := n1_; clear n0_ n1_))) | ((with_reducible refine gate_callee (f := 52) rfl ?_); refine goesL_ (some 19) rfl rfl Tryd.func52 (by kernel_rfl) rfl #[.int .i64 a1] rfl zM ?_; (with_reducible refine (fix_size.calls a1 t223 t224 _ A4.out).mono ?_); rintro e w' ⟨rfl, ⟨nd, rfl⟩⟩; refine ⟨_, rfl, ?_⟩; (try (rw [drewN_self w7]; generalize hq_ : World.drewN w7 _ = w7; have n0_ : Aside0 (w7.heap[gb220]? = some (.cells #[.int .i64 0, .int .u64 0] 101 (0, 0))) := ⟨by rw [← hq_]; exact (zB BK220.out)⟩; have n1_ : Aside0 (Below w.heap.size w w7) := ⟨by rw [← hq_]; exact (zH1 HB.out GE220.out)⟩; clear BK220 HB hq_; have BK220 := n0_; have HB := n1_; clear n0_ n1_))) | ((with_reducible refine gate_callee (f := 53) rfl ?_); refine goesL_ (some 25) rfl rfl Tryd.func53 (by kernel_rfl) rfl #[.int .u64 t221, .int .u64 t223] rfl zM ?_; (with_reducible refine (fix_Wide.calls t221 t223 t225 t226 _ A5.out).mono ?_); rintro e w' ⟨rfl, ⟨nd, rfl⟩⟩; refine ⟨_, rfl, ?_⟩; (try (rw [drewN_self w7]; generalize hq_ : World.drewN w7 _ = w7; have n0_ : Aside0 (w7.heap[gb220]? = some (.cells #[.int .i64 0, .int .u64 0] 101 (0, 0))) := ⟨by rw [← hq_]; exact (zB BK220.out)⟩; have n1_ : Aside0 (Below w.heap.size w w7) := ⟨by rw [← hq_]; exact (zH1 HB.out GE220.out)⟩; clear BK220 HB hq_; have BK220 := n0_; have HB := n1_; clear n0_ n1_)); have hcz8_0 : w7.cell? ⟨gb220, 0, none⟩ = some (.int .i64 0) := (blk_cell BK220.out 0).trans rfl; have hcz8_1 : w7.cell? ⟨gb220, 1, none⟩ = some (.int .u64 0) := (blk_cell BK220.out 1).trans rfl; have hfz8_0 := blk_frozen BK220.out 0; have hfz8_1 := blk_frozen BK220.out 1))
  refine bodyPost_ret (results_cell_row rfl _ _ gb220 101 #[.int .i64 (wrap64 (t225)), .int .u64 t226] (0, 0) _ rfl (by (with_reducible repeat (first | refine blk_drewN ?_ _ | refine blk_drew ?_ | refine blk_alloc ?_ _)); refine blk_put (cs := #[.int .i64 (wrap64 (t225)), .int .u64 0]) ?_ 1 _ rfl; (with_reducible repeat (first | refine blk_drewN ?_ _ | refine blk_drew ?_ | refine blk_alloc ?_ _)); refine blk_put (cs := #[.int .i64 0, .int .u64 0]) ?_ 0 _ rfl; (with_reducible repeat (first | refine blk_drewN ?_ _ | refine blk_drew ?_ | refine blk_alloc ?_ _)); exact BK220.out) Tryd.underlying101 rfl (by kernel_rfl)) rfl ?_; exact ⟨zE, zH1 HB.out GE220.out⟩
 ·
  rw [if_neg c6] at H; have c6b0 : (t222 == t224) = false := by simpa using c6
  (try (have c6b1 : decide (t222 = t224) = false := by simpa using c6)); (try (have c6b2 : (t222 == t224) = false := by simpa using c6)); (try (have c6b3 : ¬ (t222 = t224) := by simpa using c6)); clear c6; by_cases c9 : 0 ≤ (Go.bits .xor .u64 IntKind.u64.max t226)
  ·
   rw [if_pos c9] at H; have c9b0 := eq_true c9; have c9b1 : decide (0 ≤ (Go.bits .xor .u64 IntKind.u64.max t226)) = true := decide_eq_true c9; clear c9; simp only [Option.some.injEq, Prod.mk.injEq] at H; obtain ⟨rfl, rfl⟩ := H
   go_enter Tryd.func61, Tryd.ntmps61
   go_wp2_with (first | ((with_reducible refine gate_dst (N := 4) rfl ?_); refine box_event ?hg (N := 4) ?hd (cs := #[.int .i64 0, .int .u64 0]) (t := 101) ?hr ?_; (case hd => rfl); (case hg => rfl); (case hr => first | (go_simp; done) | (go_simp; rfl)); intro gb220 hg w10 hbox hb; have n0_ := Aside0.mk (below_step (zH HB.out) hb); have n1_ := Aside0.mk (hbox); have n2_ := Aside0.mk (zg hg (below_size (zH HB.out)) : w.heap.size ≤ gb220); have n3_ := Aside0.mk (zg hg (below_size (zH HB.out)) : w.heap.size ≤ gb220); clear HB; have HB := n0_; have BK220 := n1_; have GW220 := n2_; have GE220 := n3_; clear n0_ n1_ n2_ n3_; clear hb hbox hg) | ((with_reducible refine gate_callee (f := 52) rfl ?_); refine goesL_ (some 14) rfl rfl Tryd.func52 (by kernel_rfl) rfl #[.int .i64 a0] rfl zM ?_; (with_reducible refine (fix_size.calls a0 t221 t222 _ A3.out).mono ?_); rintro e w' ⟨rfl, ⟨nd, rfl⟩⟩; refine ⟨_, rfl, ?_⟩; (try (rw [drewN_self w10]; generalize hq_ : World.drewN w10 _ = w10; have n0_ : Aside0 (w10.heap[gb220]? = some (.cells #[.int .i64 0, .int .u64 0] 101 (0, 0))) := ⟨by rw [← hq_]; exact (zB BK220.out)⟩; have n1_ : Aside0 (Below w.heap.size w w10) := ⟨by rw [← hq_]; exact (zH1 HB.out GE220.out)⟩; clear BK220 HB hq_; have BK220 := n0_; have HB := n1_; clear n0_ n1_))) | ((with_reducible refine gate_callee (f := 52) rfl ?_); refine goesL_ (some 19) rfl rfl Tryd.func52 (by kernel_rfl) rfl #[.int .i64 a1] rfl zM ?_; (with_reducible refine (fix_size.calls a1 t223 t224 _ A4.out).mono ?_); rintro e w' ⟨rfl, ⟨nd, rfl⟩⟩; refine ⟨_, rfl, ?_⟩; (try (rw [drewN_self w10]; generalize hq_ : World.drewN w10 _ = w10; have n0_ : Aside0 (w10.heap[gb220]? = some (.cells #[.int .i64 0, .int .u64 0] 101 (0, 0))) := ⟨by rw [← hq_]; exact (zB BK220.out)⟩; have n1_ : Aside0 (Below w.heap.size w w10) := ⟨by rw [← hq_]; exact (zH1 HB.out GE220.out)⟩; clear BK220 HB hq_; have BK220 := n0_; have HB := n1_; clear n0_ n1_))) | ((with_reducible refine gate_callee (f := 53) rfl ?_); refine goesL_ (some 25) rfl rfl Tryd.func53 (by kernel_rfl) rfl #[.int .u64 t221, .int .u64 t223] rfl zM ?_; (with_reducible refine (fix_Wide.calls t221 t223 t225 t226 _ A5.out).mono ?_); rintro e w' ⟨rfl, ⟨nd, rfl⟩⟩; refine ⟨_, rfl, ?_⟩; (try (rw [drewN_self w10]; generalize hq_ : World.drewN w10 _ = w10; have n0_ : Aside0 (w10.heap[gb220]? = some (.cells #[.int .i64 0, .int .u64 0] 101 (0, 0))) := ⟨by rw [← hq_]; exact (zB BK220.out)⟩; have n1_ : Aside0 (Below w.heap.size w w10) := ⟨by rw [← hq_]; exact (zH1 HB.out GE220.out)⟩; clear BK220 HB hq_; have BK220 := n0_; have HB := n1_; clear n0_ n1_)); have haddg11 := bits_Add64_run (Go.bits .xor .u64 IntKind.u64.max t226) 1 0 (of_decide_eq_true zA) (by omega) (by omega) (by omega); have hcz12_0 : w10.cell? ⟨gb220, 0, none⟩ = some (.int .i64 0) := (blk_cell BK220.out 0).trans rfl; have hcz12_1 : w10.cell? ⟨gb220, 1, none⟩ = some (.int .u64 0) := (blk_cell BK220.out 1).trans rfl; have hfz12_0 := blk_frozen BK220.out 0; have hfz12_1 := blk_frozen BK220.out 1))
   refine bodyPost_ret (results_cell_row rfl _ _ gb220 101 #[.int .i64 (wrap64 (IntKind.u64.wrap ((Go.bits .xor .u64 IntKind.u64.max t225) + (((Go.bits .xor .u64 IntKind.u64.max t226) + 1) / 18446744073709551616)))), .int .u64 (((Go.bits .xor .u64 IntKind.u64.max t226) + 1) % 18446744073709551616)] (0, 0) _ rfl (by (with_reducible repeat (first | refine blk_drewN ?_ _ | refine blk_drew ?_ | refine blk_alloc ?_ _)); refine blk_put (cs := #[.int .i64 (wrap64 (IntKind.u64.wrap ((Go.bits .xor .u64 IntKind.u64.max t225) + (((Go.bits .xor .u64 IntKind.u64.max t226) + 1) / 18446744073709551616)))), .int .u64 0]) ?_ 1 _ rfl; (with_reducible repeat (first | refine blk_drewN ?_ _ | refine blk_drew ?_ | refine blk_alloc ?_ _)); refine blk_put (cs := #[.int .i64 0, .int .u64 0]) ?_ 0 _ rfl; (with_reducible repeat (first | refine blk_drewN ?_ _ | refine blk_drew ?_ | refine blk_alloc ?_ _)); exact BK220.out) Tryd.underlying101 rfl (by kernel_rfl)) rfl ?_; exact ⟨zE, zH1 HB.out GE220.out⟩
  ·
   rw [if_neg c9] at H; exact absurd H (by simp)

/-! ### cmp_Or_int: function 62 -/
def cmp_Or_int.l0 : Nat → Int → List Int → Int → Int → Option (Int)
  | 0, _, _, _, _ => none
  | k + 1, x3, x6, x7, x8 => if x8 < x7 then (if 0 ≤ x8 then (if x8 < (x6.length : Int) then (if (rd x6 x8) = x3 then (cmp_Or_int.l0 k x3 x6 x7 (wrap64 (x8 + 1))) else (some (rd x6 x8))) else (none)) else (none)) else (some x3)
def cmp_Or_int.f (k : Nat) (l0 : List Int) : Option (Int) := cmp_Or_int.l0 k 0 l0 (l0.length : Int) 0
theorem cmp_Or_int.mono_l : ∀ k, (∀ y0 y1 y2 y3, LeO (cmp_Or_int.l0 k y0 y1 y2 y3) (cmp_Or_int.l0 (k + 1) y0 y1 y2 y3))
  | 0 => fun _ _ _ _ r h => by simp [cmp_Or_int.l0] at h
  | k + 1 => by
    have ih0 := cmp_Or_int.mono_l k
    · intro y0 y1 y2 y3
      unfold cmp_Or_int.l0
      repeat' first
      | (with_reducible exact ih0 _ _ _ _)
      | (with_reducible exact LeO.refl _)
      | (with_reducible exact LeO.none _)
      | (with_reducible refine LeO.ite ?_ ?_)
      | (with_reducible refine LeO.bind ?_ (fun _ => ?_))
      | exact ih0 _ _ _ _
      | exact LeO.none _
      | refine LeO.ite ?_ ?_
      | refine LeO.bind ?_ (fun _ => ?_)
theorem cmp_Or_int.mono : ∀ a0 k, LeO (cmp_Or_int.f k a0) (cmp_Or_int.f (k + 1) a0) := by
  intro a0 k; have ih0 := cmp_Or_int.mono_l k; unfold cmp_Or_int.f
  repeat' first
      | (with_reducible exact ih0 _ _ _ _)
      | (with_reducible exact LeO.refl _)
      | (with_reducible exact LeO.none _)
      | (with_reducible refine LeO.ite ?_ ?_)
      | (with_reducible refine LeO.bind ?_ (fun _ => ?_))
      | exact ih0 _ _ _ _
      | exact LeO.none _
      | refine LeO.ite ?_ ?_
      | refine LeO.bind ?_ (fun _ => ?_)
set_option maxHeartbeats 8000000 in
set_option maxRecDepth 100000 in
theorem cmp_Or_int.calls [Inhabited (Int → Addr)] (k : Nat) (A0 : Option Addr) (c0 : Nat) (l0 : List Int) (r : Int) (w : World) (hr0 : Kd.C (Kd.int .i64) w A0 l0.length l0) (hc0 : l0.length ≤ c0) (h : cmp_Or_int.f k l0 = some r) :
    Calls Tryd.prog 62 #[.slice A0 l0.length c0] w fun e w' => e = .returned (.int .i64 r) ∧ Drawn0 w w' := by
  have HR0 := Aside0.mk hr0; have HC0 := Aside0.mk hc0; clear hr0 hc0; have H : (cmp_Or_int.l0 k 0 l0 (l0.length : Int) 0) = some r := h; clear h; have H' := Aside0.mk H; clear H
  go_enter Tryd.func62, Tryd.ntmps62
  go_wp2
  go_loopg [8] k (fun kq v8 w' => ∃ (x8_1 : Int), v8 = .int .i64 x8_1 ∧ Aside0 (cmp_Or_int.l0 kq 0 l0 (l0.length : Int) x8_1 = some r) ∧ Aside0 (kq ≤ k) ∧ Drawn0 w w')
  case atStart => exact ⟨(0), zS, H', ⟨Nat.le_refl _⟩, zD⟩
  case round =>
    clear H'; obtain ⟨x8_1, rfl, HA, HK1, ⟨m1, rfl⟩⟩ := hrel
    cases gk with
    | zero => exact absurd HA.out (by simp [cmp_Or_int.l0])
    | succ k1 =>
      have H := HA.out; clear HA; simp only [cmp_Or_int.l0] at H; by_cases c2 : x8_1 < (l0.length : Int)
      · rw [if_pos c2] at H
        have c2b0 : decide (x8_1 < (l0.length : Int)) = true := decide_eq_true c2; clear c2; by_cases c3 : 0 ≤ x8_1
        · rw [if_pos c3] at H
          have c3b0 : decide (0 ≤ x8_1) = true := decide_eq_true c3; clear c3; by_cases c4 : x8_1 < (l0.length : Int)
          · rw [if_pos c4] at H
            have c4b0 : decide (x8_1 < (l0.length : Int)) = true := decide_eq_true c4; clear c4; by_cases c5 : (rd l0 x8_1) = 0
            · rw [if_pos c5] at H
              have c5b0 : ((rd l0 x8_1) == 0) = true := beq_iff_eq.mpr c5; have c5b1 : ((rd l0 x8_1) != 0) = false := bne_eq_false_iff_eq.mpr c5; clear c5; have H' := Aside0.mk H; clear H; have p227 : 0 ≤ (x8_1 : Int) := of_decide_eq_true zA; have q227 : x8_1 < (l0.length : Int) := of_decide_eq_true zA; obtain ⟨ad227, e227, hx227_0⟩ := Kd.at_int HR0.out x8_1 p227 q227
              cases e227
              replace p227 := eq_true p227; replace q227 := eq_true q227
              go_wp2
              go_roundg k1
              case measure => have := HK1.out; omega
              case rel => exact ⟨(wrap64 (x8_1 + 1)), zS, H', ⟨by have := HK1.out; omega⟩, zD⟩
            · rw [if_neg c5] at H
              have c5b0 : ((rd l0 x8_1) == 0) = false := beq_eq_false_iff_ne.mpr c5; have c5b1 : ((rd l0 x8_1) != 0) = true := bne_iff_ne.mpr c5; obtain rfl := Option.some.inj H; have p227 : 0 ≤ (x8_1 : Int) := of_decide_eq_true zA; have q227 : x8_1 < (l0.length : Int) := of_decide_eq_true zA; obtain ⟨ad227, e227, hx227_0⟩ := Kd.at_int HR0.out x8_1 p227 q227
              cases e227
              replace p227 := eq_true p227; replace q227 := eq_true q227
              go_wp2
              go_ret
              exact ⟨zF, zD⟩
          · rw [if_neg c4] at H
            exact absurd H (by simp)
        · rw [if_neg c3] at H
          exact absurd H (by simp)
      · rw [if_neg c2] at H
        have c2b0 : decide (x8_1 < (l0.length : Int)) = false := decide_eq_false c2; clear c2; obtain rfl := Option.some.inj H
        go_wp2
        go_ret
        exact ⟨zF, zD⟩

/-! ### cmp_isNaN_int64: function 67 -/
def cmp_isNaN_int64.f (a0 : Int) : Option (Bool) := some (a0 != a0)
set_option maxHeartbeats 8000000 in
set_option maxRecDepth 100000 in
theorem cmp_isNaN_int64.calls [Inhabited (Int → Addr)] (a0 : Int) (r : Bool) (w : World) (h : cmp_isNaN_int64.f a0 = some r) :
    Calls Tryd.prog 67 #[.int .i64 a0] w fun e w' => e = .returned (.bool r) ∧ Drawn0 w w' := by
  have H : (some (a0 != a0)) = some r := h; clear h; obtain rfl := Option.some.inj H
  go_enter Tryd.func67, Tryd.ntmps67
  go_wp2
  go_ret
  exact ⟨zF, zD⟩

/-! ### cmp_Compare_int64: function 63 -/
def cmp_Compare_int64.f (a0 : Int) (a1 : Int) : Option (Int) := (cmp_isNaN_int64.f a0).bind fun t228 => ((cmp_isNaN_int64.f a1).bind fun t229 => (if t228 = true then (if t229 = true then (some 0) else (some (-1))) else (if t229 = true then (some 1) else (if a0 < a1 then (some (-1)) else (if a0 > a1 then (some 1) else (some 0))))))
set_option maxHeartbeats 8000000 in
set_option maxRecDepth 100000 in
theorem cmp_Compare_int64.calls [Inhabited (Int → Addr)] (a0 : Int) (a1 : Int) (r : Int) (w : World) (h : cmp_Compare_int64.f a0 a1 = some r) :
    Calls Tryd.prog 63 #[.int .i64 a0, .int .i64 a1] w fun e w' => e = .returned (.int .i64 r) ∧ Drawn0 w w' := by
  have H : ((cmp_isNaN_int64.f a0).bind fun t228 => ((cmp_isNaN_int64.f a1).bind fun t229 => (if t228 = true then (if t229 = true then (some 0) else (some (-1))) else (if t229 = true then (some 1) else (if a0 < a1 then (some (-1)) else (if a0 > a1 then (some 1) else (some 0))))))) = some r := h; clear h; replace H := Option.bind_eq_some_iff.mp H; obtain ⟨t228, A30, H⟩ := H; replace H : ((cmp_isNaN_int64.f a1).bind fun t229 => (if t228 = true then (if t229 = true then (some 0) else (some (-1))) else (if t229 = true then (some 1) else (if a0 < a1 then (some (-1)) else (if a0 > a1 then (some 1) else (some 0)))))) = some r := H; have A3 := Aside0.mk A30; clear A30; replace H := Option.bind_eq_some_iff.mp H; obtain ⟨t229, A40, H⟩ := H; replace H : (if t228 = true then (if t229 = true then (some 0) else (some (-1))) else (if t229 = true then (some 1) else (if a0 < a1 then (some (-1)) else (if a0 > a1 then (some 1) else (some 0))))) = some r := H; have A4 := Aside0.mk A40; clear A40; by_cases c5 : t228 = true
  · subst c5
    have H1 : (if t229 = true then (some 0) else (some (-1))) = some r := by rw [if_pos rfl] at H; exact H
    clear H; have H := H1; clear H1; by_cases c6 : t229 = true
    · subst c6
      have H1 : (some 0) = some r := by rw [if_pos rfl] at H; exact H
      clear H; have H := H1; clear H1; obtain rfl := Option.some.inj H
      go_enter Tryd.func63, Tryd.ntmps63
      go_wp2_with (first | ((with_reducible refine gate_callee (f := 67) rfl ?_); refine goesL_ (some 8) rfl rfl Tryd.func67 (by kernel_rfl) rfl #[.int .i64 a0] rfl zM ?_; (with_reducible refine (cmp_isNaN_int64.calls a0 true _ A3.out).mono ?_); rintro e w' ⟨rfl, ⟨nd, rfl⟩⟩; refine ⟨_, rfl, ?_⟩) | ((with_reducible refine gate_callee (f := 67) rfl ?_); refine goesL_ (some 10) rfl rfl Tryd.func67 (by kernel_rfl) rfl #[.int .i64 a1] rfl zM ?_; (with_reducible refine (cmp_isNaN_int64.calls a1 true _ A4.out).mono ?_); rintro e w' ⟨rfl, ⟨nd, rfl⟩⟩; refine ⟨_, rfl, ?_⟩))
      go_ret
      exact ⟨zF, zD⟩
    · replace c6 := Bool.eq_false_iff.mpr c6
      subst c6; have H1 : (some (-1)) = some r := by rw [if_neg (show ¬ (false = true) by decide)] at H; exact H
      clear H; have H := H1; clear H1; obtain rfl := Option.some.inj H
      go_enter Tryd.func63, Tryd.ntmps63
      go_wp2_with (first | ((with_reducible refine gate_callee (f := 67) rfl ?_); refine goesL_ (some 8) rfl rfl Tryd.func67 (by kernel_rfl) rfl #[.int .i64 a0] rfl zM ?_; (with_reducible refine (cmp_isNaN_int64.calls a0 true _ A3.out).mono ?_); rintro e w' ⟨rfl, ⟨nd, rfl⟩⟩; refine ⟨_, rfl, ?_⟩) | ((with_reducible refine gate_callee (f := 67) rfl ?_); refine goesL_ (some 10) rfl rfl Tryd.func67 (by kernel_rfl) rfl #[.int .i64 a1] rfl zM ?_; (with_reducible refine (cmp_isNaN_int64.calls a1 false _ A4.out).mono ?_); rintro e w' ⟨rfl, ⟨nd, rfl⟩⟩; refine ⟨_, rfl, ?_⟩))
      go_ret
      exact ⟨zF, zD⟩
  · replace c5 := Bool.eq_false_iff.mpr c5
    subst c5; have H1 : (if t229 = true then (some 1) else (if a0 < a1 then (some (-1)) else (if a0 > a1 then (some 1) else (some 0)))) = some r := by rw [if_neg (show ¬ (false = true) by decide)] at H; exact H
    clear H; have H := H1; clear H1; by_cases c7 : t229 = true
    · subst c7
      have H1 : (some 1) = some r := by rw [if_pos rfl] at H; exact H
      clear H; have H := H1; clear H1; obtain rfl := Option.some.inj H
      go_enter Tryd.func63, Tryd.ntmps63
      go_wp2_with (first | ((with_reducible refine gate_callee (f := 67) rfl ?_); refine goesL_ (some 8) rfl rfl Tryd.func67 (by kernel_rfl) rfl #[.int .i64 a0] rfl zM ?_; (with_reducible refine (cmp_isNaN_int64.calls a0 false _ A3.out).mono ?_); rintro e w' ⟨rfl, ⟨nd, rfl⟩⟩; refine ⟨_, rfl, ?_⟩) | ((with_reducible refine gate_callee (f := 67) rfl ?_); refine goesL_ (some 10) rfl rfl Tryd.func67 (by kernel_rfl) rfl #[.int .i64 a1] rfl zM ?_; (with_reducible refine (cmp_isNaN_int64.calls a1 true _ A4.out).mono ?_); rintro e w' ⟨rfl, ⟨nd, rfl⟩⟩; refine ⟨_, rfl, ?_⟩))
      go_ret
      exact ⟨zF, zD⟩
    · replace c7 := Bool.eq_false_iff.mpr c7
      subst c7; have H1 : (if a0 < a1 then (some (-1)) else (if a0 > a1 then (some 1) else (some 0))) = some r := by rw [if_neg (show ¬ (false = true) by decide)] at H; exact H
      clear H; have H := H1; clear H1; by_cases c8 : a0 < a1
      · rw [if_pos c8] at H
        have c8b0 : decide (a0 < a1) = true := decide_eq_true c8; clear c8; obtain rfl := Option.some.inj H
        go_enter Tryd.func63, Tryd.ntmps63
        go_wp2_with (first | ((with_reducible refine gate_callee (f := 67) rfl ?_); refine goesL_ (some 8) rfl rfl Tryd.func67 (by kernel_rfl) rfl #[.int .i64 a0] rfl zM ?_; (with_reducible refine (cmp_isNaN_int64.calls a0 false _ A3.out).mono ?_); rintro e w' ⟨rfl, ⟨nd, rfl⟩⟩; refine ⟨_, rfl, ?_⟩) | ((with_reducible refine gate_callee (f := 67) rfl ?_); refine goesL_ (some 10) rfl rfl Tryd.func67 (by kernel_rfl) rfl #[.int .i64 a1] rfl zM ?_; (with_reducible refine (cmp_isNaN_int64.calls a1 false _ A4.out).mono ?_); rintro e w' ⟨rfl, ⟨nd, rfl⟩⟩; refine ⟨_, rfl, ?_⟩))
        go_ret
        exact ⟨zF, zD⟩
      · rw [if_neg c8] at H
        have c8b0 : decide (a0 < a1) = false := decide_eq_false c8; clear c8; by_cases c9 : a0 > a1
        · rw [if_pos c9] at H
          have c9b0 : decide (a1 < a0) = true := decide_eq_true c9; clear c9; obtain rfl := Option.some.inj H
          go_enter Tryd.func63, Tryd.ntmps63
          go_wp2_with (first | ((with_reducible refine gate_callee (f := 67) rfl ?_); refine goesL_ (some 8) rfl rfl Tryd.func67 (by kernel_rfl) rfl #[.int .i64 a0] rfl zM ?_; (with_reducible refine (cmp_isNaN_int64.calls a0 false _ A3.out).mono ?_); rintro e w' ⟨rfl, ⟨nd, rfl⟩⟩; refine ⟨_, rfl, ?_⟩) | ((with_reducible refine gate_callee (f := 67) rfl ?_); refine goesL_ (some 10) rfl rfl Tryd.func67 (by kernel_rfl) rfl #[.int .i64 a1] rfl zM ?_; (with_reducible refine (cmp_isNaN_int64.calls a1 false _ A4.out).mono ?_); rintro e w' ⟨rfl, ⟨nd, rfl⟩⟩; refine ⟨_, rfl, ?_⟩))
          go_ret
          exact ⟨zF, zD⟩
        · rw [if_neg c9] at H
          have c9b0 : decide (a1 < a0) = false := decide_eq_false c9; clear c9; obtain rfl := Option.some.inj H
          go_enter Tryd.func63, Tryd.ntmps63
          go_wp2_with (first | ((with_reducible refine gate_callee (f := 67) rfl ?_); refine goesL_ (some 8) rfl rfl Tryd.func67 (by kernel_rfl) rfl #[.int .i64 a0] rfl zM ?_; (with_reducible refine (cmp_isNaN_int64.calls a0 false _ A3.out).mono ?_); rintro e w' ⟨rfl, ⟨nd, rfl⟩⟩; refine ⟨_, rfl, ?_⟩) | ((with_reducible refine gate_callee (f := 67) rfl ?_); refine goesL_ (some 10) rfl rfl Tryd.func67 (by kernel_rfl) rfl #[.int .i64 a1] rfl zM ?_; (with_reducible refine (cmp_isNaN_int64.calls a1 false _ A4.out).mono ?_); rintro e w' ⟨rfl, ⟨nd, rfl⟩⟩; refine ⟨_, rfl, ?_⟩))
          go_ret
          exact ⟨zF, zD⟩

/-! ### cmp_isNaN_uint64: function 68 -/
def cmp_isNaN_uint64.f (a0 : Int) : Option (Bool) := some (a0 != a0)
set_option maxHeartbeats 8000000 in
set_option maxRecDepth 100000 in
theorem cmp_isNaN_uint64.calls [Inhabited (Int → Addr)] (a0 : Int) (r : Bool) (w : World) (h : cmp_isNaN_uint64.f a0 = some r) :
    Calls Tryd.prog 68 #[.int .u64 a0] w fun e w' => e = .returned (.bool r) ∧ Drawn0 w w' := by
  have H : (some (a0 != a0)) = some r := h; clear h; obtain rfl := Option.some.inj H
  go_enter Tryd.func68, Tryd.ntmps68
  go_wp2
  go_ret
  exact ⟨zF, zD⟩

/-! ### cmp_Compare_uint64: function 64 -/
def cmp_Compare_uint64.f (a0 : Int) (a1 : Int) : Option (Int) := (cmp_isNaN_uint64.f a0).bind fun t230 => ((cmp_isNaN_uint64.f a1).bind fun t231 => (if t230 = true then (if t231 = true then (some 0) else (some (-1))) else (if t231 = true then (some 1) else (if a0 < a1 then (some (-1)) else (if a0 > a1 then (some 1) else (some 0))))))
set_option maxHeartbeats 8000000 in
set_option maxRecDepth 100000 in
theorem cmp_Compare_uint64.calls [Inhabited (Int → Addr)] (a0 : Int) (a1 : Int) (r : Int) (w : World) (h : cmp_Compare_uint64.f a0 a1 = some r) :
    Calls Tryd.prog 64 #[.int .u64 a0, .int .u64 a1] w fun e w' => e = .returned (.int .i64 r) ∧ Drawn0 w w' := by
  have H : ((cmp_isNaN_uint64.f a0).bind fun t230 => ((cmp_isNaN_uint64.f a1).bind fun t231 => (if t230 = true then (if t231 = true then (some 0) else (some (-1))) else (if t231 = true then (some 1) else (if a0 < a1 then (some (-1)) else (if a0 > a1 then (some 1) else (some 0))))))) = some r := h; clear h; replace H := Option.bind_eq_some_iff.mp H; obtain ⟨t230, A30, H⟩ := H; replace H : ((cmp_isNaN_uint64.f a1).bind fun t231 => (if t230 = true then (if t231 = true then (some 0) else (some (-1))) else (if t231 = true then (some 1) else (if a0 < a1 then (some (-1)) else (if a0 > a1 then (some 1) else (some 0)))))) = some r := H; have A3 := Aside0.mk A30; clear A30; replace H := Option.bind_eq_some_iff.mp H; obtain ⟨t231, A40, H⟩ := H; replace H : (if t230 = true then (if t231 = true then (some 0) else (some (-1))) else (if t231 = true then (some 1) else (if a0 < a1 then (some (-1)) else (if a0 > a1 then (some 1) else (some 0))))) = some r := H; have A4 := Aside0.mk A40; clear A40; by_cases c5 : t230 = true
  · subst c5
    have H1 : (if t231 = true then (some 0) else (some (-1))) = some r := by rw [if_pos rfl] at H; exact H
    clear H; have H := H1; clear H1; by_cases c6 : t231 = true
    · subst c6
      have H1 : (some 0) = some r := by rw [if_pos rfl] at H; exact H
      clear H; have H := H1; clear H1; obtain rfl := Option.some.inj H
      go_enter Tryd.func64, Tryd.ntmps64
      go_wp2_with (first | ((with_reducible refine gate_callee (f := 68) rfl ?_); refine goesL_ (some 8) rfl rfl Tryd.func68 (by kernel_rfl) rfl #[.int .u64 a0] rfl zM ?_; (with_reducible refine (cmp_isNaN_uint64.calls a0 true _ A3.out).mono ?_); rintro e w' ⟨rfl, ⟨nd, rfl⟩⟩; refine ⟨_, rfl, ?_⟩) | ((with_reducible refine gate_callee (f := 68) rfl ?_); refine goesL_ (some 10) rfl rfl Tryd.func68 (by kernel_rfl) rfl #[.int .u64 a1] rfl zM ?_; (with_reducible refine (cmp_isNaN_uint64.calls a1 true _ A4.out).mono ?_); rintro e w' ⟨rfl, ⟨nd, rfl⟩⟩; refine ⟨_, rfl, ?_⟩))
      go_ret
      exact ⟨zF, zD⟩
    · replace c6 := Bool.eq_false_iff.mpr c6
      subst c6; have H1 : (some (-1)) = some r := by rw [if_neg (show ¬ (false = true) by decide)] at H; exact H
      clear H; have H := H1; clear H1; obtain rfl := Option.some.inj H
      go_enter Tryd.func64, Tryd.ntmps64
      go_wp2_with (first | ((with_reducible refine gate_callee (f := 68) rfl ?_); refine goesL_ (some 8) rfl rfl Tryd.func68 (by kernel_rfl) rfl #[.int .u64 a0] rfl zM ?_; (with_reducible refine (cmp_isNaN_uint64.calls a0 true _ A3.out).mono ?_); rintro e w' ⟨rfl, ⟨nd, rfl⟩⟩; refine ⟨_, rfl, ?_⟩) | ((with_reducible refine gate_callee (f := 68) rfl ?_); refine goesL_ (some 10) rfl rfl Tryd.func68 (by kernel_rfl) rfl #[.int .u64 a1] rfl zM ?_; (with_reducible refine (cmp_isNaN_uint64.calls a1 false _ A4.out).mono ?_); rintro e w' ⟨rfl, ⟨nd, rfl⟩⟩; refine ⟨_, rfl, ?_⟩))
      go_ret
      exact ⟨zF, zD⟩
  · replace c5 := Bool.eq_false_iff.mpr c5
    subst c5; have H1 : (if t231 = true then (some 1) else (if a0 < a1 then (some (-1)) else (if a0 > a1 then (some 1) else (some 0)))) = some r := by rw [if_neg (show ¬ (false = true) by decide)] at H; exact H
    clear H; have H := H1; clear H1; by_cases c7 : t231 = true
    · subst c7
      have H1 : (some 1) = some r := by rw [if_pos rfl] at H; exact H
      clear H; have H := H1; clear H1; obtain rfl := Option.some.inj H
      go_enter Tryd.func64, Tryd.ntmps64
      go_wp2_with (first | ((with_reducible refine gate_callee (f := 68) rfl ?_); refine goesL_ (some 8) rfl rfl Tryd.func68 (by kernel_rfl) rfl #[.int .u64 a0] rfl zM ?_; (with_reducible refine (cmp_isNaN_uint64.calls a0 false _ A3.out).mono ?_); rintro e w' ⟨rfl, ⟨nd, rfl⟩⟩; refine ⟨_, rfl, ?_⟩) | ((with_reducible refine gate_callee (f := 68) rfl ?_); refine goesL_ (some 10) rfl rfl Tryd.func68 (by kernel_rfl) rfl #[.int .u64 a1] rfl zM ?_; (with_reducible refine (cmp_isNaN_uint64.calls a1 true _ A4.out).mono ?_); rintro e w' ⟨rfl, ⟨nd, rfl⟩⟩; refine ⟨_, rfl, ?_⟩))
      go_ret
      exact ⟨zF, zD⟩
    · replace c7 := Bool.eq_false_iff.mpr c7
      subst c7; have H1 : (if a0 < a1 then (some (-1)) else (if a0 > a1 then (some 1) else (some 0))) = some r := by rw [if_neg (show ¬ (false = true) by decide)] at H; exact H
      clear H; have H := H1; clear H1; by_cases c8 : a0 < a1
      · rw [if_pos c8] at H
        have c8b0 : decide (a0 < a1) = true := decide_eq_true c8; clear c8; obtain rfl := Option.some.inj H
        go_enter Tryd.func64, Tryd.ntmps64
        go_wp2_with (first | ((with_reducible refine gate_callee (f := 68) rfl ?_); refine goesL_ (some 8) rfl rfl Tryd.func68 (by kernel_rfl) rfl #[.int .u64 a0] rfl zM ?_; (with_reducible refine (cmp_isNaN_uint64.calls a0 false _ A3.out).mono ?_); rintro e w' ⟨rfl, ⟨nd, rfl⟩⟩; refine ⟨_, rfl, ?_⟩) | ((with_reducible refine gate_callee (f := 68) rfl ?_); refine goesL_ (some 10) rfl rfl Tryd.func68 (by kernel_rfl) rfl #[.int .u64 a1] rfl zM ?_; (with_reducible refine (cmp_isNaN_uint64.calls a1 false _ A4.out).mono ?_); rintro e w' ⟨rfl, ⟨nd, rfl⟩⟩; refine ⟨_, rfl, ?_⟩))
        go_ret
        exact ⟨zF, zD⟩
      · rw [if_neg c8] at H
        have c8b0 : decide (a0 < a1) = false := decide_eq_false c8; clear c8; by_cases c9 : a0 > a1
        · rw [if_pos c9] at H
          have c9b0 : decide (a1 < a0) = true := decide_eq_true c9; clear c9; obtain rfl := Option.some.inj H
          go_enter Tryd.func64, Tryd.ntmps64
          go_wp2_with (first | ((with_reducible refine gate_callee (f := 68) rfl ?_); refine goesL_ (some 8) rfl rfl Tryd.func68 (by kernel_rfl) rfl #[.int .u64 a0] rfl zM ?_; (with_reducible refine (cmp_isNaN_uint64.calls a0 false _ A3.out).mono ?_); rintro e w' ⟨rfl, ⟨nd, rfl⟩⟩; refine ⟨_, rfl, ?_⟩) | ((with_reducible refine gate_callee (f := 68) rfl ?_); refine goesL_ (some 10) rfl rfl Tryd.func68 (by kernel_rfl) rfl #[.int .u64 a1] rfl zM ?_; (with_reducible refine (cmp_isNaN_uint64.calls a1 false _ A4.out).mono ?_); rintro e w' ⟨rfl, ⟨nd, rfl⟩⟩; refine ⟨_, rfl, ?_⟩))
          go_ret
          exact ⟨zF, zD⟩
        · rw [if_neg c9] at H
          have c9b0 : decide (a1 < a0) = false := decide_eq_false c9; clear c9; obtain rfl := Option.some.inj H
          go_enter Tryd.func64, Tryd.ntmps64
          go_wp2_with (first | ((with_reducible refine gate_callee (f := 68) rfl ?_); refine goesL_ (some 8) rfl rfl Tryd.func68 (by kernel_rfl) rfl #[.int .u64 a0] rfl zM ?_; (with_reducible refine (cmp_isNaN_uint64.calls a0 false _ A3.out).mono ?_); rintro e w' ⟨rfl, ⟨nd, rfl⟩⟩; refine ⟨_, rfl, ?_⟩) | ((with_reducible refine gate_callee (f := 68) rfl ?_); refine goesL_ (some 10) rfl rfl Tryd.func68 (by kernel_rfl) rfl #[.int .u64 a1] rfl zM ?_; (with_reducible refine (cmp_isNaN_uint64.calls a1 false _ A4.out).mono ?_); rintro e w' ⟨rfl, ⟨nd, rfl⟩⟩; refine ⟨_, rfl, ?_⟩))
          go_ret
          exact ⟨zF, zD⟩

/-! ### fix_Cmp: function 59 -/
def fix_Cmp.f (k : Nat) (a0 : Int) (a1 : Int) (a2 : Int) (a3 : Int) : Option (Int) := (fix_product.f a0 a1).bind fun bt232 => ((fix_product.f a2 a3).bind fun bt234 => ((cmp_Compare_int64.f bt232.1 bt234.1).bind fun t238 => ((cmp_Compare_uint64.f bt232.2 bt234.2).bind fun t239 => ((cmp_Or_int.f k (([t238, t239] : List Int))).bind fun t243 => (some t243)))))
theorem fix_Cmp.mono : ∀ a0 a1 a2 a3 k, LeO (fix_Cmp.f k a0 a1 a2 a3) (fix_Cmp.f (k + 1) a0 a1 a2 a3) := by
 intro a0 a1 a2 a3 k; unfold fix_Cmp.f
 repeat' first
   | (with_reducible exact cmp_Or_int.mono _ _)
   | (with_reducible exact LeO.refl _)
   | (with_reducible exact LeO.none _)
   | (with_reducible refine LeO.ite ?_ ?_)
   | (with_reducible refine LeO.bind ?_ (fun _ => ?_))
   | exact cmp_Or_int.mono _ _
   | exact LeO.none _
   | refine LeO.ite ?_ ?_
   | refine LeO.bind ?_ (fun _ => ?_)
def fix_Cmp.T2 : Bool × List (List Nat × List Nat) := (true, [([], []), ([0], [0]), ([], []), ([2], [2]), ([1, 3], [1, 3]), ([], []), ([5], [5]), ([], []), ([7], [7]), ([6, 8, 4], [6, 8]), ([4, 9], [4, 9]), ([10, 9], [10]), ([11, 11, 0, 1, 2, 3, 4, 5, 6, 7, 8, 9, 10, 11], [11])])
def fix_Cmp.B2 : List Nat := [0, 1, 0, 4, 15, 0, 32, 0, 128, 511, 1023, 2047, 4095]
theorem fix_Cmp.tab2 : rtab .any (opsOf Tryd.f59 2) = fix_Cmp.T2 := by kernel_rfl
theorem fix_Cmp.bits2 : waitsOk fix_Cmp.T2.2 fix_Cmp.B2 = true := by kernel_rfl
abbrev z1b86_m0 : Array Bool := (fun o i : Bool => #[o,o,o,o,o,o,o,o,o,o,o,o,o]) false true
abbrev z1b86_m1 : Array Bool := (fun o i : Bool => #[i,o,o,o,o,o,o,o,o,o,o,o,o]) false true
abbrev z1b86_m2 : Array Bool := (fun o i : Bool => #[i,o,i,o,o,o,o,o,o,o,o,o,o]) false true
abbrev z1b86_m3 : Array Bool := (fun o i : Bool => #[i,o,i,o,o,i,o,o,o,o,o,o,o]) false true
abbrev z1b86_m4 : Array Bool := (fun o i : Bool => #[i,o,i,o,o,i,o,i,o,o,o,o,o]) false true
abbrev z1b86_m5 : Array Bool := (fun o i : Bool => #[i,i,i,o,o,i,o,i,o,o,o,o,o]) false true
abbrev z1b86_m6 : Array Bool := (fun o i : Bool => #[i,i,i,i,o,i,o,i,o,o,o,o,o]) false true
abbrev z1b86_m7 : Array Bool := (fun o i : Bool => #[i,i,i,i,o,i,i,i,o,o,o,o,o]) false true
abbrev z1b86_m8 : Array Bool := (fun o i : Bool => #[i,i,i,i,o,i,i,i,i,o,o,o,o]) false true
abbrev z1b86_m9 : Array Bool := (fun o i : Bool => #[i,i,i,i,i,i,i,i,i,o,o,o,o]) false true
abbrev z1b86_m10 : Array Bool := (fun o i : Bool => #[i,i,i,i,i,i,i,i,i,i,o,o,o]) false true
abbrev z1b86_m11 : Array Bool := (fun o i : Bool => #[i,i,i,i,i,i,i,i,i,i,i,o,o]) false true
abbrev z1b86_m12 : Array Bool := (fun o i : Bool => #[i,i,i,i,i,i,i,i,i,i,i,i,o]) false true
abbrev z1b86_m13 : Array Bool := (fun o i : Bool => #[i,i,i,i,i,i,i,i,i,i,i,i,i]) false true
set_option maxHeartbeats 8000000 in
set_option maxRecDepth 100000 in
theorem fix_Cmp.calls [Inhabited (Int → Addr)] (k : Nat) (a0 : Int) (a1 : Int) (a2 : Int) (a3 : Int) (r : Int) (w : World) (h : fix_Cmp.f k a0 a1 a2 a3 = some r) :
  Calls Tryd.prog 59 #[.int .i64 a0, .int .i64 a1, .int .i64 a2, .int .i64 a3] w fun e w' => e = .returned (.int .i64 r) ∧ Below w.heap.size w w' := by
 have hu101 := Tryd.underlying101; have HB := Aside0.mk (Below.refl w.heap.size w); have H : ((fix_product.f a0 a1).bind fun bt232 => ((fix_product.f a2 a3).bind fun bt234 => ((cmp_Compare_int64.f bt232.1 bt234.1).bind fun t238 => ((cmp_Compare_uint64.f bt232.2 bt234.2).bind fun t239 => ((cmp_Or_int.f k (([t238, t239] : List Int))).bind fun t243 => (some t243)))))) = some r := h; clear h; replace H := Option.bind_eq_some_iff.mp H; obtain ⟨⟨t232, t233⟩, A50, H⟩ := H; replace H : ((fix_product.f a2 a3).bind fun bt234 => ((cmp_Compare_int64.f t232 bt234.1).bind fun t238 => ((cmp_Compare_uint64.f t233 bt234.2).bind fun t239 => ((cmp_Or_int.f k (([t238, t239] : List Int))).bind fun t243 => (some t243))))) = some r := H; have A5 := Aside0.mk A50; clear A50; replace H := Option.bind_eq_some_iff.mp H; obtain ⟨⟨t234, t235⟩, A60, H⟩ := H; replace H : ((cmp_Compare_int64.f t232 t234).bind fun t238 => ((cmp_Compare_uint64.f t233 t235).bind fun t239 => ((cmp_Or_int.f k (([t238, t239] : List Int))).bind fun t243 => (some t243)))) = some r := H; have A6 := Aside0.mk A60; clear A60; replace H := Option.bind_eq_some_iff.mp H; obtain ⟨t238, A70, H⟩ := H; replace H : ((cmp_Compare_uint64.f t233 t235).bind fun t239 => ((cmp_Or_int.f k (([t238, t239] : List Int))).bind fun t243 => (some t243))) = some r := H; have A7 := Aside0.mk A70; clear A70; replace H := Option.bind_eq_some_iff.mp H; obtain ⟨t239, A80, H⟩ := H; replace H : ((cmp_Or_int.f k (([t238, t239] : List Int))).bind fun t243 => (some t243)) = some r := H; have A8 := Aside0.mk A80; clear A80; obtain ⟨y240, hy240⟩ : ∃ y_ : List Int, y_ = (([t238, t239] : List Int)) := ⟨_, rfl⟩; replace H : ((cmp_Or_int.f k y240).bind fun t243 => (some t243)) = some r := by first | (rw [hy240]; with_reducible exact H) | (have H2_ := (Option.bind_some _ _).symm.trans H; rw [hy240]; with_reducible exact H2_) | (have H2_ := (Option.bind_some _ _).symm.trans H; with_reducible exact H2_) | with_reducible exact H | (rw [hy240]; exact H) | exact H
 have Ny240 := Aside0.mk hy240; clear hy240; replace H := Option.bind_eq_some_iff.mp H; obtain ⟨t243, A90, H⟩ := H; replace H : (some t243) = some r := H; have A9 := Aside0.mk A90; clear A90; obtain rfl := Option.some.inj H
 go_enter Tryd.func59, Tryd.ntmps59
 try go_wp2_with (first | ((with_reducible refine gate_callee (f := 61) rfl ?_); refine goesL_ (some 13) rfl rfl Tryd.func61 (by kernel_rfl) rfl #[.int .i64 a0, .int .i64 a1] rfl zM ?_; (with_reducible refine (fix_product.calls a0 a1 t232 t233 _ A5.out).mono ?_); rintro e w10 ⟨rfl, hb⟩; refine ⟨_, rfl, ?_⟩; have n0_ := Aside0.mk (below_step (zH HB.out) hb); clear HB; have HB := n0_; clear n0_; (try clear hb); (try clear hb2); (try clear hk); (try clear hi)) | ((with_reducible refine gate_callee (f := 61) rfl ?_); refine goesL_ (some 16) rfl rfl Tryd.func61 (by kernel_rfl) rfl #[.int .i64 a2, .int .i64 a3] rfl zM ?_; (with_reducible refine (fix_product.calls a2 a3 t234 t235 _ A6.out).mono ?_); rintro e w11 ⟨rfl, hb⟩; refine ⟨_, rfl, ?_⟩; have n0_ := Aside0.mk (below_step (zH HB.out) hb); clear HB; have HB := n0_; clear n0_; (try clear hb); (try clear hb2); (try clear hk); (try clear hi)) | ((with_reducible refine gate_dst (N := 9) rfl ?_); refine box_event ?hg (N := 9) ?hd (cs := #[.int .i64 0, .int .u64 0]) (t := 101) ?hr ?_; (case hd => rfl); (case hg => rfl); (case hr => first | (go_simp; done) | (go_simp; rfl)); intro gb236 hg w12 hbox hb; have n0_ := Aside0.mk (below_step (zH HB.out) hb); have n1_ := Aside0.mk (hbox); have n2_ := Aside0.mk (zg hg (below_size (zH HB.out)) : w.heap.size ≤ gb236); have n3_ := Aside0.mk (zg hg (below_size (zH HB.out)) : w.heap.size ≤ gb236); clear HB; have HB := n0_; have BK236 := n1_; have GW236 := n2_; have GE236 := n3_; clear n0_ n1_ n2_ n3_; clear hb hbox hg) | ((with_reducible refine gate_dst (N := 10) rfl ?_); refine box_event ?hg (N := 10) ?hd (cs := #[.int .i64 0, .int .u64 0]) (t := 101) ?hr ?_; (case hd => rfl); (case hg => rfl); (case hr => first | (go_simp; done) | (go_simp; rfl)); intro gb237 hg w13 hbox hb; have n0_ := zBB BK236 hb; have n1_ := Aside0.mk (below_step (zH1 HB.out GE236.out) hb); have n2_ := Aside0.mk (hbox); have n3_ := Aside0.mk (zg hg (below_size (zH1 HB.out GE236.out)) : w.heap.size ≤ gb237); have n4_ := Aside0.mk (zg hg (below_size (zH1 HB.out GE236.out)) : w.heap.size ≤ gb237); have n5_ := Aside0.mk (zN hg BK236 : gb236 ≠ gb237); have n6_ := Aside0.mk (zO hg BK236 : gb237 ≠ gb236); clear BK236; clear HB; have BK236 := n0_; have HB := n1_; have BK237 := n2_; have GW237 := n3_; have GE237 := n4_; have NB236_237 := n5_; have NB237_236 := n6_; clear n0_ n1_ n2_ n3_ n4_ n5_ n6_; clear hb hbox hg; have hnb14 := NB236_237.out; have hnc14 := NB237_236.out; have hcz15_0 : w13.cell? ⟨gb236, 0, none⟩ = some (.int .i64 0) := (blk_cell BK236.out 0).trans rfl; have hcz15_1 : w13.cell? ⟨gb236, 1, none⟩ = some (.int .u64 0) := (blk_cell BK236.out 1).trans rfl; have hfz15_0 := blk_frozen BK236.out 0; have hfz15_1 := blk_frozen BK236.out 1; have hcz16_0 : w13.cell? ⟨gb237, 0, none⟩ = some (.int .i64 0) := (blk_cell BK237.out 0).trans rfl; have hcz16_1 : w13.cell? ⟨gb237, 1, none⟩ = some (.int .u64 0) := (blk_cell BK237.out 1).trans rfl; have hfz16_0 := blk_frozen BK237.out 0; have hfz16_1 := blk_frozen BK237.out 1))
 have n0_ : Aside0 (((((w13.setCell ⟨gb236, 0, none⟩ (.int .i64 t232)).setCell ⟨gb236, 1, none⟩ (.int .u64 t233)).setCell ⟨gb237, 0, none⟩ (.int .i64 t234)).setCell ⟨gb237, 1, none⟩ (.int .u64 t235)).heap[gb236]? = some (.cells #[.int .i64 t232, .int .u64 t233] 101 (0, 0))) := ⟨by (with_reducible repeat (first | refine blk_drewN ?_ _ | refine blk_drew ?_ | refine blk_alloc ?_ _ | refine blk_far ?_ NB236_237.out _)); refine blk_put (cs := #[.int .i64 t232, .int .u64 0]) ?_ 1 _ rfl; (with_reducible repeat (first | refine blk_drewN ?_ _ | refine blk_drew ?_ | refine blk_alloc ?_ _)); refine blk_put (cs := #[.int .i64 0, .int .u64 0]) ?_ 0 _ rfl; (with_reducible repeat (first | refine blk_drewN ?_ _ | refine blk_drew ?_ | refine blk_alloc ?_ _)); exact BK236.out⟩; have n1_ : Aside0 (((((w13.setCell ⟨gb236, 0, none⟩ (.int .i64 t232)).setCell ⟨gb236, 1, none⟩ (.int .u64 t233)).setCell ⟨gb237, 0, none⟩ (.int .i64 t234)).setCell ⟨gb237, 1, none⟩ (.int .u64 t235)).heap[gb237]? = some (.cells #[.int .i64 t234, .int .u64 t235] 101 (0, 0))) := ⟨by (with_reducible repeat (first | refine blk_drewN ?_ _ | refine blk_drew ?_ | refine blk_alloc ?_ _)); refine blk_put (cs := #[.int .i64 t234, .int .u64 0]) ?_ 1 _ rfl; (with_reducible repeat (first | refine blk_drewN ?_ _ | refine blk_drew ?_ | refine blk_alloc ?_ _)); refine blk_put (cs := #[.int .i64 0, .int .u64 0]) ?_ 0 _ rfl; (with_reducible repeat (first | refine blk_drewN ?_ _ | refine blk_drew ?_ | refine blk_alloc ?_ _ | refine blk_far ?_ NB237_236.out _)); exact BK237.out⟩; have n2_ : Aside0 (Below w.heap.size w ((((w13.setCell ⟨gb236, 0, none⟩ (.int .i64 t232)).setCell ⟨gb236, 1, none⟩ (.int .u64 t233)).setCell ⟨gb237, 0, none⟩ (.int .i64 t234)).setCell ⟨gb237, 1, none⟩ (.int .u64 t235))) := ⟨zH2 HB.out GE236.out GE237.out⟩; (try clear BK236); (try clear BK237); (try clear HB); generalize ((((w13.setCell ⟨gb236, 0, none⟩ (.int .i64 t232)).setCell ⟨gb236, 1, none⟩ (.int .u64 t233)).setCell ⟨gb237, 0, none⟩ (.int .i64 t234)).setCell ⟨gb237, 1, none⟩ (.int .u64 t235)) = w17 at n0_ n1_ n2_ ⊢; have BK236 := n0_; have BK237 := n1_; have HB := n2_; clear n0_ n1_ n2_; have n0_ := Aside0.mk (blk_drew BK236.out); have n1_ := Aside0.mk (blk_drew BK237.out); have n2_ := Aside0.mk (below_drew1 HB.out); clear BK236; clear BK237; clear HB; have BK236 := n0_; have BK237 := n1_; have HB := n2_; clear n0_ n1_ n2_; refine start_ (n := 13) (S := fun w' => w'.cell? ⟨gb236, 0, none⟩ = some (.int .i64 t232) ∧ w'.cell? ⟨gb236, 1, none⟩ = some (.int .u64 t233) ∧ w'.cell? ⟨gb237, 0, none⟩ = some (.int .i64 t234) ∧ w'.cell? ⟨gb237, 1, none⟩ = some (.int .u64 t235)) (ds := []) z1b86_m0 (by kernel_rfl) rfl rfl ⟨(blk_cell BK236.out 0).trans rfl, (blk_cell BK236.out 1).trans rfl, (blk_cell BK237.out 0).trans rfl, (blk_cell BK237.out 1).trans rfl⟩ (fun hHeld => ?_); refine with_tabW fix_Cmp.tab2 fix_Cmp.bits2 (fun HT_ HW_ => ?_); generalize w17.drew = w18 at BK236 BK237 HB hHeld ⊢; refine zU 0 17 z1b86_m1 HT_ ?_; refine zU 2 19 z1b86_m2 HT_ ?_; refine zU 5 22 z1b86_m3 HT_ ?_; refine zU 7 24 z1b86_m4 HT_ ?_; refine take_ (i := 1) (N := some 18) (v := ?_) (a' := ?_) z1b86_m5 rfl rfl (take_ofW HT_.out HW_.out (by kernel_rfl)) (fun _ _ _ h => h) (Or.inl ⟨by rfl, ?_⟩) hHeld ?_ ?_; rotate_left
 ·
  rintro w' ⟨s0, s1, s2, s3⟩; go_simp
  with_reducible rfl
 rotate_left
 · simp only [Act.put, zq1, zq2, zq3, i64_w, i32_w]; rfl
 refine take_ (i := 3) (N := some 20) (v := ?_) (a' := ?_) z1b86_m6 rfl rfl (take_ofW HT_.out HW_.out (by kernel_rfl)) (fun _ _ _ h => h) (Or.inl ⟨by rfl, ?_⟩) hHeld ?_ ?_; rotate_left
 ·
  rintro w' ⟨s0, s1, s2, s3⟩; go_simp
  with_reducible rfl
 rotate_left
 · simp only [Act.put, zq1, zq2, zq3, i64_w, i32_w]; rfl
 refine take_ (i := 6) (N := some 23) (v := ?_) (a' := ?_) z1b86_m7 rfl rfl (take_ofW HT_.out HW_.out (by kernel_rfl)) (fun _ _ _ h => h) (Or.inl ⟨by rfl, ?_⟩) hHeld ?_ ?_; rotate_left
 ·
  rintro w' ⟨s0, s1, s2, s3⟩; go_simp
  with_reducible rfl
 rotate_left
 · simp only [Act.put, zq1, zq2, zq3, i64_w, i32_w]; rfl
 refine take_ (i := 8) (N := some 25) (v := ?_) (a' := ?_) z1b86_m8 rfl rfl (take_ofW HT_.out HW_.out (by kernel_rfl)) (fun _ _ _ h => h) (Or.inl ⟨by rfl, ?_⟩) hHeld ?_ ?_; rotate_left
 ·
  rintro w' ⟨s0, s1, s2, s3⟩; go_simp
  with_reducible rfl
 rotate_left
 · simp only [Act.put, zq1, zq2, zq3, i64_w, i32_w]; rfl
 refine one_ (i := 4) (N := some 21) z1b86_m9 rfl rfl (one_of HT_.out (by kernel_rfl)) (by decide) (fun K hK => ?_); refine goes_ Tryd.func63 (by kernel_rfl) rfl #[.int .i64 t232, .int .i64 t234] (by rfl) rfl rfl zM ?_
 with_reducible refine (cmp_Compare_int64.calls t232 t234 t238 _ A7.out).mono ?_
 rintro e w' ⟨rfl, ⟨nd, rfl⟩⟩; refine ⟨_, rfl, ?_⟩; refine hK.out _ _ ⟨(blk_cell BK236.out 0).trans rfl, (blk_cell BK236.out 1).trans rfl, (blk_cell BK237.out 0).trans rfl, (blk_cell BK237.out 1).trans rfl⟩ (fun hHeld => ?_); clear hK K; refine norm_ (a' := ?_) ?_ ?_; rotate_left
 ·
  show Act.put _ (some 21) _ = _
  simp only [Act.put, zq1, zq2, zq3, i64_w, i32_w]; rfl
 refine one_ (i := 9) (N := some 26) z1b86_m10 rfl rfl (one_of HT_.out (by kernel_rfl)) (by decide) (fun K hK => ?_); refine goes_ Tryd.func64 (by kernel_rfl) rfl #[.int .u64 t233, .int .u64 t235] (by rfl) rfl rfl zM ?_
 with_reducible refine (cmp_Compare_uint64.calls t233 t235 t239 _ A8.out).mono ?_
 rintro e w' ⟨rfl, ⟨nd, rfl⟩⟩; refine ⟨_, rfl, ?_⟩; refine hK.out _ _ ⟨(blk_cell BK236.out 0).trans rfl, (blk_cell BK236.out 1).trans rfl, (blk_cell BK237.out 0).trans rfl, (blk_cell BK237.out 1).trans rfl⟩ (fun hHeld => ?_); clear hK K; refine norm_ (a' := ?_) ?_ ?_; rotate_left
 ·
  show Act.put _ (some 26) _ = _
  simp only [Act.put, zq1, zq2, zq3, i64_w, i32_w]; rfl
 refine one_ (i := 10) (N := some 27) z1b86_m11 rfl rfl (one_of HT_.out (by kernel_rfl)) (by decide) (fun K hK => ?_); refine Kd.R_lit_step (Kd.int .i64) _ 3 ?hg (N := 27) ?hd (xs := ([t238, t239] : List Int)) (inner := [.int .i64 t238, .int .i64 t239]) (ok := fun _ => True) (okp := fun _ => True) ?hr ?hp (fun _ hk => hk) trivial (Below.refl _ _) (Nat.le_refl _) (by simp) ?_; (case hd => rfl); (case hg => rfl); (case hr => first | (go_simp; done) | (go_simp; rfl)); (case hp => exact (Reps.one (show Kd.M (Kd.int .i64) _ _ _ t238 [.int .i64 t238] from rfl) (Reps.one (show Kd.M (Kd.int .i64) _ _ _ t239 [.int .i64 t239] from rfl) (Reps.none _ _)))); intro v241 w19 ho20 hb hg_ hnew_; clear hg_ hnew_
 (first | rw [← Ny240.out] at ho20 | (simp only [Int.reduceToNat] at ho20; rw [← Ny240.out] at ho20))
 have n0_ := Aside0.mk (Kd.R_lower ho20 (below_size (zH2 HB.out GE236.out GE237.out))); have n1_ := zBB BK236 hb; have n2_ := zBB BK237 hb; have n3_ := Aside0.mk (below_step (zH2 HB.out GE236.out GE237.out) hb); clear BK236; clear BK237; clear HB; have HO242 := n0_; have BK236 := n1_; have BK237 := n2_; have HB := n3_; clear n0_ n1_ n2_ n3_; clear hb ho20; obtain ⟨Ao21, co21, eo21⟩ := Kd.R_slice HO242.out
 (first | subst eo21 | (injection eo21 with f1_ f2_ f3_; have f4_ := f1_.symm; have f5_ := f3_.symm; clear f1_ f2_ f3_; subst f4_; subst f5_))
 refine hK.out _ _ ⟨(blk_cell BK236.out 0).trans rfl, (blk_cell BK236.out 1).trans rfl, (blk_cell BK237.out 0).trans rfl, (blk_cell BK237.out 1).trans rfl⟩ (fun hHeld => ?_); clear hK K; refine norm_ (a' := ?_) ?_ ?_; rotate_left
 ·
  show Act.put _ (some 27) _ = _
  simp only [Act.put, zq1, zq2, zq3, i64_w, i32_w]; rfl
 refine one_ (i := 11) (N := some 28) z1b86_m12 rfl rfl (one_of HT_.out (by kernel_rfl)) (by decide) (fun K hK => ?_); refine goes_ Tryd.func62 (by kernel_rfl) rfl #[.slice Ao21 y240.length co21] (by rfl) rfl rfl zM ?_
 with_reducible refine (cmp_Or_int.calls k _ _ y240 t243 _ ?side1 ?side2 A9.out).mono ?_
 (case side1 => repeat (first | exact (Kd.R_reads' HO242.out).2.2 | (with_reducible refine Kd.C_alloc ?_ _) | (with_reducible refine Kd.C_drewN ?_ _) | (with_reducible refine Kd.C_drew ?_)))
 (case side2 => exact (Kd.R_reads' HO242.out).2.1)
 rintro e w' ⟨rfl, ⟨nd, rfl⟩⟩; refine ⟨_, rfl, ?_⟩; refine hK.out _ _ ⟨(blk_cell BK236.out 0).trans rfl, (blk_cell BK236.out 1).trans rfl, (blk_cell BK237.out 0).trans rfl, (blk_cell BK237.out 1).trans rfl⟩ (fun hHeld => ?_); clear hK K; refine norm_ (a' := ?_) ?_ ?_; rotate_left
 ·
  show Act.put _ (some 28) _ = _
  simp only [Act.put, zq1, zq2, zq3, i64_w, i32_w]; rfl
 refine zU 12 8 z1b86_m13 HT_ ?_; refine done_ (done_of HT_.out (by kernel_rfl)) ?_
 try go_wp2
 go_ret
 exact ⟨zE, zH2 HB.out GE236.out GE237.out⟩

/-! ### lots_Cheaper: function 51 -/
def lots_Cheaper.f (k : Nat) (a0_0 : Int) (a0_1 : Int) (a0_2 : Int) (a0_3 : Int) (a1_0 : Int) (a1_1 : Int) (a1_2 : Int) (a1_3 : Int) : Option (Bool) := if a0_1 = 0 then (some (decide (a0_1 > a1_1))) else (if a1_1 = 0 then (some (decide (a0_1 > a1_1))) else ((fix_Cmp.f k a0_2 a1_1 a1_2 a0_1).bind fun t246 => (some (decide (t246 < 0)))))
theorem lots_Cheaper.mono : ∀ a0 a1 a2 a3 a4 a5 a6 a7 k, LeO (lots_Cheaper.f k a0 a1 a2 a3 a4 a5 a6 a7) (lots_Cheaper.f (k + 1) a0 a1 a2 a3 a4 a5 a6 a7) := by
 intro a0 a1 a2 a3 a4 a5 a6 a7 k; unfold lots_Cheaper.f
 repeat' first
   | (with_reducible exact fix_Cmp.mono _ _ _ _ _)
   | (with_reducible exact LeO.refl _)
   | (with_reducible exact LeO.none _)
   | (with_reducible refine LeO.ite ?_ ?_)
   | (with_reducible refine LeO.bind ?_ (fun _ => ?_))
   | exact fix_Cmp.mono _ _ _ _ _
   | exact LeO.none _
   | refine LeO.ite ?_ ?_
   | refine LeO.bind ?_ (fun _ => ?_)
set_option maxHeartbeats 8000000 in
set_option maxRecDepth 100000 in
theorem lots_Cheaper.calls [Inhabited (Int → Addr)] (k : Nat) (a0_0 : Int) (a0_1 : Int) (a0_2 : Int) (a0_3 : Int) (a1_0 : Int) (a1_1 : Int) (a1_2 : Int) (a1_3 : Int) (r : Bool) (w : World) (h : lots_Cheaper.f k a0_0 a0_1 a0_2 a0_3 a1_0 a1_1 a1_2 a1_3 = some r) :
  Calls Tryd.prog 51 #[.agg #[.int .i64 a0_0, .int .i64 a0_1, .int .i64 a0_2, .int .i64 a0_3], .agg #[.int .i64 a1_0, .int .i64 a1_1, .int .i64 a1_2, .int .i64 a1_3]] w fun e w' => e = .returned (.bool r) ∧ Below w.heap.size w w' := by
 have hu47 := Tryd.underlying47; have HB := Aside0.mk (Below.refl w.heap.size w); have H : (if a0_1 = 0 then (some (decide (a0_1 > a1_1))) else (if a1_1 = 0 then (some (decide (a0_1 > a1_1))) else ((fix_Cmp.f k a0_2 a1_1 a1_2 a0_1).bind fun t246 => (some (decide (t246 < 0)))))) = some r := h; clear h; by_cases c3 : a0_1 = 0
 ·
  rw [if_pos c3] at H; have c3b0 : (a0_1 == 0) = true := beq_iff_eq.mpr c3; have c3b1 : (a0_1 != 0) = false := bne_eq_false_iff_eq.mpr c3; clear c3; obtain rfl := Option.some.inj H
  go_enter Tryd.func51, Tryd.ntmps51
  go_wp2_with (first | ((with_reducible refine gate_dst (N := 2) rfl ?_); refine box_event ?hg (N := 2) ?hd (cs := #[.int .i64 a0_0, .int .i64 a0_1, .int .i64 a0_2, .int .i64 a0_3]) (t := 47) ?hr ?_; (case hd => rfl); (case hg => rfl); (case hr => first | (go_simp; done) | (go_simp; rfl)); intro gb244 hg w4 hbox hb; have n0_ := Aside0.mk (below_step (zH HB.out) hb); have n1_ := Aside0.mk (hbox); have n2_ := Aside0.mk (zg hg (below_size (zH HB.out)) : w.heap.size ≤ gb244); have n3_ := Aside0.mk (zg hg (below_size (zH HB.out)) : w.heap.size ≤ gb244); clear HB; have HB := n0_; have BK244 := n1_; have GW244 := n2_; have GE244 := n3_; clear n0_ n1_ n2_ n3_; clear hb hbox hg) | ((with_reducible refine gate_dst (N := 3) rfl ?_); refine box_event ?hg (N := 3) ?hd (cs := #[.int .i64 a1_0, .int .i64 a1_1, .int .i64 a1_2, .int .i64 a1_3]) (t := 47) ?hr ?_; (case hd => rfl); (case hg => rfl); (case hr => first | (go_simp; done) | (go_simp; rfl)); intro gb245 hg w5 hbox hb; have n0_ := zBB BK244 hb; have n1_ := Aside0.mk (below_step (zH1 HB.out GE244.out) hb); have n2_ := Aside0.mk (hbox); have n3_ := Aside0.mk (zg hg (below_size (zH1 HB.out GE244.out)) : w.heap.size ≤ gb245); have n4_ := Aside0.mk (zg hg (below_size (zH1 HB.out GE244.out)) : w.heap.size ≤ gb245); have n5_ := Aside0.mk (zN hg BK244 : gb244 ≠ gb245); have n6_ := Aside0.mk (zO hg BK244 : gb245 ≠ gb244); clear BK244; clear HB; have BK244 := n0_; have HB := n1_; have BK245 := n2_; have GW245 := n3_; have GE245 := n4_; have NB244_245 := n5_; have NB245_244 := n6_; clear n0_ n1_ n2_ n3_ n4_ n5_ n6_; clear hb hbox hg; have hnb6 := NB244_245.out; have hnc6 := NB245_244.out; have hcz7_0 : w5.cell? ⟨gb244, 0, none⟩ = some (.int .i64 a0_0) := (blk_cell BK244.out 0).trans rfl; have hcz7_1 : w5.cell? ⟨gb244, 1, none⟩ = some (.int .i64 a0_1) := (blk_cell BK244.out 1).trans rfl; have hcz7_2 : w5.cell? ⟨gb244, 2, none⟩ = some (.int .i64 a0_2) := (blk_cell BK244.out 2).trans rfl; have hcz7_3 : w5.cell? ⟨gb244, 3, none⟩ = some (.int .i64 a0_3) := (blk_cell BK244.out 3).trans rfl; have hfz7_0 := blk_frozen BK244.out 0; have hfz7_1 := blk_frozen BK244.out 1; have hfz7_2 := blk_frozen BK244.out 2; have hfz7_3 := blk_frozen BK244.out 3; have hcz8_0 : w5.cell? ⟨gb245, 0, none⟩ = some (.int .i64 a1_0) := (blk_cell BK245.out 0).trans rfl; have hcz8_1 : w5.cell? ⟨gb245, 1, none⟩ = some (.int .i64 a1_1) := (blk_cell BK245.out 1).trans rfl; have hcz8_2 : w5.cell? ⟨gb245, 2, none⟩ = some (.int .i64 a1_2) := (blk_cell BK245.out 2).trans rfl; have hcz8_3 : w5.cell? ⟨gb245, 3, none⟩ = some (.int .i64 a1_3) := (blk_cell BK245.out 3).trans rfl; have hfz8_0 := blk_frozen BK245.out 0; have hfz8_1 := blk_frozen BK245.out 1; have hfz8_2 := blk_frozen BK245.out 2; have hfz8_3 := blk_frozen BK245.out 3))
  go_ret
  exact ⟨zE, zH2 HB.out GE244.out GE245.out⟩
 ·
  rw [if_neg c3] at H; have c3b0 : (a0_1 == 0) = false := beq_eq_false_iff_ne.mpr c3; have c3b1 : (a0_1 != 0) = true := bne_iff_ne.mpr c3; by_cases c9 : a1_1 = 0
  ·
   rw [if_pos c9] at H; have c9b0 : (a1_1 == 0) = true := beq_iff_eq.mpr c9; have c9b1 : (a1_1 != 0) = false := bne_eq_false_iff_eq.mpr c9; clear c9; obtain rfl := Option.some.inj H
   go_enter Tryd.func51, Tryd.ntmps51
   go_wp2_with (first | ((with_reducible refine gate_dst (N := 2) rfl ?_); refine box_event ?hg (N := 2) ?hd (cs := #[.int .i64 a0_0, .int .i64 a0_1, .int .i64 a0_2, .int .i64 a0_3]) (t := 47) ?hr ?_; (case hd => rfl); (case hg => rfl); (case hr => first | (go_simp; done) | (go_simp; rfl)); intro gb244 hg w10 hbox hb; have n0_ := Aside0.mk (below_step (zH HB.out) hb); have n1_ := Aside0.mk (hbox); have n2_ := Aside0.mk (zg hg (below_size (zH HB.out)) : w.heap.size ≤ gb244); have n3_ := Aside0.mk (zg hg (below_size (zH HB.out)) : w.heap.size ≤ gb244); clear HB; have HB := n0_; have BK244 := n1_; have GW244 := n2_; have GE244 := n3_; clear n0_ n1_ n2_ n3_; clear hb hbox hg) | ((with_reducible refine gate_dst (N := 3) rfl ?_); refine box_event ?hg (N := 3) ?hd (cs := #[.int .i64 a1_0, .int .i64 a1_1, .int .i64 a1_2, .int .i64 a1_3]) (t := 47) ?hr ?_; (case hd => rfl); (case hg => rfl); (case hr => first | (go_simp; done) | (go_simp; rfl)); intro gb245 hg w11 hbox hb; have n0_ := zBB BK244 hb; have n1_ := Aside0.mk (below_step (zH1 HB.out GE244.out) hb); have n2_ := Aside0.mk (hbox); have n3_ := Aside0.mk (zg hg (below_size (zH1 HB.out GE244.out)) : w.heap.size ≤ gb245); have n4_ := Aside0.mk (zg hg (below_size (zH1 HB.out GE244.out)) : w.heap.size ≤ gb245); have n5_ := Aside0.mk (zN hg BK244 : gb244 ≠ gb245); have n6_ := Aside0.mk (zO hg BK244 : gb245 ≠ gb244); clear BK244; clear HB; have BK244 := n0_; have HB := n1_; have BK245 := n2_; have GW245 := n3_; have GE245 := n4_; have NB244_245 := n5_; have NB245_244 := n6_; clear n0_ n1_ n2_ n3_ n4_ n5_ n6_; clear hb hbox hg; have hnb12 := NB244_245.out; have hnc12 := NB245_244.out; have hcz13_0 : w11.cell? ⟨gb244, 0, none⟩ = some (.int .i64 a0_0) := (blk_cell BK244.out 0).trans rfl; have hcz13_1 : w11.cell? ⟨gb244, 1, none⟩ = some (.int .i64 a0_1) := (blk_cell BK244.out 1).trans rfl; have hcz13_2 : w11.cell? ⟨gb244, 2, none⟩ = some (.int .i64 a0_2) := (blk_cell BK244.out 2).trans rfl; have hcz13_3 : w11.cell? ⟨gb244, 3, none⟩ = some (.int .i64 a0_3) := (blk_cell BK244.out 3).trans rfl; have hfz13_0 := blk_frozen BK244.out 0; have hfz13_1 := blk_frozen BK244.out 1; have hfz13_2 := blk_frozen BK244.out 2; have hfz13_3 := blk_frozen BK244.out 3; have hcz14_0 : w11.cell? ⟨gb245, 0, none⟩ = some (.int .i64 a1_0) := (blk_cell BK245.out 0).trans rfl; have hcz14_1 : w11.cell? ⟨gb245, 1, none⟩ = some (.int .i64 a1_1) := (blk_cell BK245.out 1).trans rfl; have hcz14_2 : w11.cell? ⟨gb245, 2, none⟩ = some (.int .i64 a1_2) := (blk_cell BK245.out 2).trans rfl; have hcz14_3 : w11.cell? ⟨gb245, 3, none⟩ = some (.int .i64 a1_3) := (blk_cell BK245.out 3).trans rfl; have hfz14_0 := blk_frozen BK245.out 0; have hfz14_1 := blk_frozen BK245.out 1; have hfz14_2 := blk_frozen BK245.out 2; have hfz14_3 := blk_frozen BK245.out 3))
   go_ret
   exact ⟨zE, zH2 HB.out GE244.out GE245.out⟩
  ·
   rw [if_neg c9] at H; have c9b0 : (a1_1 == 0) = false := beq_eq_false_iff_ne.mpr c9; have c9b1 : (a1_1 != 0) = true := bne_iff_ne.mpr c9; replace H := Option.bind_eq_some_iff.mp H; obtain ⟨t246, A150, H⟩ := H; replace H : (some (decide (t246 < 0))) = some r := H; have A15 := Aside0.mk A150; clear A150; obtain rfl := Option.some.inj H
   go_enter Tryd.func51, Tryd.ntmps51
   go_wp2_with (first | ((with_reducible refine gate_dst (N := 2) rfl ?_); refine box_event ?hg (N := 2) ?hd (cs := #[.int .i64 a0_0, .int .i64 a0_1, .int .i64 a0_2, .int .i64 a0_3]) (t := 47) ?hr ?_; (case hd => rfl); (case hg => rfl); (case hr => first | (go_simp; done) | (go_simp; rfl)); intro gb244 hg w16 hbox hb; have n0_ := Aside0.mk (below_step (zH HB.out) hb); have n1_ := Aside0.mk (hbox); have n2_ := Aside0.mk (zg hg (below_size (zH HB.out)) : w.heap.size ≤ gb244); have n3_ := Aside0.mk (zg hg (below_size (zH HB.out)) : w.heap.size ≤ gb244); clear HB; have HB := n0_; have BK244 := n1_; have GW244 := n2_; have GE244 := n3_; clear n0_ n1_ n2_ n3_; clear hb hbox hg) | ((with_reducible refine gate_dst (N := 3) rfl ?_); refine box_event ?hg (N := 3) ?hd (cs := #[.int .i64 a1_0, .int .i64 a1_1, .int .i64 a1_2, .int .i64 a1_3]) (t := 47) ?hr ?_; (case hd => rfl); (case hg => rfl); (case hr => first | (go_simp; done) | (go_simp; rfl)); intro gb245 hg w17 hbox hb; have n0_ := zBB BK244 hb; have n1_ := Aside0.mk (below_step (zH1 HB.out GE244.out) hb); have n2_ := Aside0.mk (hbox); have n3_ := Aside0.mk (zg hg (below_size (zH1 HB.out GE244.out)) : w.heap.size ≤ gb245); have n4_ := Aside0.mk (zg hg (below_size (zH1 HB.out GE244.out)) : w.heap.size ≤ gb245); have n5_ := Aside0.mk (zN hg BK244 : gb244 ≠ gb245); have n6_ := Aside0.mk (zO hg BK244 : gb245 ≠ gb244); clear BK244; clear HB; have BK244 := n0_; have HB := n1_; have BK245 := n2_; have GW245 := n3_; have GE245 := n4_; have NB244_245 := n5_; have NB245_244 := n6_; clear n0_ n1_ n2_ n3_ n4_ n5_ n6_; clear hb hbox hg; have hnb18 := NB244_245.out; have hnc18 := NB245_244.out; have hcz19_0 : w17.cell? ⟨gb244, 0, none⟩ = some (.int .i64 a0_0) := (blk_cell BK244.out 0).trans rfl; have hcz19_1 : w17.cell? ⟨gb244, 1, none⟩ = some (.int .i64 a0_1) := (blk_cell BK244.out 1).trans rfl; have hcz19_2 : w17.cell? ⟨gb244, 2, none⟩ = some (.int .i64 a0_2) := (blk_cell BK244.out 2).trans rfl; have hcz19_3 : w17.cell? ⟨gb244, 3, none⟩ = some (.int .i64 a0_3) := (blk_cell BK244.out 3).trans rfl; have hfz19_0 := blk_frozen BK244.out 0; have hfz19_1 := blk_frozen BK244.out 1; have hfz19_2 := blk_frozen BK244.out 2; have hfz19_3 := blk_frozen BK244.out 3; have hcz20_0 : w17.cell? ⟨gb245, 0, none⟩ = some (.int .i64 a1_0) := (blk_cell BK245.out 0).trans rfl; have hcz20_1 : w17.cell? ⟨gb245, 1, none⟩ = some (.int .i64 a1_1) := (blk_cell BK245.out 1).trans rfl; have hcz20_2 : w17.cell? ⟨gb245, 2, none⟩ = some (.int .i64 a1_2) := (blk_cell BK245.out 2).trans rfl; have hcz20_3 : w17.cell? ⟨gb245, 3, none⟩ = some (.int .i64 a1_3) := (blk_cell BK245.out 3).trans rfl; have hfz20_0 := blk_frozen BK245.out 0; have hfz20_1 := blk_frozen BK245.out 1; have hfz20_2 := blk_frozen BK245.out 2; have hfz20_3 := blk_frozen BK245.out 3) | ((with_reducible refine gate_callee (f := 59) rfl ?_); refine goesL_ (some 26) rfl rfl Tryd.func59 (by kernel_rfl) rfl #[.int .i64 a0_2, .int .i64 a1_1, .int .i64 a1_2, .int .i64 a0_1] rfl zM ?_; (with_reducible refine (fix_Cmp.calls k a0_2 a1_1 a1_2 a0_1 t246 _ A15.out).mono ?_); rintro e w21 ⟨rfl, hb⟩; refine ⟨_, rfl, ?_⟩; have n0_ := zBB BK244 hb; have n1_ := zBB BK245 hb; have n2_ := Aside0.mk (below_step (zH2 HB.out GE244.out GE245.out) hb); clear BK244; clear BK245; clear HB; have BK244 := n0_; have BK245 := n1_; have HB := n2_; clear n0_ n1_ n2_; (try clear hb); (try clear hb2); (try clear hk); (try clear hi)))
   go_ret
   exact ⟨zE, zH2 HB.out GE244.out GE245.out⟩

end Go.Proofs.YteooecifecaikaaDoor.ECertSays
