/- The law FixSums answers true at every input: its card (or its row), out of the pure statement (YtjfemoebahnbnaaPrFixSums) and the printed walk. Conditions: the row's own cells alone (its listed variables start as the program's text lays them). -/
import Derived.Test.YtjfemoebahnbnaaRows
import Derived.Test.YtjfemoebahnbnaaOpen
import Derived.Test.YtjfemoebahnbnaaEFixSumsx
import Derived.Test.YtjfemoebahnbnaaPrFixSums
import Derived.WalkKit
import Derived.ProofKit
import Derived.OpenShut
import Derived.ShutString
import Derived.ChangeOld
import Derived.Below
import Derived.SizedLaws
namespace Go.Proofs.Ytjfemoebahnbnaa.fixSumsRow
open Go.ChangeShapes Go.WideShapes Go.ChangeAt Go.RowKit
open Go.ChangeMaps (open_string shut_string)
open Go.Proofs.YtjfemoebahnbnaaW.PrintWords Go.Proofs.YtjfemoebahnbnaaW.PrintLast Go.Proofs.YtjfemoebahnbnaaW.PrintOpen Go.Proofs.Ytjfemoebahnbnaa.EFixSums
set_option linter.unusedVariables false
theorem own : ownKnob Try.prog.godebug = none := by kernel_rfl
theorem laidOut : laidOutB Try.prog = true := by kernel_rfl
set_option maxRecDepth 100000 in
theorem lifted (os : Os) (started : os.Started) (H : Type) (enc : TypeId × Value → H) :
    ReturnsInHanded {} Try.checked os 6 .any (Rows.fixSumsSpec.pre6 enc Try.prog Try.f6 Rows.fixSumsRow.domain false) (Rows.fixSumsSpec.post enc Try.prog Try.f6 false true false false) := by
  refine returnsInHanded_of_change_sized (C := Try.checked) own started (by kernel_rfl) Try.func6
    (ChangeSpec.witness6 (enc := enc) (C := Try.checked) false ⟨#[], #[.slice none 0 0, .int .i64 0], []⟩ 8 (by kernel_rfl) (by kernel_rfl) (by kernel_rfl) (by kernel_rfl)) ?_
  intro W base args ds gs before hval0 hW hcnd hsz0 _
  have hsz : (DataW.weightsEach Try.prog (Try.f6.params.toList ++ Rows.fixSumsSpec.plain.varTypes Try.prog) (ds ++ gs)).all (· ≤ reachBytes) = true := hsz0
  have hval : ∀ (j : Nat) t v, Try.f6.params[j]? = some t → args[j]? = some v → Value.okWide Try.prog W .any base t v := hval0
  have hW' := hW
  obtain ⟨p, q, hA0, hV, rfl, hfz, hnd⟩ := hW
  have hA : DataW.TrodAll enc Try.prog W 0 (fun _ => true) true Try.f6.params.toList args.toList ds p := hA0
  rw [Try.params6] at hA hval hsz
  obtain ⟨v0, vs0, d0, ds0, p0, q0, hargs, rfl, rfl, h0, r0⟩ := trodAll_cons hA
  obtain ⟨v1, vs1, d1, ds1, p1, q1, rfl, rfl, rfl, h1, r1⟩ := trodAll_cons r0
  obtain ⟨rfl, rfl, rfl⟩ := trodAll_nil r1
  obtain rfl : args = #[v0, v1] := by cases args; simp_all
  obtain ⟨rfl, rfl⟩ := trodVars_none hV
  obtain ⟨aa0, len0, cap0, rfl⟩ := okWide_slice Try.underlying29 (hval 0 29 v0 rfl rfl)
  have k0 := h0
  have lt0 : ∀ x ∈ p0, x.block < W.heap.size := by obtain ⟨m, hm⟩ := k0; exact DataW.trod_lt m _ _ _ hm
  have y0 : len0 * 8 ≤ 140737488351232 := sized_any hsz (j := 0) (t := 29) rfl rfl Try.underlying29 (by kernel_rfl) h0
  obtain ⟨fu0, hf0⟩ := h0
  obtain ⟨l0, hK0, ok0⟩ := (Opens.slice Try.underlying29 (by kernel_rfl) (Opens.int Try.underlying2 (by kernel_rfl))).2 hf0
  obtain ⟨AA0, cc0, e0, hc0, hr0⟩ := hK0
  simp only [Value.cells, List.cons.injEq, Value.slice.injEq, and_true] at e0
  obtain ⟨rfl, rfl, rfl⟩ := e0
  obtain ⟨a1, rfl, rfl, rfl, w1⟩ := open_int Try.underlying3 (hval 1 3 v1 rfl rfl) h1
  clear hA0 hval0 hsz0 hsz
  have inst : Inhabited (Int → Addr) := ⟨fun _ => ⟨0, 0, none⟩⟩
  have hG : GlobOK W := ⟨fun p hp => by simp [globTab] at hp, fun p hp => by simp [globTab] at hp⟩
  obtain ⟨k, hk⟩ := Pr.FixSums l0 a1 y0 ok0 (rng_of_wf w1)
  refine (EFixSums.pledgelaw2_FixSums.calls k _ _ l0 a1 true W hG hr0 hc0 hk).mono fun e W' ⟨he, bel0⟩ => ?_
  have bel : Below W.heap.size W W' := bel0
  subst he
  exact ⟨_, rfl, _, _, _, [], _, [], hW', trodAll_mk1 (shut_bool Try.underlying4 _), (trodAll_cons_mk (Below.trod laidOut (by kernel_rfl) (of_decide_eq_true (by kernel_rfl)) k0 bel lt0) (trodAll_cons_mk (shut_int Try.underlying3 w1) trodAll_mk0)), rfl, bel.frame _, fun h => by cases h⟩
theorem over : Rows.fixSumsRow.holds Try.pinned (OpenSpec.ofChange Rows.fixSumsSpec) :=
  OpenClaim.holds_of_wide 6 Try.f6 rfl rfl rfl rfl rfl rfl rfl ⟨rfl, rfl, rfl, rfl, rfl⟩ rfl rfl rfl rfl rfl (by kernel_rfl) Try.func6 (by kernel_rfl)
    (of_decide_eq_true (by kernel_rfl)) (by unfold Func.isWrapper; first | (rw [if_pos (by decide +kernel)]; kernel_rfl) | (rw [if_neg (by decide +kernel)]; exact ⟨rfl, rfl⟩))
    (fun os started H enc _ => lifted os started H enc)
theorem proved : Rows.FixSumsSaid := over
#print axioms proved
end Go.Proofs.Ytjfemoebahnbnaa.fixSumsRow
namespace Go.Proofs.Ytjfemoebahnbnaa
/-- The statement, under a short name, for the claim. -/
theorem fixSums_holds : Rows.FixSumsSaid := fixSumsRow.proved
end Go.Proofs.Ytjfemoebahnbnaa
