/- The law MoneySays answers true at every input: its card (or its row), out of the pure statement (YtnkpfkniebhfkaaDoorPrMoneySays) and the printed walk. Conditions: the row's own cells alone (its listed variables start as the program's text lays them). -/
import Derived.Test.YtnkpfkniebhfkaaDoorRows
import Derived.Test.YtnkpfkniebhfkaaDoorCards
import Derived.Test.YtnkpfkniebhfkaaDoorTie
import Derived.Test.YtnkpfkniebhfkaaDoorOpen
import Derived.Test.YtnkpfkniebhfkaaDoorEMoneySaysx
import Derived.Test.YtnkpfkniebhfkaaDoorPrMoneySays
import Derived.WalkKit
import Derived.ProofKit
import Derived.OpenShut
import Derived.ShutString
import Derived.ChangeOld
import Derived.Below
import Derived.SizedLaws
import Derived.SevenTiedAt
import Derived.LaidMore
import Derived.LaidHandle
import Derived.Stop.Joined
namespace Go.Proofs.YtnkpfkniebhfkaaDoor.moneySaysRow
open Go.ChangeShapes Go.WideShapes Go.ChangeAt Go.RowKit
open Go.ChangeMaps (open_string shut_string)
open Go.Proofs.YtnkpfkniebhfkaaDoorW.PrintWords Go.Proofs.YtnkpfkniebhfkaaDoorW.PrintLast Go.Proofs.YtnkpfkniebhfkaaDoorW.PrintOpen Go.Proofs.YtnkpfkniebhfkaaDoor.EMoneySays
set_option linter.unusedVariables false
theorem own : ownKnob Tryd.prog.godebug = none := by kernel_rfl
theorem laidOut : laidOutB Tryd.prog = true := by kernel_rfl
def laidL : List (String × DataW Unit) := [("pledge/api.ErrEnd", Rows.laid_pledge_api_ErrEnd), ("pledge/api.ErrShape", Rows.laid_pledge_api_ErrShape), ("pledge/api.ErrRange", Rows.laid_pledge_api_ErrRange), ("pledge/api.ErrOver", Rows.laid_pledge_api_ErrOver), ("pledge/api.ErrMany", Rows.laid_pledge_api_ErrMany), ("pledge/api.ErrNone", Rows.laid_pledge_api_ErrNone), ("pledge/api.ErrThere", Rows.laid_pledge_api_ErrThere), ("pledge/api.ErrFull", Rows.laid_pledge_api_ErrFull), ("pledge/api.ErrCrash", Rows.laid_pledge_api_ErrCrash), ("pledge/api.ErrTwice", Rows.laid_pledge_api_ErrTwice), ("pledge/api.ErrKind", Rows.laid_pledge_api_ErrKind), ("pledge/api.ErrBarred", Rows.laid_pledge_api_ErrBarred), ("pledge/api.ErrShort", Rows.laid_pledge_api_ErrShort), ("pledge/api.ErrBreach", Rows.laid_pledge_api_ErrBreach), ("pledge/api.ErrNeed", Rows.laid_pledge_api_ErrNeed), ("pledge/api.ErrBound", Rows.laid_pledge_api_ErrBound), ("pledge/api.ErrDay", Rows.laid_pledge_api_ErrDay), ("pledge/api.ErrWord", Rows.laid_pledge_api_ErrWord), ("pledge/api.ErrNumber", Rows.laid_pledge_api_ErrNumber), ("pledge/api.ErrBudget", Rows.laid_pledge_api_ErrBudget), ("pledge/api.ErrNothing", Rows.laid_pledge_api_ErrNothing)]
def tab : List ((Int × Nat) × String) := [((101, 4), "pledge/api.ErrEnd"), ((102, 5), "pledge/api.ErrShape"), ((103, 0), "pledge/api.ErrRange"), ((104, 1), "pledge/api.ErrOver"), ((105, 6), "pledge/api.ErrMany"), ((106, 7), "pledge/api.ErrNone"), ((107, 8), "pledge/api.ErrThere"), ((108, 9), "pledge/api.ErrFull"), ((109, 10), "pledge/api.ErrCrash"), ((110, 11), "pledge/api.ErrTwice"), ((111, 12), "pledge/api.ErrKind"), ((112, 13), "pledge/api.ErrBarred"), ((113, 14), "pledge/api.ErrShort"), ((114, 15), "pledge/api.ErrBreach"), ((115, 16), "pledge/api.ErrNeed"), ((116, 17), "pledge/api.ErrBound"), ((117, 18), "pledge/api.ErrDay"), ((118, 19), "pledge/api.ErrWord"), ((119, 20), "pledge/api.ErrNumber"), ((120, 21), "pledge/api.ErrBudget"), ((121, 22), "pledge/api.ErrNothing")]
theorem door_met (os : Os) (args : Array Value) : laidMetH Tryd.prog laidL ((World.doorLaid Tryd.prog 408 os).forCall (fun _ _ => 0) ⟨#[], args, []⟩).memory :=
  laidMetH_of_parts3 (fuel := 8) (laidMet_of_run' 8 (by kernel_rfl) (by kernel_rfl)) (by kernel_rfl) (by kernel_rfl)
theorem errRow : ∀ u, Tryd.prog.typeName? 3 u = some "*errors.errorString" → u = 81 := by
  have star : "*" ++ "errors.errorString" = "*errors.errorString" := by kernel_rfl
  intro u h
  exact typeName_ptr_named (nm := "errors.errorString") (by rw [star]; kernel_rfl) (by kernel_rfl) (by decide) u (by rw [star]; exact h)
theorem globs {W : World} (hL : laidMetH Tryd.prog laidL W) : ∃ inst : Inhabited (Int → Addr), GlobOK W := by
  obtain ⟨sa, h1, h2⟩ := sents_of_laid hL (by kernel_rfl) Tryd.underlying24 errRow Tryd.underlying81 Tryd.underlying99 rfl rfl Tryd.underlying9 (by kernel_rfl) (by kernel_rfl) (fun x hx => by
    have hm : ∀ y ∈ laidL, (∃ text, y.2 = .iface "*errors.errorString" (.ptr (.agg [.lit (.string text)]))) := by
      intro y hy
      simp only [laidL, List.mem_cons, List.not_mem_nil, or_false] at hy
      rcases hy with rfl | rfl | rfl | rfl | rfl | rfl | rfl | rfl | rfl | rfl | rfl | rfl | rfl | rfl | rfl | rfl | rfl | rfl | rfl | rfl | rfl <;> exact ⟨_, rfl⟩
    have hg : (laidL.all fun y => ((Tryd.prog.globalNamed y.1).bind fun g => (Tryd.prog.globals[g]?).map (·.type)) == some 24) = true := by kernel_rfl
    refine ⟨hm x hx, ?_⟩
    have := List.all_eq_true.1 hg x hx
    simp only [beq_iff_eq, Option.bind_eq_some_iff] at this
    exact this)
  have hh := globs_of (tab := tab) h1 h2 (by rfl) (by kernel_rfl)
  exact ⟨⟨fun c => sa (nameOf tab c)⟩, hh⟩
set_option maxRecDepth 100000 in
theorem lifted (os : Os) (started : os.Started) (H : Type) (enc : TypeId × Value → H) :
    ReturnsInHanded {} Tryd.checked os 7 .any (fun w args => (Rows.moneySaysSpec.pre enc Tryd.prog Tryd.f7 [] false w args ∧ laidMetH Tryd.prog laidL w) ∧ sizedMet enc Tryd.prog Tryd.f7 (OpenSpec.ofChange Rows.moneySaysSpec) false w args) (Rows.moneySaysSpec.post enc Tryd.prog Tryd.f7 false true false false) := by
  refine returnsInHanded_of_change_and (C := Tryd.checked) (X := fun w _ => laidMetH Tryd.prog laidL w) (fun _ _ _ hh h => h.of_heap hh) own started (by kernel_rfl) Tryd.func7
    (ChangeSpec.witness_shaped (enc := enc) (C := Tryd.checked) (os := os) (X := fun w _ => laidMetH Tryd.prog laidL w) false (World.doorLaid Tryd.prog 408 os) #[.int .i64 0, .int .i64 0, .int .i64 0, .bool false, .slice none 0 0] 8 rfl (World.shaped_of_RefB (by kernel_rfl) (by kernel_rfl)) (by kernel_rfl) (by kernel_rfl) (by kernel_rfl) (door_met os _)) ?_
  intro W base args ds gs before hval0 hW hcnd hsz0 hL _
  have hsz : (DataW.weightsEach Tryd.prog (Tryd.f7.params.toList ++ Rows.moneySaysSpec.plain.varTypes Tryd.prog) (ds ++ gs)).all (· ≤ reachBytes) = true := hsz0
  have hval : ∀ (j : Nat) t v, Tryd.f7.params[j]? = some t → args[j]? = some v → Value.okWide Tryd.prog W .any base t v := hval0
  have hW' := hW
  obtain ⟨p, q, hA0, hV, rfl, hfz, hnd⟩ := hW
  have hA : DataW.TrodAll enc Tryd.prog W 0 (fun _ => true) true Tryd.f7.params.toList args.toList ds p := hA0
  rw [Tryd.params7] at hA hval hsz
  obtain ⟨v0, vs0, d0, ds0, p0, q0, hargs, rfl, rfl, h0, r0⟩ := trodAll_cons hA
  obtain ⟨v1, vs1, d1, ds1, p1, q1, rfl, rfl, rfl, h1, r1⟩ := trodAll_cons r0
  obtain ⟨v2, vs2, d2, ds2, p2, q2, rfl, rfl, rfl, h2, r2⟩ := trodAll_cons r1
  obtain ⟨v3, vs3, d3, ds3, p3, q3, rfl, rfl, rfl, h3, r3⟩ := trodAll_cons r2
  obtain ⟨v4, vs4, d4, ds4, p4, q4, rfl, rfl, rfl, h4, r4⟩ := trodAll_cons r3
  obtain ⟨rfl, rfl, rfl⟩ := trodAll_nil r4
  obtain rfl : args = #[v0, v1, v2, v3, v4] := by cases args; simp_all
  obtain ⟨rfl, rfl⟩ := trodVars_none hV
  obtain ⟨a0, rfl, rfl, rfl, w0⟩ := open_int Tryd.underlying2 (hval 0 2 v0 rfl rfl) h0
  obtain ⟨a1, rfl, rfl, rfl, w1⟩ := open_int Tryd.underlying2 (hval 1 2 v1 rfl rfl) h1
  obtain ⟨a2, rfl, rfl, rfl, w2⟩ := open_int Tryd.underlying2 (hval 2 2 v2 rfl rfl) h2
  obtain ⟨a3, rfl, rfl, rfl⟩ := open_bool Tryd.underlying4 (hval 3 4 v3 rfl rfl) h3
  obtain ⟨aa4, len4, cap4, rfl⟩ := okWide_slice Tryd.underlying35 (hval 4 35 v4 rfl rfl)
  have k4 := h4
  have lt4 : ∀ x ∈ p4, x.block < W.heap.size := by obtain ⟨m, hm⟩ := k4; exact DataW.trod_lt m _ _ _ hm
  have y4 : len4 * 8 ≤ 140737488351232 := sized_any hsz (j := 4) (t := 35) rfl rfl Tryd.underlying35 (by kernel_rfl) h4
  obtain ⟨fu4, hf4⟩ := h4
  obtain ⟨l4, hK4, ok4⟩ := (Opens.slice Tryd.underlying35 (by kernel_rfl) (Opens.int Tryd.underlying2 (by kernel_rfl))).2 hf4
  obtain ⟨AA4, cc4, e4, hc4, hr4⟩ := hK4
  simp only [Value.cells, List.cons.injEq, Value.slice.injEq, and_true] at e4
  obtain ⟨rfl, rfl, rfl⟩ := e4
  clear hA0 hval0 hsz0 hsz
  obtain ⟨inst, hG⟩ := globs hL
  obtain ⟨k, hk⟩ := Pr.MoneySays a0 a1 a2 a3 l4 (rng_of_wf w0) (rng_of_wf w1) (rng_of_wf w2) y4 ok4
  refine (EMoneySays.pledgelaw3_MoneySays.calls k a0 a1 a2 a3 _ _ l4 true W hG hr4 hc4 hk).mono fun e W' ⟨he, bel0⟩ => ?_
  have bel : Below W.heap.size W W' := bel0
  subst he
  exact ⟨_, rfl, _, _, _, [], _, [], hW', trodAll_mk1 (shut_bool Tryd.underlying4 _), (trodAll_cons_mk (shut_int Tryd.underlying2 w0) (trodAll_cons_mk (shut_int Tryd.underlying2 w1) (trodAll_cons_mk (shut_int Tryd.underlying2 w2) (trodAll_cons_mk (shut_bool Tryd.underlying4 _) (trodAll_cons_mk (Below.trod laidOut (by kernel_rfl) (of_decide_eq_true (by kernel_rfl)) k4 bel lt4) trodAll_mk0))))), rfl, bel.frame _, fun h => by cases h⟩
theorem over : Rows.moneySaysRow.holds Tryd.pinned (OpenSpec.ofChange Rows.moneySaysSpec) :=
  OpenClaim.holds_of_wide 7 Tryd.f7 rfl rfl rfl rfl rfl rfl rfl ⟨rfl, rfl, rfl, rfl, rfl⟩ rfl rfl rfl rfl rfl (by kernel_rfl) Tryd.func7 (by kernel_rfl)
    (of_decide_eq_true (by kernel_rfl)) (by unfold Func.isWrapper; first | (rw [if_pos (by decide +kernel)]; kernel_rfl) | (rw [if_neg (by decide +kernel)]; exact ⟨rfl, rfl⟩))
    (fun os started H enc _ => lifted os started H enc)
theorem proved : Rows.MoneySaysCardSaid :=
  Claim7.holds_tied_plain_at .later [] [.sentinel, .sentinel, .sentinel, .sentinel, .sentinel, .sentinel, .sentinel, .sentinel, .sentinel, .sentinel, .sentinel, .sentinel, .sentinel, .sentinel, .sentinel, .sentinel, .sentinel, .sentinel, .sentinel, .sentinel, .sentinel] true (true, "bdece06a989219284112b4744356f99deb153cd65c7da7281425a8fe3fb74db0") true
    over (fun _ h => by cases h) (by kernel_rfl) (fun _ h => by cases h) moneySays_row_tie rfl ⟨rfl, rfl⟩ (by kernel_rfl) rfl
    (fun f fn hf hfn => by
      obtain rfl : f = 7 := Option.some.inj ((show Tryd.prog.funcNamed "pledge/pledgelaw3.MoneySays" = some 7 by kernel_rfl).symm.trans hf) |>.symm
      obtain rfl : fn = Tryd.f7 := (Option.some.inj (Tryd.func7.symm.trans hfn)).symm
      exact ⟨by kernel_rfl, fun j t ht => by
        have hm : t ∈ Tryd.f7.params.toList := by simpa using Array.mem_of_getElem? ht
        have h : (Tryd.f7.params.toList.all fun t => !Tryd.prog.wantsStandIn t) = true := by kernel_rfl
        have hb := List.all_eq_true.1 h t hm
        exact (show Tryd.prog.wantsStandIn t = false by simpa using hb)⟩)
    (by kernel_rfl)
#print axioms proved
end Go.Proofs.YtnkpfkniebhfkaaDoor.moneySaysRow
namespace Go.Proofs.YtnkpfkniebhfkaaDoor
/-- The statement, under a short name, for the claim. -/
theorem moneySays_holds : Rows.MoneySaysCardSaid := moneySaysRow.proved
end Go.Proofs.YtnkpfkniebhfkaaDoor
