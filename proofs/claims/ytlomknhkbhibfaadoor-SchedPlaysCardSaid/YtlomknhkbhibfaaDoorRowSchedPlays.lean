/- The law SchedPlays answers true at every input: its card (or its row), out of the pure statement (YtlomknhkbhibfaaDoorPrSchedPlays) and the printed walk. Conditions: the row's own cells alone (its listed variables start as the program's text lays them). -/
import Derived.Test.YtlomknhkbhibfaaDoorRows
import Derived.Test.YtlomknhkbhibfaaDoorCards
import Derived.Test.YtlomknhkbhibfaaDoorTie
import Derived.Test.YtlomknhkbhibfaaDoorOpen
import Derived.Test.YtlomknhkbhibfaaDoorESchedPlaysx
import Derived.Test.YtlomknhkbhibfaaDoorPrSchedPlays
import Derived.WalkKit
import Derived.ProofKit
import Derived.OpenShut
import Derived.ShutString
import Derived.ChangeOld
import Derived.Below
import Derived.SizedLaws
import Derived.SevenTiedAt
import Derived.LaidMore
import Derived.LaidHandle
import Derived.Stop.Joined
namespace Go.Proofs.YtlomknhkbhibfaaDoor.schedPlaysRow
open Go.ChangeShapes Go.WideShapes Go.ChangeAt Go.RowKit
open Go.ChangeMaps (open_string shut_string)
open Go.Proofs.YtlomknhkbhibfaaDoorW.PrintWords Go.Proofs.YtlomknhkbhibfaaDoorW.PrintLast Go.Proofs.YtlomknhkbhibfaaDoorW.PrintOpen Go.Proofs.YtlomknhkbhibfaaDoor.ESchedPlays
set_option linter.unusedVariables false
theorem own : ownKnob Tryd.prog.godebug = none := by kernel_rfl
theorem laidOut : laidOutB Tryd.prog = true := by kernel_rfl
theorem opens31 : Opens Tryd.prog k31 (fun x => (Rng .i64 x.f0 ∧ Rng .i64 x.f1 ∧ True)) 31 :=
  Opens.iso (d := (Kd.pair (Kd.int .i64) (Kd.pair (Kd.int .i64) Kd.bool))) (ok := fun a => Rng .i64 a.1 ∧ Rng .i64 a.2.1 ∧ True) (Opens.struct Tryd.underlying31 (by kernel_rfl) (OpensFs.cons (a := (Kd.int .i64)) (b := (Kd.pair (Kd.int .i64) Kd.bool)) (oka := fun a => Rng .i64 a) (okb := fun a => Rng .i64 a.1 ∧ True) (Opens.int Tryd.underlying3 (by kernel_rfl)) rfl (OpensFs.cons (a := (Kd.int .i64)) (b := Kd.bool) (oka := fun a => Rng .i64 a) (okb := fun a => True) (Opens.int Tryd.underlying3 (by kernel_rfl)) rfl (OpensFs.one (d := Kd.bool) (ok := fun a => True) (Opens.bool Tryd.underlying4 (by kernel_rfl)) rfl)))) (fun x : S31 => (x.f0, x.f1, x.f2)) (fun a => ⟨a.1, a.2.1, a.2.2⟩) (fun _ => rfl)
def laidL : List (String × DataW Unit) := [("pledge/api.ErrEnd", Rows.laid_pledge_api_ErrEnd), ("pledge/api.ErrShape", Rows.laid_pledge_api_ErrShape), ("pledge/api.ErrRange", Rows.laid_pledge_api_ErrRange), ("pledge/api.ErrOver", Rows.laid_pledge_api_ErrOver), ("pledge/api.ErrMany", Rows.laid_pledge_api_ErrMany), ("pledge/api.ErrNone", Rows.laid_pledge_api_ErrNone), ("pledge/api.ErrThere", Rows.laid_pledge_api_ErrThere), ("pledge/api.ErrFull", Rows.laid_pledge_api_ErrFull), ("pledge/api.ErrCrash", Rows.laid_pledge_api_ErrCrash), ("pledge/api.ErrTwice", Rows.laid_pledge_api_ErrTwice), ("pledge/api.ErrKind", Rows.laid_pledge_api_ErrKind), ("pledge/api.ErrBarred", Rows.laid_pledge_api_ErrBarred), ("pledge/api.ErrShort", Rows.laid_pledge_api_ErrShort), ("pledge/api.ErrBreach", Rows.laid_pledge_api_ErrBreach), ("pledge/api.ErrNeed", Rows.laid_pledge_api_ErrNeed), ("pledge/api.ErrBound", Rows.laid_pledge_api_ErrBound), ("pledge/api.ErrDay", Rows.laid_pledge_api_ErrDay), ("pledge/api.ErrWord", Rows.laid_pledge_api_ErrWord), ("pledge/api.ErrNumber", Rows.laid_pledge_api_ErrNumber), ("pledge/api.ErrBudget", Rows.laid_pledge_api_ErrBudget), ("pledge/api.ErrNothing", Rows.laid_pledge_api_ErrNothing)]
def tab : List ((Int × Nat) × String) := [((101, 2), "pledge/api.ErrEnd"), ((102, 3), "pledge/api.ErrShape"), ((103, 1), "pledge/api.ErrRange"), ((104, 4), "pledge/api.ErrOver"), ((105, 0), "pledge/api.ErrMany"), ((106, 5), "pledge/api.ErrNone"), ((107, 6), "pledge/api.ErrThere"), ((108, 7), "pledge/api.ErrFull"), ((109, 8), "pledge/api.ErrCrash"), ((110, 9), "pledge/api.ErrTwice"), ((111, 10), "pledge/api.ErrKind"), ((112, 11), "pledge/api.ErrBarred"), ((113, 12), "pledge/api.ErrShort"), ((114, 13), "pledge/api.ErrBreach"), ((115, 14), "pledge/api.ErrNeed"), ((116, 15), "pledge/api.ErrBound"), ((117, 16), "pledge/api.ErrDay"), ((118, 17), "pledge/api.ErrWord"), ((119, 18), "pledge/api.ErrNumber"), ((120, 19), "pledge/api.ErrBudget"), ((121, 20), "pledge/api.ErrNothing")]
theorem door_met (os : Os) (args : Array Value) : laidMetH Tryd.prog laidL ((World.doorLaid Tryd.prog 408 os).forCall (fun _ _ => 0) ⟨#[], args, []⟩).memory :=
  laidMetH_of_parts3 (fuel := 8) (laidMet_of_run' 8 (by kernel_rfl) (by kernel_rfl)) (by kernel_rfl) (by kernel_rfl)
theorem errRow : ∀ u, Tryd.prog.typeName? 3 u = some "*errors.errorString" → u = 74 := by
  have star : "*" ++ "errors.errorString" = "*errors.errorString" := by kernel_rfl
  intro u h
  exact typeName_ptr_named (nm := "errors.errorString") (by rw [star]; kernel_rfl) (by kernel_rfl) (by decide) u (by rw [star]; exact h)
theorem globs {W : World} (hL : laidMetH Tryd.prog laidL W) : ∃ inst : Inhabited (Int → Addr), GlobOK W := by
  obtain ⟨sa, h1, h2⟩ := sents_of_laid hL (by kernel_rfl) Tryd.underlying28 errRow Tryd.underlying74 Tryd.underlying92 rfl rfl Tryd.underlying9 (by kernel_rfl) (by kernel_rfl) (fun x hx => by
    have hm : ∀ y ∈ laidL, (∃ text, y.2 = .iface "*errors.errorString" (.ptr (.agg [.lit (.string text)]))) := by
      intro y hy
      simp only [laidL, List.mem_cons, List.not_mem_nil, or_false] at hy
      rcases hy with rfl | rfl | rfl | rfl | rfl | rfl | rfl | rfl | rfl | rfl | rfl | rfl | rfl | rfl | rfl | rfl | rfl | rfl | rfl | rfl | rfl <;> exact ⟨_, rfl⟩
    have hg : (laidL.all fun y => ((Tryd.prog.globalNamed y.1).bind fun g => (Tryd.prog.globals[g]?).map (·.type)) == some 28) = true := by kernel_rfl
    refine ⟨hm x hx, ?_⟩
    have := List.all_eq_true.1 hg x hx
    simp only [beq_iff_eq, Option.bind_eq_some_iff] at this
    exact this)
  have hh := globs_of (tab := tab) h1 h2 (by rfl) (by kernel_rfl)
  exact ⟨⟨fun c => sa (nameOf tab c)⟩, hh⟩
set_option maxRecDepth 100000 in
theorem lifted (os : Os) (started : os.Started) (H : Type) (enc : TypeId × Value → H) :
    ReturnsInHanded {} Tryd.checked os 5 .any (fun w args => (Rows.schedPlaysSpec.pre enc Tryd.prog Tryd.f5 [] false w args ∧ laidMetH Tryd.prog laidL w) ∧ sizedMet enc Tryd.prog Tryd.f5 (OpenSpec.ofChange Rows.schedPlaysSpec) false w args) (Rows.schedPlaysSpec.post enc Tryd.prog Tryd.f5 false true false false) := by
  refine returnsInHanded_of_change_and (C := Tryd.checked) (X := fun w _ => laidMetH Tryd.prog laidL w) (fun _ _ _ hh h => h.of_heap hh) own started (by kernel_rfl) Tryd.func5
    (ChangeSpec.witness_shaped (enc := enc) (C := Tryd.checked) (os := os) (X := fun w _ => laidMetH Tryd.prog laidL w) false (World.doorLaid Tryd.prog 408 os) #[.slice none 0 0, .int .i64 0, .int .i64 0] 8 rfl (World.shaped_of_RefB (by kernel_rfl) (by kernel_rfl)) (by kernel_rfl) (by kernel_rfl) (by kernel_rfl) (door_met os _)) ?_
  intro W base args ds gs before hval0 hW hcnd hsz0 hL _
  have hsz : (DataW.weightsEach Tryd.prog (Tryd.f5.params.toList ++ Rows.schedPlaysSpec.plain.varTypes Tryd.prog) (ds ++ gs)).all (· ≤ reachBytes) = true := hsz0
  have hval : ∀ (j : Nat) t v, Tryd.f5.params[j]? = some t → args[j]? = some v → Value.okWide Tryd.prog W .any base t v := hval0
  have hW' := hW
  obtain ⟨p, q, hA0, hV, rfl, hfz, hnd⟩ := hW
  have hA : DataW.TrodAll enc Tryd.prog W 0 (fun _ => true) true Tryd.f5.params.toList args.toList ds p := hA0
  rw [Tryd.params5] at hA hval hsz
  obtain ⟨v0, vs0, d0, ds0, p0, q0, hargs, rfl, rfl, h0, r0⟩ := trodAll_cons hA
  obtain ⟨v1, vs1, d1, ds1, p1, q1, rfl, rfl, rfl, h1, r1⟩ := trodAll_cons r0
  obtain ⟨v2, vs2, d2, ds2, p2, q2, rfl, rfl, rfl, h2, r2⟩ := trodAll_cons r1
  obtain ⟨rfl, rfl, rfl⟩ := trodAll_nil r2
  obtain rfl : args = #[v0, v1, v2] := by cases args; simp_all
  obtain ⟨rfl, rfl⟩ := trodVars_none hV
  obtain ⟨aa0, len0, cap0, rfl⟩ := okWide_slice Tryd.underlying24 (hval 0 24 v0 rfl rfl)
  have k0 := h0
  have lt0 : ∀ x ∈ p0, x.block < W.heap.size := by obtain ⟨m, hm⟩ := k0; exact DataW.trod_lt m _ _ _ hm
  have y0 : len0 * 24 ≤ 140737488351232 := sized_any hsz (j := 0) (t := 24) rfl rfl Tryd.underlying24 (by kernel_rfl) h0
  obtain ⟨fu0, hf0⟩ := h0
  obtain ⟨l0, hK0, ok0⟩ := (Opens.slice Tryd.underlying24 (by kernel_rfl) opens31).2 hf0
  obtain ⟨AA0, cc0, e0, hc0, hr0⟩ := hK0
  simp only [Value.cells, List.cons.injEq, Value.slice.injEq, and_true] at e0
  obtain ⟨rfl, rfl, rfl⟩ := e0
  obtain ⟨a1, rfl, rfl, rfl, w1⟩ := open_int Tryd.underlying3 (hval 1 3 v1 rfl rfl) h1
  obtain ⟨a2, rfl, rfl, rfl, w2⟩ := open_int Tryd.underlying3 (hval 2 3 v2 rfl rfl) h2
  clear hA0 hval0 hsz0 hsz
  obtain ⟨inst, hG⟩ := globs hL
  obtain ⟨k, hk⟩ := Pr.SchedPlays l0 a1 a2 y0 ok0 (rng_of_wf w1) (rng_of_wf w2)
  refine (ESchedPlays.pledgelaw11_SchedPlays.calls k _ _ l0 a1 a2 true W hG hr0 hc0 hk).mono fun e W' ⟨he, bel0⟩ => ?_
  have bel : Below W.heap.size W W' := bel0
  subst he
  exact ⟨_, rfl, _, _, _, [], _, [], hW', trodAll_mk1 (shut_bool Tryd.underlying4 _), (trodAll_cons_mk (Below.trod laidOut (by kernel_rfl) (of_decide_eq_true (by kernel_rfl)) k0 bel lt0) (trodAll_cons_mk (shut_int Tryd.underlying3 w1) (trodAll_cons_mk (shut_int Tryd.underlying3 w2) trodAll_mk0))), rfl, bel.frame _, fun h => by cases h⟩
theorem over : Rows.schedPlaysRow.holds Tryd.pinned (OpenSpec.ofChange Rows.schedPlaysSpec) :=
  OpenClaim.holds_of_wide 5 Tryd.f5 rfl rfl rfl rfl rfl rfl rfl ⟨rfl, rfl, rfl, rfl, rfl⟩ rfl rfl rfl rfl rfl (by kernel_rfl) Tryd.func5 (by kernel_rfl)
    (of_decide_eq_true (by kernel_rfl)) (by unfold Func.isWrapper; first | (rw [if_pos (by decide +kernel)]; kernel_rfl) | (rw [if_neg (by decide +kernel)]; exact ⟨rfl, rfl⟩))
    (fun os started H enc _ => lifted os started H enc)
theorem proved : Rows.SchedPlaysCardSaid :=
  Claim7.holds_tied_plain_at .later [] [.sentinel, .sentinel, .sentinel, .sentinel, .sentinel, .sentinel, .sentinel, .sentinel, .sentinel, .sentinel, .sentinel, .sentinel, .sentinel, .sentinel, .sentinel, .sentinel, .sentinel, .sentinel, .sentinel, .sentinel, .sentinel] true (true, "d009071dafb3fbcc8437adfea7b68fd6ff24561a53873ed5c991f6a3b23e6941") true
    over (fun _ h => by cases h) (by kernel_rfl) (fun _ h => by cases h) schedPlays_row_tie rfl ⟨rfl, rfl⟩ (by kernel_rfl) rfl
    (fun f fn hf hfn => by
      obtain rfl : f = 5 := Option.some.inj ((show Tryd.prog.funcNamed "pledge/pledgelaw11.SchedPlays" = some 5 by kernel_rfl).symm.trans hf) |>.symm
      obtain rfl : fn = Tryd.f5 := (Option.some.inj (Tryd.func5.symm.trans hfn)).symm
      exact ⟨by kernel_rfl, fun j t ht => by
        have hm : t ∈ Tryd.f5.params.toList := by simpa using Array.mem_of_getElem? ht
        have h : (Tryd.f5.params.toList.all fun t => !Tryd.prog.wantsStandIn t) = true := by kernel_rfl
        have hb := List.all_eq_true.1 h t hm
        exact (show Tryd.prog.wantsStandIn t = false by simpa using hb)⟩)
    (by kernel_rfl)
#print axioms proved
end Go.Proofs.YtlomknhkbhibfaaDoor.schedPlaysRow
namespace Go.Proofs.YtlomknhkbhibfaaDoor
/-- The statement, under a short name, for the claim. -/
theorem schedPlays_holds : Rows.SchedPlaysCardSaid := schedPlaysRow.proved
end Go.Proofs.YtlomknhkbhibfaaDoor
