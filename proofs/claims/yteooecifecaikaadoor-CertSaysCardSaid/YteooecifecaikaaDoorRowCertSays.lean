/- The law CertSays answers true at every input: its card (or its row), out of the pure statement (YteooecifecaikaaDoorPrCertSays) and the printed walk. Conditions: the row's own cells alone (its listed variables start as the program's text lays them). -/
import Derived.Test.YteooecifecaikaaDoorRows
import Derived.Test.YteooecifecaikaaDoorCards
import Derived.Test.YteooecifecaikaaDoorTie
import Derived.Test.YteooecifecaikaaDoorOpen
import Derived.Test.YteooecifecaikaaDoorECertSaysx
import Derived.Test.YteooecifecaikaaDoorPrCertSays
import Derived.WalkKit
import Derived.ProofKit
import Derived.OpenShut
import Derived.ShutString
import Derived.ChangeOld
import Derived.Below
import Derived.SizedLaws
import Derived.SevenTiedAt
import Derived.LaidMore
import Derived.LaidHandle
import Derived.Stop.Joined
namespace Go.Proofs.YteooecifecaikaaDoor.certSaysRow
open Go.ChangeShapes Go.WideShapes Go.ChangeAt Go.RowKit
open Go.ChangeMaps (open_string shut_string)
open Go.Proofs.YteooecifecaikaaDoorW.PrintWords Go.Proofs.YteooecifecaikaaDoorW.PrintLast Go.Proofs.YteooecifecaikaaDoorW.PrintOpen Go.Proofs.YteooecifecaikaaDoor.ECertSays
set_option linter.unusedVariables false
theorem own : ownKnob Tryd.prog.godebug = none := by kernel_rfl
theorem laidOut : laidOutB Tryd.prog = true := by kernel_rfl
theorem opens47 : Opens Tryd.prog k47 (fun x => (Rng .i64 x.f0 ∧ Rng .i64 x.f1 ∧ Rng .i64 x.f2 ∧ Rng .i64 x.f3)) 47 :=
  Opens.iso (d := (Kd.pair (Kd.int .i64) (Kd.pair (Kd.int .i64) (Kd.pair (Kd.int .i64) (Kd.int .i64))))) (ok := fun a => Rng .i64 a.1 ∧ Rng .i64 a.2.1 ∧ Rng .i64 a.2.2.1 ∧ Rng .i64 a.2.2.2) (Opens.struct Tryd.underlying47 (by kernel_rfl) (OpensFs.cons (a := (Kd.int .i64)) (b := (Kd.pair (Kd.int .i64) (Kd.pair (Kd.int .i64) (Kd.int .i64)))) (oka := fun a => Rng .i64 a) (okb := fun a => Rng .i64 a.1 ∧ Rng .i64 a.2.1 ∧ Rng .i64 a.2.2) (Opens.int Tryd.underlying3 (by kernel_rfl)) rfl (OpensFs.cons (a := (Kd.int .i64)) (b := (Kd.pair (Kd.int .i64) (Kd.int .i64))) (oka := fun a => Rng .i64 a) (okb := fun a => Rng .i64 a.1 ∧ Rng .i64 a.2) (Opens.int Tryd.underlying2 (by kernel_rfl)) rfl (OpensFs.cons (a := (Kd.int .i64)) (b := (Kd.int .i64)) (oka := fun a => Rng .i64 a) (okb := fun a => Rng .i64 a) (Opens.int Tryd.underlying2 (by kernel_rfl)) rfl (OpensFs.one (d := (Kd.int .i64)) (ok := fun a => Rng .i64 a) (Opens.int Tryd.underlying3 (by kernel_rfl)) rfl))))) (fun x : S47 => (x.f0, x.f1, x.f2, x.f3)) (fun a => ⟨a.1, a.2.1, a.2.2.1, a.2.2.2⟩) (fun _ => rfl)
theorem opens25 : Opens Tryd.prog k25 (fun x => ((x.f0.length ≤ maxLen ∧ ∀ y ∈ x.f0, (Rng .i64 y.f0 ∧ Rng .i64 y.f1 ∧ Rng .i64 y.f2 ∧ Rng .i64 y.f3)) ∧ (x.f1.length ≤ maxLen ∧ ∀ y ∈ x.f1, Rng .i64 y) ∧ Rng .i64 x.f2)) 25 :=
  Opens.iso (d := (Kd.pair (Kd.slice 47 k47) (Kd.pair (Kd.slice 2 (Kd.int .i64)) (Kd.int .i64)))) (ok := fun a => (a.1.length ≤ maxLen ∧ ∀ x ∈ a.1, (Rng .i64 x.f0 ∧ Rng .i64 x.f1 ∧ Rng .i64 x.f2 ∧ Rng .i64 x.f3)) ∧ (a.2.1.length ≤ maxLen ∧ ∀ x ∈ a.2.1, Rng .i64 x) ∧ Rng .i64 a.2.2) (Opens.struct Tryd.underlying25 (by kernel_rfl) (OpensFs.cons (a := (Kd.slice 47 k47)) (b := (Kd.pair (Kd.slice 2 (Kd.int .i64)) (Kd.int .i64))) (oka := fun a => (a.length ≤ maxLen ∧ ∀ x ∈ a, (Rng .i64 x.f0 ∧ Rng .i64 x.f1 ∧ Rng .i64 x.f2 ∧ Rng .i64 x.f3))) (okb := fun a => (a.1.length ≤ maxLen ∧ ∀ x ∈ a.1, Rng .i64 x) ∧ Rng .i64 a.2) (Opens.slice Tryd.underlying22 (by kernel_rfl) opens47) rfl (OpensFs.cons (a := (Kd.slice 2 (Kd.int .i64))) (b := (Kd.int .i64)) (oka := fun a => (a.length ≤ maxLen ∧ ∀ x ∈ a, Rng .i64 x)) (okb := fun a => Rng .i64 a) (Opens.slice Tryd.underlying23 (by kernel_rfl) (Opens.int Tryd.underlying2 (by kernel_rfl))) rfl (OpensFs.one (d := (Kd.int .i64)) (ok := fun a => Rng .i64 a) (Opens.int Tryd.underlying2 (by kernel_rfl)) rfl)))) (fun x : S25 => (x.f0, x.f1, x.f2)) (fun a => ⟨a.1, a.2.1, a.2.2⟩) (fun _ => rfl)
theorem opens28 : Opens Tryd.prog k28 (fun x => ((x.f0.length ≤ maxLen ∧ ∀ y ∈ x.f0, Rng .i64 y) ∧ Rng .i64 x.f1 ∧ Rng .i64 x.f2 ∧ True ∧ Rng .i64 x.f4)) 28 :=
  Opens.iso (d := (Kd.pair (Kd.slice 3 (Kd.int .i64)) (Kd.pair (Kd.int .i64) (Kd.pair (Kd.int .i64) (Kd.pair Kd.bool (Kd.int .i64)))))) (ok := fun a => (a.1.length ≤ maxLen ∧ ∀ x ∈ a.1, Rng .i64 x) ∧ Rng .i64 a.2.1 ∧ Rng .i64 a.2.2.1 ∧ True ∧ Rng .i64 a.2.2.2.2) (Opens.struct Tryd.underlying28 (by kernel_rfl) (OpensFs.cons (a := (Kd.slice 3 (Kd.int .i64))) (b := (Kd.pair (Kd.int .i64) (Kd.pair (Kd.int .i64) (Kd.pair Kd.bool (Kd.int .i64))))) (oka := fun a => (a.length ≤ maxLen ∧ ∀ x ∈ a, Rng .i64 x)) (okb := fun a => Rng .i64 a.1 ∧ Rng .i64 a.2.1 ∧ True ∧ Rng .i64 a.2.2.2) (Opens.slice Tryd.underlying26 (by kernel_rfl) (Opens.int Tryd.underlying3 (by kernel_rfl))) rfl (OpensFs.cons (a := (Kd.int .i64)) (b := (Kd.pair (Kd.int .i64) (Kd.pair Kd.bool (Kd.int .i64)))) (oka := fun a => Rng .i64 a) (okb := fun a => Rng .i64 a.1 ∧ True ∧ Rng .i64 a.2.2) (Opens.int Tryd.underlying2 (by kernel_rfl)) rfl (OpensFs.cons (a := (Kd.int .i64)) (b := (Kd.pair Kd.bool (Kd.int .i64))) (oka := fun a => Rng .i64 a) (okb := fun a => True ∧ Rng .i64 a.2) (Opens.int Tryd.underlying2 (by kernel_rfl)) rfl (OpensFs.cons (a := Kd.bool) (b := (Kd.int .i64)) (oka := fun a => True) (okb := fun a => Rng .i64 a) (Opens.bool Tryd.underlying4 (by kernel_rfl)) rfl (OpensFs.one (d := (Kd.int .i64)) (ok := fun a => Rng .i64 a) (Opens.int Tryd.underlying3 (by kernel_rfl)) rfl)))))) (fun x : S28 => (x.f0, x.f1, x.f2, x.f3, x.f4)) (fun a => ⟨a.1, a.2.1, a.2.2.1, a.2.2.2.1, a.2.2.2.2⟩) (fun _ => rfl)
def laidL : List (String × DataW Unit) := [("pledge/api.ErrEnd", Rows.laid_pledge_api_ErrEnd), ("pledge/api.ErrShape", Rows.laid_pledge_api_ErrShape), ("pledge/api.ErrRange", Rows.laid_pledge_api_ErrRange), ("pledge/api.ErrOver", Rows.laid_pledge_api_ErrOver), ("pledge/api.ErrMany", Rows.laid_pledge_api_ErrMany), ("pledge/api.ErrNone", Rows.laid_pledge_api_ErrNone), ("pledge/api.ErrThere", Rows.laid_pledge_api_ErrThere), ("pledge/api.ErrFull", Rows.laid_pledge_api_ErrFull), ("pledge/api.ErrCrash", Rows.laid_pledge_api_ErrCrash), ("pledge/api.ErrTwice", Rows.laid_pledge_api_ErrTwice), ("pledge/api.ErrKind", Rows.laid_pledge_api_ErrKind), ("pledge/api.ErrBarred", Rows.laid_pledge_api_ErrBarred), ("pledge/api.ErrShort", Rows.laid_pledge_api_ErrShort), ("pledge/api.ErrBreach", Rows.laid_pledge_api_ErrBreach), ("pledge/api.ErrNeed", Rows.laid_pledge_api_ErrNeed), ("pledge/api.ErrBound", Rows.laid_pledge_api_ErrBound), ("pledge/api.ErrDay", Rows.laid_pledge_api_ErrDay), ("pledge/api.ErrWord", Rows.laid_pledge_api_ErrWord), ("pledge/api.ErrNumber", Rows.laid_pledge_api_ErrNumber), ("pledge/api.ErrBudget", Rows.laid_pledge_api_ErrBudget), ("pledge/api.ErrNothing", Rows.laid_pledge_api_ErrNothing)]
def tab : List ((Int × Nat) × String) := [((101, 6), "pledge/api.ErrEnd"), ((102, 0), "pledge/api.ErrShape"), ((103, 3), "pledge/api.ErrRange"), ((104, 7), "pledge/api.ErrOver"), ((105, 2), "pledge/api.ErrMany"), ((106, 8), "pledge/api.ErrNone"), ((107, 9), "pledge/api.ErrThere"), ((108, 10), "pledge/api.ErrFull"), ((109, 11), "pledge/api.ErrCrash"), ((110, 12), "pledge/api.ErrTwice"), ((111, 13), "pledge/api.ErrKind"), ((112, 14), "pledge/api.ErrBarred"), ((113, 15), "pledge/api.ErrShort"), ((114, 16), "pledge/api.ErrBreach"), ((115, 1), "pledge/api.ErrNeed"), ((116, 17), "pledge/api.ErrBound"), ((117, 18), "pledge/api.ErrDay"), ((118, 19), "pledge/api.ErrWord"), ((119, 20), "pledge/api.ErrNumber"), ((120, 21), "pledge/api.ErrBudget"), ((121, 22), "pledge/api.ErrNothing")]
theorem door_met (os : Os) (args : Array Value) : laidMetH Tryd.prog laidL ((World.doorLaid Tryd.prog 408 os).forCall (fun _ _ => 0) ⟨#[], args, []⟩).memory :=
  laidMetH_of_parts3 (fuel := 8) (laidMet_of_run' 8 (by kernel_rfl) (by kernel_rfl)) (by kernel_rfl) (by kernel_rfl)
theorem errRow : ∀ u, Tryd.prog.typeName? 3 u = some "*errors.errorString" → u = 107 := by
  have star : "*" ++ "errors.errorString" = "*errors.errorString" := by kernel_rfl
  intro u h
  exact typeName_ptr_named (nm := "errors.errorString") (by rw [star]; kernel_rfl) (by kernel_rfl) (by decide) u (by rw [star]; exact h)
theorem globs {W : World} (hL : laidMetH Tryd.prog laidL W) : ∃ inst : Inhabited (Int → Addr), GlobOK W := by
  obtain ⟨sa, h1, h2⟩ := sents_of_laid hL (by kernel_rfl) Tryd.underlying36 errRow Tryd.underlying107 Tryd.underlying126 rfl rfl Tryd.underlying9 (by kernel_rfl) (by kernel_rfl) (fun x hx => by
    have hm : ∀ y ∈ laidL, (∃ text, y.2 = .iface "*errors.errorString" (.ptr (.agg [.lit (.string text)]))) := by
      intro y hy
      simp only [laidL, List.mem_cons, List.not_mem_nil, or_false] at hy
      rcases hy with rfl | rfl | rfl | rfl | rfl | rfl | rfl | rfl | rfl | rfl | rfl | rfl | rfl | rfl | rfl | rfl | rfl | rfl | rfl | rfl | rfl <;> exact ⟨_, rfl⟩
    have hg : (laidL.all fun y => ((Tryd.prog.globalNamed y.1).bind fun g => (Tryd.prog.globals[g]?).map (·.type)) == some 36) = true := by kernel_rfl
    refine ⟨hm x hx, ?_⟩
    have := List.all_eq_true.1 hg x hx
    simp only [beq_iff_eq, Option.bind_eq_some_iff] at this
    exact this)
  have hh := globs_of (tab := tab) h1 h2 (by rfl) (by kernel_rfl)
  exact ⟨⟨fun c => sa (nameOf tab c)⟩, hh⟩
set_option maxRecDepth 100000 in
theorem lifted (os : Os) (started : os.Started) (H : Type) (enc : TypeId × Value → H) :
    ReturnsInHanded {} Tryd.checked os 3 .any (fun w args => (Rows.certSaysSpec.pre enc Tryd.prog Tryd.f3 [] false w args ∧ laidMetH Tryd.prog laidL w) ∧ sizedMet enc Tryd.prog Tryd.f3 (OpenSpec.ofChange Rows.certSaysSpec) false w args) (Rows.certSaysSpec.post enc Tryd.prog Tryd.f3 false true false false) := by
  refine returnsInHanded_of_change_and (C := Tryd.checked) (X := fun w _ => laidMetH Tryd.prog laidL w) (fun _ _ _ hh h => h.of_heap hh) own started (by kernel_rfl) Tryd.func3
    (ChangeSpec.witness_shaped (enc := enc) (C := Tryd.checked) (os := os) (X := fun w _ => laidMetH Tryd.prog laidL w) false (World.doorLaid Tryd.prog 408 os) #[.agg #[.slice none 0 0, .slice none 0 0, .int .i64 0], .agg #[.slice none 0 0, .int .i64 0, .int .i64 0, .bool false, .int .i64 0]] 8 rfl (World.shaped_of_RefB (by kernel_rfl) (by kernel_rfl)) (by kernel_rfl) (by kernel_rfl) (by kernel_rfl) (door_met os _)) ?_
  intro W base args ds gs before hval0 hW hcnd hsz0 hL _
  have hsz : (DataW.weightsEach Tryd.prog (Tryd.f3.params.toList ++ Rows.certSaysSpec.plain.varTypes Tryd.prog) (ds ++ gs)).all (· ≤ reachBytes) = true := hsz0
  have hval : ∀ (j : Nat) t v, Tryd.f3.params[j]? = some t → args[j]? = some v → Value.okWide Tryd.prog W .any base t v := hval0
  have hW' := hW
  obtain ⟨p, q, hA0, hV, rfl, hfz, hnd⟩ := hW
  have hA : DataW.TrodAll enc Tryd.prog W 0 (fun _ => true) true Tryd.f3.params.toList args.toList ds p := hA0
  rw [Tryd.params3] at hA hval hsz
  obtain ⟨v0, vs0, d0, ds0, p0, q0, hargs, rfl, rfl, h0, r0⟩ := trodAll_cons hA
  obtain ⟨v1, vs1, d1, ds1, p1, q1, rfl, rfl, rfl, h1, r1⟩ := trodAll_cons r0
  obtain ⟨rfl, rfl, rfl⟩ := trodAll_nil r1
  obtain rfl : args = #[v0, v1] := by cases args; simp_all
  obtain ⟨rfl, rfl⟩ := trodVars_none hV
  obtain ⟨cs0, rfl, hcs0⟩ := okWide_struct Tryd.underlying25 (hval 0 25 v0 rfl rfl)
  have k0 := h0
  have lt0 : ∀ x ∈ p0, x.block < W.heap.size := by obtain ⟨m, hm⟩ := k0; exact DataW.trod_lt m _ _ _ hm
  obtain ⟨fu0, hf0⟩ := h0
  obtain ⟨x0, hK0, ok0⟩ := opens25.2 hf0
  obtain ⟨cs0⟩ := cs0
  obtain ⟨ua0_0, uc0_0, ua0_1, uc0_1, e0, hc0_0, hr0_0, hc0_1, hr0_1⟩ := k25_open hK0
  have e0' : cs0 = _ := e0
  subst e0'
  obtain ⟨o0_f0, o0_f1, o0_f2⟩ := ok0
  obtain ⟨cs1, rfl, hcs1⟩ := okWide_struct Tryd.underlying28 (hval 1 28 v1 rfl rfl)
  have k1 := h1
  have lt1 : ∀ x ∈ p1, x.block < W.heap.size := by obtain ⟨m, hm⟩ := k1; exact DataW.trod_lt m _ _ _ hm
  obtain ⟨fu1, hf1⟩ := h1
  obtain ⟨x1, hK1, ok1⟩ := opens28.2 hf1
  obtain ⟨cs1⟩ := cs1
  obtain ⟨ua1_0, uc1_0, e1, hc1_0, hr1_0⟩ := k28_open hK1
  have e1' : cs1 = _ := e1
  subst e1'
  obtain ⟨o1_f0, o1_f1, o1_f2, o1_f3, o1_f4⟩ := ok1
  clear hA0 hval0 hsz0 hsz
  obtain ⟨inst, hG⟩ := globs hL
  obtain ⟨k, hk⟩ := Pr.CertSays x0.f0 x0.f1 x0.f2 x1.f0 x1.f1 x1.f2 x1.f3 x1.f4 o0_f0 o0_f1 o0_f2 o1_f0 o1_f1 o1_f2 o1_f4
  refine (ECertSays.pledgelaw21_CertSays.calls k _ _ x0.f0 _ _ x0.f1 x0.f2 _ _ x1.f0 x1.f1 x1.f2 x1.f3 x1.f4 true W hG hr0_0 hc0_0 hr0_1 hc0_1 hr1_0 hc1_0 hk).mono fun e W' ⟨he, bel0⟩ => ?_
  have bel : Below W.heap.size W W' := bel0
  subst he
  exact ⟨_, rfl, _, _, _, [], _, [], hW', trodAll_mk1 (shut_bool Tryd.underlying4 _), (trodAll_cons_mk (Below.trod laidOut (by kernel_rfl) (of_decide_eq_true (by kernel_rfl)) k0 bel lt0) (trodAll_cons_mk (Below.trod laidOut (by kernel_rfl) (of_decide_eq_true (by kernel_rfl)) k1 bel lt1) trodAll_mk0)), rfl, bel.frame _, fun h => by cases h⟩
theorem over : Rows.certSaysRow.holds Tryd.pinned (OpenSpec.ofChange Rows.certSaysSpec) :=
  OpenClaim.holds_of_wide 3 Tryd.f3 rfl rfl rfl rfl rfl rfl rfl ⟨rfl, rfl, rfl, rfl, rfl⟩ rfl rfl rfl rfl rfl (by kernel_rfl) Tryd.func3 (by kernel_rfl)
    (of_decide_eq_true (by kernel_rfl)) (by unfold Func.isWrapper; first | (rw [if_pos (by decide +kernel)]; kernel_rfl) | (rw [if_neg (by decide +kernel)]; exact ⟨rfl, rfl⟩))
    (fun os started H enc _ => lifted os started H enc)
theorem proved : Rows.CertSaysCardSaid :=
  Claim7.holds_tied_plain_at .later [] [.sentinel, .sentinel, .sentinel, .sentinel, .sentinel, .sentinel, .sentinel, .sentinel, .sentinel, .sentinel, .sentinel, .sentinel, .sentinel, .sentinel, .sentinel, .sentinel, .sentinel, .sentinel, .sentinel, .sentinel, .sentinel] true (true, "9d85cf68f71b5c1a2a6af3322a8084d4ac23096e107209f21456fd1bfb8ba7b3") true
    over (fun _ h => by cases h) (by kernel_rfl) (fun _ h => by cases h) certSays_row_tie rfl ⟨rfl, rfl⟩ (by kernel_rfl) rfl
    (fun f fn hf hfn => by
      obtain rfl : f = 3 := Option.some.inj ((show Tryd.prog.funcNamed "pledge/pledgelaw21.CertSays" = some 3 by kernel_rfl).symm.trans hf) |>.symm
      obtain rfl : fn = Tryd.f3 := (Option.some.inj (Tryd.func3.symm.trans hfn)).symm
      exact ⟨by kernel_rfl, fun j t ht => by
        have hm : t ∈ Tryd.f3.params.toList := by simpa using Array.mem_of_getElem? ht
        have h : (Tryd.f3.params.toList.all fun t => !Tryd.prog.wantsStandIn t) = true := by kernel_rfl
        have hb := List.all_eq_true.1 h t hm
        exact (show Tryd.prog.wantsStandIn t = false by simpa using hb)⟩)
    (by kernel_rfl)
#print axioms proved
end Go.Proofs.YteooecifecaikaaDoor.certSaysRow
namespace Go.Proofs.YteooecifecaikaaDoor
/-- The statement, under a short name, for the claim. -/
theorem certSays_holds : Rows.CertSaysCardSaid := certSaysRow.proved
end Go.Proofs.YteooecifecaikaaDoor
