/- The law LotsSay answers true at every input: its card (or its row), out of the pure statement (YtlalofmilhakjaaDoorPrLotsSay) and the printed walk. Conditions: the row's own cells alone (its listed variables start as the program's text lays them). -/
import Derived.Test.YtlalofmilhakjaaDoorRows
import Derived.Test.YtlalofmilhakjaaDoorCards
import Derived.Test.YtlalofmilhakjaaDoorTie
import Derived.Test.YtlalofmilhakjaaDoorOpen
import Derived.Test.YtlalofmilhakjaaDoorELotsSayx
import Derived.Test.YtlalofmilhakjaaDoorPrLotsSay
import Derived.WalkKit
import Derived.ProofKit
import Derived.OpenShut
import Derived.ShutString
import Derived.ChangeOld
import Derived.Below
import Derived.SizedLaws
import Derived.SevenTiedAt
import Derived.LaidMore
import Derived.LaidHandle
import Derived.Stop.Joined
namespace Go.Proofs.YtlalofmilhakjaaDoor.lotsSayRow
open Go.ChangeShapes Go.WideShapes Go.ChangeAt Go.RowKit
open Go.ChangeMaps (open_string shut_string)
open Go.Proofs.YtlalofmilhakjaaDoorW.PrintWords Go.Proofs.YtlalofmilhakjaaDoorW.PrintLast Go.Proofs.YtlalofmilhakjaaDoorW.PrintOpen Go.Proofs.YtlalofmilhakjaaDoor.ELotsSay
set_option linter.unusedVariables false
theorem own : ownKnob Tryd.prog.godebug = none := by kernel_rfl
theorem laidOut : laidOutB Tryd.prog = true := by kernel_rfl
theorem opens25 : Opens Tryd.prog k25 (fun x => (Rng .i64 x.f0 ∧ Rng .i64 x.f1 ∧ Rng .i64 x.f2 ∧ Rng .i64 x.f3)) 25 :=
  Opens.iso (d := (Kd.pair (Kd.int .i64) (Kd.pair (Kd.int .i64) (Kd.pair (Kd.int .i64) (Kd.int .i64))))) (ok := fun a => Rng .i64 a.1 ∧ Rng .i64 a.2.1 ∧ Rng .i64 a.2.2.1 ∧ Rng .i64 a.2.2.2) (Opens.struct Tryd.underlying25 (by kernel_rfl) (OpensFs.cons (a := (Kd.int .i64)) (b := (Kd.pair (Kd.int .i64) (Kd.pair (Kd.int .i64) (Kd.int .i64)))) (oka := fun a => Rng .i64 a) (okb := fun a => Rng .i64 a.1 ∧ Rng .i64 a.2.1 ∧ Rng .i64 a.2.2) (Opens.int Tryd.underlying3 (by kernel_rfl)) rfl (OpensFs.cons (a := (Kd.int .i64)) (b := (Kd.pair (Kd.int .i64) (Kd.int .i64))) (oka := fun a => Rng .i64 a) (okb := fun a => Rng .i64 a.1 ∧ Rng .i64 a.2) (Opens.int Tryd.underlying2 (by kernel_rfl)) rfl (OpensFs.cons (a := (Kd.int .i64)) (b := (Kd.int .i64)) (oka := fun a => Rng .i64 a) (okb := fun a => Rng .i64 a) (Opens.int Tryd.underlying2 (by kernel_rfl)) rfl (OpensFs.one (d := (Kd.int .i64)) (ok := fun a => Rng .i64 a) (Opens.int Tryd.underlying3 (by kernel_rfl)) rfl))))) (fun x : S25 => (x.f0, x.f1, x.f2, x.f3)) (fun a => ⟨a.1, a.2.1, a.2.2.1, a.2.2.2⟩) (fun _ => rfl)
theorem opens29 : Opens Tryd.prog k29 (fun x => ((x.f0.length ≤ maxLen ∧ ∀ y ∈ x.f0, (Rng .i64 y.f0 ∧ Rng .i64 y.f1 ∧ Rng .i64 y.f2 ∧ Rng .i64 y.f3)) ∧ (x.f1.length ≤ maxLen ∧ ∀ y ∈ x.f1, Rng .i64 y) ∧ Rng .i64 x.f2)) 29 :=
  Opens.iso (d := (Kd.pair (Kd.slice 25 k25) (Kd.pair (Kd.slice 2 (Kd.int .i64)) (Kd.int .i64)))) (ok := fun a => (a.1.length ≤ maxLen ∧ ∀ x ∈ a.1, (Rng .i64 x.f0 ∧ Rng .i64 x.f1 ∧ Rng .i64 x.f2 ∧ Rng .i64 x.f3)) ∧ (a.2.1.length ≤ maxLen ∧ ∀ x ∈ a.2.1, Rng .i64 x) ∧ Rng .i64 a.2.2) (Opens.struct Tryd.underlying29 (by kernel_rfl) (OpensFs.cons (a := (Kd.slice 25 k25)) (b := (Kd.pair (Kd.slice 2 (Kd.int .i64)) (Kd.int .i64))) (oka := fun a => (a.length ≤ maxLen ∧ ∀ x ∈ a, (Rng .i64 x.f0 ∧ Rng .i64 x.f1 ∧ Rng .i64 x.f2 ∧ Rng .i64 x.f3))) (okb := fun a => (a.1.length ≤ maxLen ∧ ∀ x ∈ a.1, Rng .i64 x) ∧ Rng .i64 a.2) (Opens.slice Tryd.underlying26 (by kernel_rfl) opens25) rfl (OpensFs.cons (a := (Kd.slice 2 (Kd.int .i64))) (b := (Kd.int .i64)) (oka := fun a => (a.length ≤ maxLen ∧ ∀ x ∈ a, Rng .i64 x)) (okb := fun a => Rng .i64 a) (Opens.slice Tryd.underlying27 (by kernel_rfl) (Opens.int Tryd.underlying2 (by kernel_rfl))) rfl (OpensFs.one (d := (Kd.int .i64)) (ok := fun a => Rng .i64 a) (Opens.int Tryd.underlying2 (by kernel_rfl)) rfl)))) (fun x : S29 => (x.f0, x.f1, x.f2)) (fun a => ⟨a.1, a.2.1, a.2.2⟩) (fun _ => rfl)
def laidL : List (String × DataW Unit) := [("pledge/api.ErrEnd", Rows.laid_pledge_api_ErrEnd), ("pledge/api.ErrShape", Rows.laid_pledge_api_ErrShape), ("pledge/api.ErrRange", Rows.laid_pledge_api_ErrRange), ("pledge/api.ErrOver", Rows.laid_pledge_api_ErrOver), ("pledge/api.ErrMany", Rows.laid_pledge_api_ErrMany), ("pledge/api.ErrNone", Rows.laid_pledge_api_ErrNone), ("pledge/api.ErrThere", Rows.laid_pledge_api_ErrThere), ("pledge/api.ErrFull", Rows.laid_pledge_api_ErrFull), ("pledge/api.ErrCrash", Rows.laid_pledge_api_ErrCrash), ("pledge/api.ErrTwice", Rows.laid_pledge_api_ErrTwice), ("pledge/api.ErrKind", Rows.laid_pledge_api_ErrKind), ("pledge/api.ErrBarred", Rows.laid_pledge_api_ErrBarred), ("pledge/api.ErrShort", Rows.laid_pledge_api_ErrShort), ("pledge/api.ErrBreach", Rows.laid_pledge_api_ErrBreach), ("pledge/api.ErrNeed", Rows.laid_pledge_api_ErrNeed), ("pledge/api.ErrBound", Rows.laid_pledge_api_ErrBound), ("pledge/api.ErrDay", Rows.laid_pledge_api_ErrDay), ("pledge/api.ErrWord", Rows.laid_pledge_api_ErrWord), ("pledge/api.ErrNumber", Rows.laid_pledge_api_ErrNumber), ("pledge/api.ErrBudget", Rows.laid_pledge_api_ErrBudget), ("pledge/api.ErrNothing", Rows.laid_pledge_api_ErrNothing)]
def tab : List ((Int × Nat) × String) := [((101, 2), "pledge/api.ErrEnd"), ((102, 3), "pledge/api.ErrShape"), ((103, 1), "pledge/api.ErrRange"), ((104, 4), "pledge/api.ErrOver"), ((105, 0), "pledge/api.ErrMany"), ((106, 5), "pledge/api.ErrNone"), ((107, 6), "pledge/api.ErrThere"), ((108, 7), "pledge/api.ErrFull"), ((109, 8), "pledge/api.ErrCrash"), ((110, 9), "pledge/api.ErrTwice"), ((111, 10), "pledge/api.ErrKind"), ((112, 11), "pledge/api.ErrBarred"), ((113, 12), "pledge/api.ErrShort"), ((114, 13), "pledge/api.ErrBreach"), ((115, 14), "pledge/api.ErrNeed"), ((116, 15), "pledge/api.ErrBound"), ((117, 16), "pledge/api.ErrDay"), ((118, 17), "pledge/api.ErrWord"), ((119, 18), "pledge/api.ErrNumber"), ((120, 19), "pledge/api.ErrBudget"), ((121, 20), "pledge/api.ErrNothing")]
theorem door_met (os : Os) (args : Array Value) : laidMetH Tryd.prog laidL ((World.doorLaid Tryd.prog 408 os).forCall (fun _ _ => 0) ⟨#[], args, []⟩).memory :=
  laidMetH_of_parts3 (fuel := 8) (laidMet_of_run' 8 (by kernel_rfl) (by kernel_rfl)) (by kernel_rfl) (by kernel_rfl)
theorem errRow : ∀ u, Tryd.prog.typeName? 3 u = some "*errors.errorString" → u = 104 := by
  have star : "*" ++ "errors.errorString" = "*errors.errorString" := by kernel_rfl
  intro u h
  exact typeName_ptr_named (nm := "errors.errorString") (by rw [star]; kernel_rfl) (by kernel_rfl) (by decide) u (by rw [star]; exact h)
theorem globs {W : World} (hL : laidMetH Tryd.prog laidL W) : ∃ inst : Inhabited (Int → Addr), GlobOK W := by
  obtain ⟨sa, h1, h2⟩ := sents_of_laid hL (by kernel_rfl) Tryd.underlying36 errRow Tryd.underlying104 Tryd.underlying123 rfl rfl Tryd.underlying9 (by kernel_rfl) (by kernel_rfl) (fun x hx => by
    have hm : ∀ y ∈ laidL, (∃ text, y.2 = .iface "*errors.errorString" (.ptr (.agg [.lit (.string text)]))) := by
      intro y hy
      simp only [laidL, List.mem_cons, List.not_mem_nil, or_false] at hy
      rcases hy with rfl | rfl | rfl | rfl | rfl | rfl | rfl | rfl | rfl | rfl | rfl | rfl | rfl | rfl | rfl | rfl | rfl | rfl | rfl | rfl | rfl <;> exact ⟨_, rfl⟩
    have hg : (laidL.all fun y => ((Tryd.prog.globalNamed y.1).bind fun g => (Tryd.prog.globals[g]?).map (·.type)) == some 36) = true := by kernel_rfl
    refine ⟨hm x hx, ?_⟩
    have := List.all_eq_true.1 hg x hx
    simp only [beq_iff_eq, Option.bind_eq_some_iff] at this
    exact this)
  have hh := globs_of (tab := tab) h1 h2 (by rfl) (by kernel_rfl)
  exact ⟨⟨fun c => sa (nameOf tab c)⟩, hh⟩
set_option maxRecDepth 100000 in
theorem lifted (os : Os) (started : os.Started) (H : Type) (enc : TypeId × Value → H) :
    ReturnsInHanded {} Tryd.checked os 7 .any (fun w args => (Rows.lotsSaySpec.pre enc Tryd.prog Tryd.f7 [] false w args ∧ laidMetH Tryd.prog laidL w) ∧ sizedMet enc Tryd.prog Tryd.f7 (OpenSpec.ofChange Rows.lotsSaySpec) false w args) (Rows.lotsSaySpec.post enc Tryd.prog Tryd.f7 false true false false) := by
  refine returnsInHanded_of_change_and (C := Tryd.checked) (X := fun w _ => laidMetH Tryd.prog laidL w) (fun _ _ _ hh h => h.of_heap hh) own started (by kernel_rfl) Tryd.func7
    (ChangeSpec.witness_shaped (enc := enc) (C := Tryd.checked) (os := os) (X := fun w _ => laidMetH Tryd.prog laidL w) false (World.doorLaid Tryd.prog 408 os) #[.agg #[.slice none 0 0, .slice none 0 0, .int .i64 0], .slice none 0 0] 8 rfl (World.shaped_of_RefB (by kernel_rfl) (by kernel_rfl)) (by kernel_rfl) (by kernel_rfl) (by kernel_rfl) (door_met os _)) ?_
  intro W base args ds gs before hval0 hW hcnd hsz0 hL _
  have hsz : (DataW.weightsEach Tryd.prog (Tryd.f7.params.toList ++ Rows.lotsSaySpec.plain.varTypes Tryd.prog) (ds ++ gs)).all (· ≤ reachBytes) = true := hsz0
  have hval : ∀ (j : Nat) t v, Tryd.f7.params[j]? = some t → args[j]? = some v → Value.okWide Tryd.prog W .any base t v := hval0
  have hW' := hW
  obtain ⟨p, q, hA0, hV, rfl, hfz, hnd⟩ := hW
  have hA : DataW.TrodAll enc Tryd.prog W 0 (fun _ => true) true Tryd.f7.params.toList args.toList ds p := hA0
  rw [Tryd.params7] at hA hval hsz
  obtain ⟨v0, vs0, d0, ds0, p0, q0, hargs, rfl, rfl, h0, r0⟩ := trodAll_cons hA
  obtain ⟨v1, vs1, d1, ds1, p1, q1, rfl, rfl, rfl, h1, r1⟩ := trodAll_cons r0
  obtain ⟨rfl, rfl, rfl⟩ := trodAll_nil r1
  obtain rfl : args = #[v0, v1] := by cases args; simp_all
  obtain ⟨rfl, rfl⟩ := trodVars_none hV
  obtain ⟨cs0, rfl, hcs0⟩ := okWide_struct Tryd.underlying29 (hval 0 29 v0 rfl rfl)
  have k0 := h0
  have lt0 : ∀ x ∈ p0, x.block < W.heap.size := by obtain ⟨m, hm⟩ := k0; exact DataW.trod_lt m _ _ _ hm
  obtain ⟨fu0, hf0⟩ := h0
  obtain ⟨x0, hK0, ok0⟩ := opens29.2 hf0
  obtain ⟨cs0⟩ := cs0
  obtain ⟨ua0_0, uc0_0, ua0_1, uc0_1, e0, hc0_0, hr0_0, hc0_1, hr0_1⟩ := k29_open hK0
  have e0' : cs0 = _ := e0
  subst e0'
  obtain ⟨o0_f0, o0_f1, o0_f2⟩ := ok0
  obtain ⟨aa1, len1, cap1, rfl⟩ := okWide_slice Tryd.underlying30 (hval 1 30 v1 rfl rfl)
  have k1 := h1
  have lt1 : ∀ x ∈ p1, x.block < W.heap.size := by obtain ⟨m, hm⟩ := k1; exact DataW.trod_lt m _ _ _ hm
  have y1 : len1 * 8 ≤ 140737488351232 := sized_any hsz (j := 1) (t := 30) rfl rfl Tryd.underlying30 (by kernel_rfl) h1
  obtain ⟨fu1, hf1⟩ := h1
  obtain ⟨l1, hK1, ok1⟩ := (Opens.slice Tryd.underlying30 (by kernel_rfl) (Opens.int Tryd.underlying3 (by kernel_rfl))).2 hf1
  obtain ⟨AA1, cc1, e1, hc1, hr1⟩ := hK1
  simp only [Value.cells, List.cons.injEq, Value.slice.injEq, and_true] at e1
  obtain ⟨rfl, rfl, rfl⟩ := e1
  clear hA0 hval0 hsz0 hsz
  obtain ⟨inst, hG⟩ := globs hL
  obtain ⟨k, hk⟩ := Pr.LotsSay x0.f0 x0.f1 x0.f2 l1 o0_f0 o0_f1 o0_f2 y1 ok1
  refine (ELotsSay.pledgelaw18_LotsSay.calls k _ _ x0.f0 _ _ x0.f1 x0.f2 _ _ l1 true W hG hr0_0 hc0_0 hr0_1 hc0_1 hr1 hc1 hk).mono fun e W' ⟨he, bel0⟩ => ?_
  have bel : Below W.heap.size W W' := bel0
  subst he
  exact ⟨_, rfl, _, _, _, [], _, [], hW', trodAll_mk1 (shut_bool Tryd.underlying4 _), (trodAll_cons_mk (Below.trod laidOut (by kernel_rfl) (of_decide_eq_true (by kernel_rfl)) k0 bel lt0) (trodAll_cons_mk (Below.trod laidOut (by kernel_rfl) (of_decide_eq_true (by kernel_rfl)) k1 bel lt1) trodAll_mk0)), rfl, bel.frame _, fun h => by cases h⟩
theorem over : Rows.lotsSayRow.holds Tryd.pinned (OpenSpec.ofChange Rows.lotsSaySpec) :=
  OpenClaim.holds_of_wide 7 Tryd.f7 rfl rfl rfl rfl rfl rfl rfl ⟨rfl, rfl, rfl, rfl, rfl⟩ rfl rfl rfl rfl rfl (by kernel_rfl) Tryd.func7 (by kernel_rfl)
    (of_decide_eq_true (by kernel_rfl)) (by unfold Func.isWrapper; first | (rw [if_pos (by decide +kernel)]; kernel_rfl) | (rw [if_neg (by decide +kernel)]; exact ⟨rfl, rfl⟩))
    (fun os started H enc _ => lifted os started H enc)
theorem proved : Rows.LotsSayCardSaid :=
  Claim7.holds_tied_plain_at .later [] [.sentinel, .sentinel, .sentinel, .sentinel, .sentinel, .sentinel, .sentinel, .sentinel, .sentinel, .sentinel, .sentinel, .sentinel, .sentinel, .sentinel, .sentinel, .sentinel, .sentinel, .sentinel, .sentinel, .sentinel, .sentinel] true (true, "71010bd57f9053aa5f2a28b807208f99997a2b0e19c4045789103d5672241654") true
    over (fun _ h => by cases h) (by kernel_rfl) (fun _ h => by cases h) lotsSay_row_tie rfl ⟨rfl, rfl⟩ (by kernel_rfl) rfl
    (fun f fn hf hfn => by
      obtain rfl : f = 7 := Option.some.inj ((show Tryd.prog.funcNamed "pledge/pledgelaw18.LotsSay" = some 7 by kernel_rfl).symm.trans hf) |>.symm
      obtain rfl : fn = Tryd.f7 := (Option.some.inj (Tryd.func7.symm.trans hfn)).symm
      exact ⟨by kernel_rfl, fun j t ht => by
        have hm : t ∈ Tryd.f7.params.toList := by simpa using Array.mem_of_getElem? ht
        have h : (Tryd.f7.params.toList.all fun t => !Tryd.prog.wantsStandIn t) = true := by kernel_rfl
        have hb := List.all_eq_true.1 h t hm
        exact (show Tryd.prog.wantsStandIn t = false by simpa using hb)⟩)
    (by kernel_rfl)
#print axioms proved
end Go.Proofs.YtlalofmilhakjaaDoor.lotsSayRow
namespace Go.Proofs.YtlalofmilhakjaaDoor
/-- The statement, under a short name, for the claim. -/
theorem lotsSay_holds : Rows.LotsSayCardSaid := lotsSayRow.proved
end Go.Proofs.YtlalofmilhakjaaDoor
