/-
  NARROWER THAN 'FOR EVERY INPUT', by the rows' own cells (each row's printed sentence says how): ValueSays: laid · ValueFalls: laid · ValueCounts: laid · ValueCash: laid.
  DERIVED. THE GIVEN ROWS OF THIS SEAT. 4 by the template 'for every input the law returns true; each argument reads behind the call as it read before'; 0 by the template 'total and deterministic' (their statements: YtmofdacfijobdaaDoorTotals.lean).
  GIVEN WITH THE SEED: the statements are not yours to turn. If you find one false, say at which input.
  Laid BY PROGRAM, IN A SANDBOX (cutbox-rows.mjs): the forced cells as the released guide's own fill.sh prints them over the translation fd0616e955ced3d5… (all of the seat's roots in one cut). By AI agents, Wed Nov 11 2026. No macro, syntax, notation, axiom, sorry.
-/
import Derived.Test.YtmofdacfijobdaaDoorChecked
import GoSem.Claim
import GoSem.ClaimJoined
import GoSem.ClaimMapViews
import Derived.JoinedTies
import Derived.KernelRfl
namespace Go.Proofs.YtmofdacfijobdaaDoor
/- THE CELL 'sum', in the pinned program and in every row, IS THE sha256 OF THE DUMP (.gsa) THAT YtmofdacfijobdaaDoorProg.lean LOADS. Nothing in Lean hashes anything: it is a label: what it is worth is what the hold of that sum in a sandbox is worth. -/
noncomputable def Tryd.pinned : Pinned := { name := "ytmofdacfijobdaadoor", sum := "fd0616e955ced3d534c7d9f10bbf2057e3902279915ef6bacc030c7af750cff2", checked := Tryd.checked }
namespace Rows
def none {H : Type} : Left H := { results := [], args := [] }

/- WHAT THE LISTED PACKAGE-LEVEL VARIABLES READ AS WHEN THE CALL BEGINS. Each datum BY PROGRAM (the guide's laid-datum.mjs) off the statement by which the dump's own 'gosem.cut.vars' lays the variable. In a bare row this is a premise. The card (YtmofdacfijobdaaDoorCards.lean) ties it to the program's text. -/
def laid_pledge_api_ErrEnd {H : Type} : DataW H := .iface "*errors.errorString" (.ptr (.agg [.lit (.string [105, 116, 32, 101, 110, 100, 115, 32, 116, 111, 111, 32, 101, 97, 114, 108, 121])]))
def laid_pledge_api_ErrShape {H : Type} : DataW H := .iface "*errors.errorString" (.ptr (.agg [.lit (.string [110, 111, 116, 32, 97, 115, 32, 105, 116, 32, 104, 97, 115, 32, 116, 111, 32, 98, 101])]))
def laid_pledge_api_ErrRange {H : Type} : DataW H := .iface "*errors.errorString" (.ptr (.agg [.lit (.string [97, 32, 110, 117, 109, 98, 101, 114, 32, 111, 117, 116, 32, 111, 102, 32, 105, 116, 115, 32, 114, 97, 110, 103, 101])]))
def laid_pledge_api_ErrOver {H : Type} : DataW H := .iface "*errors.errorString" (.ptr (.agg [.lit (.string [116, 111, 111, 32, 103, 114, 101, 97, 116, 32, 97, 32, 110, 117, 109, 98, 101, 114])]))
def laid_pledge_api_ErrMany {H : Type} : DataW H := .iface "*errors.errorString" (.ptr (.agg [.lit (.string [116, 111, 111, 32, 109, 97, 110, 121])]))
def laid_pledge_api_ErrNone {H : Type} : DataW H := .iface "*errors.errorString" (.ptr (.agg [.lit (.string [116, 104, 101, 114, 101, 32, 105, 115, 32, 110, 111, 110, 101])]))
def laid_pledge_api_ErrThere {H : Type} : DataW H := .iface "*errors.errorString" (.ptr (.agg [.lit (.string [116, 104, 101, 114, 101, 32, 105, 115, 32, 111, 110, 101])]))
def laid_pledge_api_ErrFull {H : Type} : DataW H := .iface "*errors.errorString" (.ptr (.agg [.lit (.string [116, 104, 101, 114, 101, 32, 105, 115, 32, 110, 111, 32, 114, 111, 111, 109])]))
def laid_pledge_api_ErrCrash {H : Type} : DataW H := .iface "*errors.errorString" (.ptr (.agg [.lit (.string [105, 116, 32, 105, 115, 32, 100, 111, 119, 110])]))
def laid_pledge_api_ErrTwice {H : Type} : DataW H := .iface "*errors.errorString" (.ptr (.agg [.lit (.string [100, 111, 110, 101, 32, 97, 108, 114, 101, 97, 100, 121])]))
def laid_pledge_api_ErrKind {H : Type} : DataW H := .iface "*errors.errorString" (.ptr (.agg [.lit (.string [110, 111, 32, 115, 117, 99, 104, 32, 107, 105, 110, 100])]))
def laid_pledge_api_ErrBarred {H : Type} : DataW H := .iface "*errors.errorString" (.ptr (.agg [.lit (.string [110, 111, 116, 32, 101, 108, 105, 103, 105, 98, 108, 101])]))
def laid_pledge_api_ErrShort {H : Type} : DataW H := .iface "*errors.errorString" (.ptr (.agg [.lit (.string [110, 111, 116, 32, 101, 110, 111, 117, 103, 104, 32, 116, 104, 101, 114, 101])]))
def laid_pledge_api_ErrBreach {H : Type} : DataW H := .iface "*errors.errorString" (.ptr (.agg [.lit (.string [97, 32, 108, 105, 109, 105, 116, 32, 119, 111, 117, 108, 100, 32, 98, 101, 32, 98, 114, 111, 107, 101, 110])]))
def laid_pledge_api_ErrNeed {H : Type} : DataW H := .iface "*errors.errorString" (.ptr (.agg [.lit (.string [108, 101, 115, 115, 32, 116, 104, 97, 110, 32, 119, 104, 97, 116, 32, 105, 115, 32, 110, 101, 101, 100, 101, 100])]))
def laid_pledge_api_ErrBound {H : Type} : DataW H := .iface "*errors.errorString" (.ptr (.agg [.lit (.string [98, 111, 117, 110, 100, 32, 98, 121, 32, 97, 32, 99, 97, 108, 108])]))
def laid_pledge_api_ErrDay {H : Type} : DataW H := .iface "*errors.errorString" (.ptr (.agg [.lit (.string [110, 111, 116, 32, 111, 110, 32, 116, 104, 105, 115, 32, 100, 97, 121])]))
def laid_pledge_api_ErrWord {H : Type} : DataW H := .iface "*errors.errorString" (.ptr (.agg [.lit (.string [110, 111, 32, 115, 117, 99, 104, 32, 119, 111, 114, 100])]))
def laid_pledge_api_ErrNumber {H : Type} : DataW H := .iface "*errors.errorString" (.ptr (.agg [.lit (.string [110, 111, 116, 32, 97, 32, 110, 117, 109, 98, 101, 114])]))
def laid_pledge_api_ErrBudget {H : Type} : DataW H := .iface "*errors.errorString" (.ptr (.agg [.lit (.string [110, 111, 116, 32, 108, 111, 111, 107, 101, 100, 32, 97, 116, 32, 97, 108, 108])]))
def laid_pledge_api_ErrNothing {H : Type} : DataW H := .iface "*errors.errorString" (.ptr (.agg [.lit (.string [105, 116, 32, 99, 97, 110, 39, 116, 32, 98, 101, 32, 100, 111, 110, 101])]))

/-- 'pledgelaw15.ValueSays': WHATEVER THE INPUT: true; the input reads as it did. -/
def valueSaysSpec : ChangeSpec := { name := "valueSays", fn := fun _ => fun
  | [d1, d2, d3] => { results := [.lit (.bool true)], args := [d1, d2, d3] }
  | _ => none }
def valueSaysRow : OpenClaim := { program := "ytmofdacfijobdaadoor", sum := "fd0616e955ced3d534c7d9f10bbf2057e3902279915ef6bacc030c7af750cff2", func := "pledge/pledgelaw15.ValueSays", spec := "valueSays", named := ["pledge/api.ErrRange", "pledge/api.ErrOver", "math/bits.divideError", "math/bits.overflowError", "pledge/api.ErrEnd", "pledge/api.ErrShape", "pledge/api.ErrMany", "pledge/api.ErrNone", "pledge/api.ErrThere", "pledge/api.ErrFull", "pledge/api.ErrCrash", "pledge/api.ErrTwice", "pledge/api.ErrKind", "pledge/api.ErrBarred", "pledge/api.ErrShort", "pledge/api.ErrBreach", "pledge/api.ErrNeed", "pledge/api.ErrBound", "pledge/api.ErrDay", "pledge/api.ErrWord", "pledge/api.ErrNumber", "pledge/api.ErrBudget", "pledge/api.ErrNothing"], apart := false, laid := [("pledge/api.ErrEnd", laid_pledge_api_ErrEnd), ("pledge/api.ErrShape", laid_pledge_api_ErrShape), ("pledge/api.ErrRange", laid_pledge_api_ErrRange), ("pledge/api.ErrOver", laid_pledge_api_ErrOver), ("pledge/api.ErrMany", laid_pledge_api_ErrMany), ("pledge/api.ErrNone", laid_pledge_api_ErrNone), ("pledge/api.ErrThere", laid_pledge_api_ErrThere), ("pledge/api.ErrFull", laid_pledge_api_ErrFull), ("pledge/api.ErrCrash", laid_pledge_api_ErrCrash), ("pledge/api.ErrTwice", laid_pledge_api_ErrTwice), ("pledge/api.ErrKind", laid_pledge_api_ErrKind), ("pledge/api.ErrBarred", laid_pledge_api_ErrBarred), ("pledge/api.ErrShort", laid_pledge_api_ErrShort), ("pledge/api.ErrBreach", laid_pledge_api_ErrBreach), ("pledge/api.ErrNeed", laid_pledge_api_ErrNeed), ("pledge/api.ErrBound", laid_pledge_api_ErrBound), ("pledge/api.ErrDay", laid_pledge_api_ErrDay), ("pledge/api.ErrWord", laid_pledge_api_ErrWord), ("pledge/api.ErrNumber", laid_pledge_api_ErrNumber), ("pledge/api.ErrBudget", laid_pledge_api_ErrBudget), ("pledge/api.ErrNothing", laid_pledge_api_ErrNothing)] }
def ValueSaysSaid : Prop := valueSaysRow.holds Tryd.pinned (OpenSpec.ofChange valueSaysSpec)

/-- ITS FALSE NEIGHBOUR: 'it returns false'. Refute it at one input. -/
def valueSaysWrong : ChangeSpec := { name := "valueSays", fn := fun _ => fun
  | [d1, d2, d3] => { results := [.lit (.bool false)], args := [d1, d2, d3] }
  | _ => none }
def ValueSaysWrongFalsely : Prop := valueSaysRow.holds Tryd.pinned (OpenSpec.ofChange valueSaysWrong)

/-- 'pledgelaw15.ValueFalls': WHATEVER THE INPUT: true; the input reads as it did. -/
def valueFallsSpec : ChangeSpec := { name := "valueFalls", fn := fun _ => fun
  | [d1, d2, d3, d4, d5, d6] => { results := [.lit (.bool true)], args := [d1, d2, d3, d4, d5, d6] }
  | _ => none }
def valueFallsRow : OpenClaim := { program := "ytmofdacfijobdaadoor", sum := "fd0616e955ced3d534c7d9f10bbf2057e3902279915ef6bacc030c7af750cff2", func := "pledge/pledgelaw15.ValueFalls", spec := "valueFalls", named := ["pledge/api.ErrRange", "pledge/api.ErrOver", "math/bits.divideError", "math/bits.overflowError"], apart := false, laid := [("pledge/api.ErrRange", laid_pledge_api_ErrRange), ("pledge/api.ErrOver", laid_pledge_api_ErrOver)] }
def ValueFallsSaid : Prop := valueFallsRow.holds Tryd.pinned (OpenSpec.ofChange valueFallsSpec)

/-- ITS FALSE NEIGHBOUR: 'it returns false'. Refute it at one input. -/
def valueFallsWrong : ChangeSpec := { name := "valueFalls", fn := fun _ => fun
  | [d1, d2, d3, d4, d5, d6] => { results := [.lit (.bool false)], args := [d1, d2, d3, d4, d5, d6] }
  | _ => none }
def ValueFallsWrongFalsely : Prop := valueFallsRow.holds Tryd.pinned (OpenSpec.ofChange valueFallsWrong)

/-- 'pledgelaw15.ValueCounts': WHATEVER THE INPUT: true; the input reads as it did. -/
def valueCountsSpec : ChangeSpec := { name := "valueCounts", fn := fun _ => fun
  | [d1, d2, d3, d4, d5] => { results := [.lit (.bool true)], args := [d1, d2, d3, d4, d5] }
  | _ => none }
def valueCountsRow : OpenClaim := { program := "ytmofdacfijobdaadoor", sum := "fd0616e955ced3d534c7d9f10bbf2057e3902279915ef6bacc030c7af750cff2", func := "pledge/pledgelaw15.ValueCounts", spec := "valueCounts", named := ["pledge/api.ErrRange", "pledge/api.ErrOver", "math/bits.divideError", "math/bits.overflowError"], apart := false, laid := [("pledge/api.ErrRange", laid_pledge_api_ErrRange), ("pledge/api.ErrOver", laid_pledge_api_ErrOver)] }
def ValueCountsSaid : Prop := valueCountsRow.holds Tryd.pinned (OpenSpec.ofChange valueCountsSpec)

/-- ITS FALSE NEIGHBOUR: 'it returns false'. Refute it at one input. -/
def valueCountsWrong : ChangeSpec := { name := "valueCounts", fn := fun _ => fun
  | [d1, d2, d3, d4, d5] => { results := [.lit (.bool false)], args := [d1, d2, d3, d4, d5] }
  | _ => none }
def ValueCountsWrongFalsely : Prop := valueCountsRow.holds Tryd.pinned (OpenSpec.ofChange valueCountsWrong)

/-- 'pledgelaw15.ValueCash': WHATEVER THE INPUT: true; the input reads as it did. -/
def valueCashSpec : ChangeSpec := { name := "valueCash", fn := fun _ => fun
  | [d1, d2, d3, d4] => { results := [.lit (.bool true)], args := [d1, d2, d3, d4] }
  | _ => none }
def valueCashRow : OpenClaim := { program := "ytmofdacfijobdaadoor", sum := "fd0616e955ced3d534c7d9f10bbf2057e3902279915ef6bacc030c7af750cff2", func := "pledge/pledgelaw15.ValueCash", spec := "valueCash", named := ["pledge/api.ErrRange", "pledge/api.ErrOver", "math/bits.divideError", "math/bits.overflowError"], apart := false, laid := [("pledge/api.ErrRange", laid_pledge_api_ErrRange), ("pledge/api.ErrOver", laid_pledge_api_ErrOver)] }
def ValueCashSaid : Prop := valueCashRow.holds Tryd.pinned (OpenSpec.ofChange valueCashSpec)

/-- ITS FALSE NEIGHBOUR: 'it returns false'. Refute it at one input. -/
def valueCashWrong : ChangeSpec := { name := "valueCash", fn := fun _ => fun
  | [d1, d2, d3, d4] => { results := [.lit (.bool false)], args := [d1, d2, d3, d4] }
  | _ => none }
def ValueCashWrongFalsely : Prop := valueCashRow.holds Tryd.pinned (OpenSpec.ofChange valueCashWrong)

/- THE SECOND FORM. 'bulk': how many values and letters a reading holds, each counted each time it is reached (what is shared counts as often as it is met; a slice's spare places count too). A statement '..UptoSaid' is the law's where the arguments, and the package variables that the reading takes, are together of bulk at most 1048576: NARROWER than '..Said'. Prove '..Said' where nothing that the law and all that it calls make is longer than what came in: it says more and counts as full. Else prove '..UptoSaid'. A law counts once. -/
mutual
def uptoBulk {H : Type} : DataW H → Nat
  | .lit (.string bytes) => bytes.length + 1
  | .lit _ => 1
  | .nil => 1
  | .ptr d => uptoBulk d + 1
  | .slice elems spare => uptoBulkAll elems + uptoBulkAll spare + 1
  | .agg parts => uptoBulkAll parts + 1
  | .iface _ d => uptoBulk d + 1
  | .map entries => uptoBulkEntries entries + 1
  | .held _ => 1
def uptoBulkAll {H : Type} : List (DataW H) → Nat
  | [] => 0
  | d :: r => uptoBulk d + uptoBulkAll r
def uptoBulkEntries {H : Type} : List (Lit × DataW H) → Nat
  | [] => 0
  | x :: r => uptoBulkEntry x + uptoBulkEntries r
def uptoBulkEntry {H : Type} : Lit × DataW H → Nat
  | (.string bytes, d) => bytes.length + uptoBulk d + 1
  | (_, d) => uptoBulk d + 1
 end
def uptoSmall : (H : Type) → List (DataW H) → Bool := fun _ ds => decide (uptoBulkAll ds ≤ 1048576)
def OpenSpec.upto (s : _root_.Go.ChangeSpec) : _root_.Go.OpenSpec := { _root_.Go.OpenSpec.ofChange s with cond := some uptoSmall }

/-- 'pledgelaw15.ValueSays', WHERE WHAT IT READS IS OF BULK AT MOST 1048576: true; the input reads as it did. -/
def valueSaysUptoRow : OpenClaim := { program := "ytmofdacfijobdaadoor", sum := "fd0616e955ced3d534c7d9f10bbf2057e3902279915ef6bacc030c7af750cff2", func := "pledge/pledgelaw15.ValueSays", spec := "valueSays", named := ["pledge/api.ErrRange", "pledge/api.ErrOver", "math/bits.divideError", "math/bits.overflowError", "pledge/api.ErrEnd", "pledge/api.ErrShape", "pledge/api.ErrMany", "pledge/api.ErrNone", "pledge/api.ErrThere", "pledge/api.ErrFull", "pledge/api.ErrCrash", "pledge/api.ErrTwice", "pledge/api.ErrKind", "pledge/api.ErrBarred", "pledge/api.ErrShort", "pledge/api.ErrBreach", "pledge/api.ErrNeed", "pledge/api.ErrBound", "pledge/api.ErrDay", "pledge/api.ErrWord", "pledge/api.ErrNumber", "pledge/api.ErrBudget", "pledge/api.ErrNothing"], apart := false, laid := [("pledge/api.ErrEnd", laid_pledge_api_ErrEnd), ("pledge/api.ErrShape", laid_pledge_api_ErrShape), ("pledge/api.ErrRange", laid_pledge_api_ErrRange), ("pledge/api.ErrOver", laid_pledge_api_ErrOver), ("pledge/api.ErrMany", laid_pledge_api_ErrMany), ("pledge/api.ErrNone", laid_pledge_api_ErrNone), ("pledge/api.ErrThere", laid_pledge_api_ErrThere), ("pledge/api.ErrFull", laid_pledge_api_ErrFull), ("pledge/api.ErrCrash", laid_pledge_api_ErrCrash), ("pledge/api.ErrTwice", laid_pledge_api_ErrTwice), ("pledge/api.ErrKind", laid_pledge_api_ErrKind), ("pledge/api.ErrBarred", laid_pledge_api_ErrBarred), ("pledge/api.ErrShort", laid_pledge_api_ErrShort), ("pledge/api.ErrBreach", laid_pledge_api_ErrBreach), ("pledge/api.ErrNeed", laid_pledge_api_ErrNeed), ("pledge/api.ErrBound", laid_pledge_api_ErrBound), ("pledge/api.ErrDay", laid_pledge_api_ErrDay), ("pledge/api.ErrWord", laid_pledge_api_ErrWord), ("pledge/api.ErrNumber", laid_pledge_api_ErrNumber), ("pledge/api.ErrBudget", laid_pledge_api_ErrBudget), ("pledge/api.ErrNothing", laid_pledge_api_ErrNothing)], narrowed := true }
def ValueSaysUptoSaid : Prop := valueSaysUptoRow.holds Tryd.pinned (OpenSpec.upto valueSaysSpec)

/-- 'pledgelaw15.ValueFalls', WHERE WHAT IT READS IS OF BULK AT MOST 1048576: true; the input reads as it did. -/
def valueFallsUptoRow : OpenClaim := { program := "ytmofdacfijobdaadoor", sum := "fd0616e955ced3d534c7d9f10bbf2057e3902279915ef6bacc030c7af750cff2", func := "pledge/pledgelaw15.ValueFalls", spec := "valueFalls", named := ["pledge/api.ErrRange", "pledge/api.ErrOver", "math/bits.divideError", "math/bits.overflowError"], apart := false, laid := [("pledge/api.ErrRange", laid_pledge_api_ErrRange), ("pledge/api.ErrOver", laid_pledge_api_ErrOver)], narrowed := true }
def ValueFallsUptoSaid : Prop := valueFallsUptoRow.holds Tryd.pinned (OpenSpec.upto valueFallsSpec)

/-- 'pledgelaw15.ValueCounts', WHERE WHAT IT READS IS OF BULK AT MOST 1048576: true; the input reads as it did. -/
def valueCountsUptoRow : OpenClaim := { program := "ytmofdacfijobdaadoor", sum := "fd0616e955ced3d534c7d9f10bbf2057e3902279915ef6bacc030c7af750cff2", func := "pledge/pledgelaw15.ValueCounts", spec := "valueCounts", named := ["pledge/api.ErrRange", "pledge/api.ErrOver", "math/bits.divideError", "math/bits.overflowError"], apart := false, laid := [("pledge/api.ErrRange", laid_pledge_api_ErrRange), ("pledge/api.ErrOver", laid_pledge_api_ErrOver)], narrowed := true }
def ValueCountsUptoSaid : Prop := valueCountsUptoRow.holds Tryd.pinned (OpenSpec.upto valueCountsSpec)

/-- 'pledgelaw15.ValueCash', WHERE WHAT IT READS IS OF BULK AT MOST 1048576: true; the input reads as it did. -/
def valueCashUptoRow : OpenClaim := { program := "ytmofdacfijobdaadoor", sum := "fd0616e955ced3d534c7d9f10bbf2057e3902279915ef6bacc030c7af750cff2", func := "pledge/pledgelaw15.ValueCash", spec := "valueCash", named := ["pledge/api.ErrRange", "pledge/api.ErrOver", "math/bits.divideError", "math/bits.overflowError"], apart := false, laid := [("pledge/api.ErrRange", laid_pledge_api_ErrRange), ("pledge/api.ErrOver", laid_pledge_api_ErrOver)], narrowed := true }
def ValueCashUptoSaid : Prop := valueCashUptoRow.holds Tryd.pinned (OpenSpec.upto valueCashSpec)

end Rows
end Go.Proofs.YtmofdacfijobdaaDoor
