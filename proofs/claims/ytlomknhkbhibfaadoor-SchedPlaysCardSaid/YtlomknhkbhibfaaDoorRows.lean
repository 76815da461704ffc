/-
  NARROWER THAN 'FOR EVERY INPUT', by the rows' own cells (each row's printed sentence says how): SchedTurns: laid · SchedFull: laid · SchedPlays: laid.
  DERIVED. THE GIVEN ROWS OF THIS SEAT. 3 by the template 'for every input the law returns true; each argument reads behind the call as it read before'; 0 by the template 'total and deterministic' (their statements: YtlomknhkbhibfaaDoorTotals.lean).
  GIVEN WITH THE SEED: the statements are not yours to turn. If you find one false, say at which input.
  Laid BY PROGRAM, IN A SANDBOX (cutbox-rows.mjs): the forced cells as the released guide's own fill.sh prints them over the translation 6f407773da8410c4… (all of the seat's roots in one cut). By AI agents, Wed Nov 11 2026. No macro, syntax, notation, axiom, sorry.
-/
import Derived.Test.YtlomknhkbhibfaaDoorChecked
import GoSem.Claim
import GoSem.ClaimJoined
import GoSem.ClaimMapViews
import Derived.JoinedTies
import Derived.KernelRfl
namespace Go.Proofs.YtlomknhkbhibfaaDoor
/- THE CELL 'sum', in the pinned program and in every row, IS THE sha256 OF THE DUMP (.gsa) THAT YtlomknhkbhibfaaDoorProg.lean LOADS. Nothing in Lean hashes anything: it is a label: what it is worth is what the hold of that sum in a sandbox is worth. -/
noncomputable def Tryd.pinned : Pinned := { name := "ytlomknhkbhibfaadoor", sum := "6f407773da8410c4218c8050ee95766ca008aa39807c3efeb23f80e4e82a0bfc", checked := Tryd.checked }
namespace Rows
def none {H : Type} : Left H := { results := [], args := [] }

/- WHAT THE LISTED PACKAGE-LEVEL VARIABLES READ AS WHEN THE CALL BEGINS. Each datum BY PROGRAM (the guide's laid-datum.mjs) off the statement by which the dump's own 'gosem.cut.vars' lays the variable. In a bare row this is a premise. The card (YtlomknhkbhibfaaDoorCards.lean) ties it to the program's text. -/
def laid_pledge_api_ErrRange {H : Type} : DataW H := .iface "*errors.errorString" (.ptr (.agg [.lit (.string [97, 32, 110, 117, 109, 98, 101, 114, 32, 111, 117, 116, 32, 111, 102, 32, 105, 116, 115, 32, 114, 97, 110, 103, 101])]))
def laid_pledge_api_ErrMany {H : Type} : DataW H := .iface "*errors.errorString" (.ptr (.agg [.lit (.string [116, 111, 111, 32, 109, 97, 110, 121])]))
def laid_pledge_api_ErrEnd {H : Type} : DataW H := .iface "*errors.errorString" (.ptr (.agg [.lit (.string [105, 116, 32, 101, 110, 100, 115, 32, 116, 111, 111, 32, 101, 97, 114, 108, 121])]))
def laid_pledge_api_ErrShape {H : Type} : DataW H := .iface "*errors.errorString" (.ptr (.agg [.lit (.string [110, 111, 116, 32, 97, 115, 32, 105, 116, 32, 104, 97, 115, 32, 116, 111, 32, 98, 101])]))
def laid_pledge_api_ErrOver {H : Type} : DataW H := .iface "*errors.errorString" (.ptr (.agg [.lit (.string [116, 111, 111, 32, 103, 114, 101, 97, 116, 32, 97, 32, 110, 117, 109, 98, 101, 114])]))
def laid_pledge_api_ErrNone {H : Type} : DataW H := .iface "*errors.errorString" (.ptr (.agg [.lit (.string [116, 104, 101, 114, 101, 32, 105, 115, 32, 110, 111, 110, 101])]))
def laid_pledge_api_ErrThere {H : Type} : DataW H := .iface "*errors.errorString" (.ptr (.agg [.lit (.string [116, 104, 101, 114, 101, 32, 105, 115, 32, 111, 110, 101])]))
def laid_pledge_api_ErrFull {H : Type} : DataW H := .iface "*errors.errorString" (.ptr (.agg [.lit (.string [116, 104, 101, 114, 101, 32, 105, 115, 32, 110, 111, 32, 114, 111, 111, 109])]))
def laid_pledge_api_ErrCrash {H : Type} : DataW H := .iface "*errors.errorString" (.ptr (.agg [.lit (.string [105, 116, 32, 105, 115, 32, 100, 111, 119, 110])]))
def laid_pledge_api_ErrTwice {H : Type} : DataW H := .iface "*errors.errorString" (.ptr (.agg [.lit (.string [100, 111, 110, 101, 32, 97, 108, 114, 101, 97, 100, 121])]))
def laid_pledge_api_ErrKind {H : Type} : DataW H := .iface "*errors.errorString" (.ptr (.agg [.lit (.string [110, 111, 32, 115, 117, 99, 104, 32, 107, 105, 110, 100])]))
def laid_pledge_api_ErrBarred {H : Type} : DataW H := .iface "*errors.errorString" (.ptr (.agg [.lit (.string [110, 111, 116, 32, 101, 108, 105, 103, 105, 98, 108, 101])]))
def laid_pledge_api_ErrShort {H : Type} : DataW H := .iface "*errors.errorString" (.ptr (.agg [.lit (.string [110, 111, 116, 32, 101, 110, 111, 117, 103, 104, 32, 116, 104, 101, 114, 101])]))
def laid_pledge_api_ErrBreach {H : Type} : DataW H := .iface "*errors.errorString" (.ptr (.agg [.lit (.string [97, 32, 108, 105, 109, 105, 116, 32, 119, 111, 117, 108, 100, 32, 98, 101, 32, 98, 114, 111, 107, 101, 110])]))
def laid_pledge_api_ErrNeed {H : Type} : DataW H := .iface "*errors.errorString" (.ptr (.agg [.lit (.string [108, 101, 115, 115, 32, 116, 104, 97, 110, 32, 119, 104, 97, 116, 32, 105, 115, 32, 110, 101, 101, 100, 101, 100])]))
def laid_pledge_api_ErrBound {H : Type} : DataW H := .iface "*errors.errorString" (.ptr (.agg [.lit (.string [98, 111, 117, 110, 100, 32, 98, 121, 32, 97, 32, 99, 97, 108, 108])]))
def laid_pledge_api_ErrDay {H : Type} : DataW H := .iface "*errors.errorString" (.ptr (.agg [.lit (.string [110, 111, 116, 32, 111, 110, 32, 116, 104, 105, 115, 32, 100, 97, 121])]))
def laid_pledge_api_ErrWord {H : Type} : DataW H := .iface "*errors.errorString" (.ptr (.agg [.lit (.string [110, 111, 32, 115, 117, 99, 104, 32, 119, 111, 114, 100])]))
def laid_pledge_api_ErrNumber {H : Type} : DataW H := .iface "*errors.errorString" (.ptr (.agg [.lit (.string [110, 111, 116, 32, 97, 32, 110, 117, 109, 98, 101, 114])]))
def laid_pledge_api_ErrBudget {H : Type} : DataW H := .iface "*errors.errorString" (.ptr (.agg [.lit (.string [110, 111, 116, 32, 108, 111, 111, 107, 101, 100, 32, 97, 116, 32, 97, 108, 108])]))
def laid_pledge_api_ErrNothing {H : Type} : DataW H := .iface "*errors.errorString" (.ptr (.agg [.lit (.string [105, 116, 32, 99, 97, 110, 39, 116, 32, 98, 101, 32, 100, 111, 110, 101])]))

/-- 'pledgelaw11.SchedTurns': WHATEVER THE INPUT: true; the input reads as it did. -/
def schedTurnsSpec : ChangeSpec := { name := "schedTurns", fn := fun _ => fun
  | [d1, d2, d3] => { results := [.lit (.bool true)], args := [d1, d2, d3] }
  | _ => none }
def schedTurnsRow : OpenClaim := { program := "ytlomknhkbhibfaadoor", sum := "6f407773da8410c4218c8050ee95766ca008aa39807c3efeb23f80e4e82a0bfc", func := "pledge/pledgelaw11.SchedTurns", spec := "schedTurns", inPlace := ["slices.overlaps[pledge/api.Entry]"], unfollowed := true, recurses := true, named := ["pledge/api.ErrMany", "pledge/api.ErrRange"], apart := false, laid := [("pledge/api.ErrRange", laid_pledge_api_ErrRange), ("pledge/api.ErrMany", laid_pledge_api_ErrMany)] }
def SchedTurnsSaid : Prop := schedTurnsRow.holds Tryd.pinned (OpenSpec.ofChange schedTurnsSpec)

/-- ITS FALSE NEIGHBOUR: 'it returns false'. Refute it at one input. -/
def schedTurnsWrong : ChangeSpec := { name := "schedTurns", fn := fun _ => fun
  | [d1, d2, d3] => { results := [.lit (.bool false)], args := [d1, d2, d3] }
  | _ => none }
def SchedTurnsWrongFalsely : Prop := schedTurnsRow.holds Tryd.pinned (OpenSpec.ofChange schedTurnsWrong)

/-- 'pledgelaw11.SchedFull': WHATEVER THE INPUT: true; the input reads as it did. -/
def schedFullSpec : ChangeSpec := { name := "schedFull", fn := fun _ => fun
  | [d1, d2] => { results := [.lit (.bool true)], args := [d1, d2] }
  | _ => none }
def schedFullRow : OpenClaim := { program := "ytlomknhkbhibfaadoor", sum := "6f407773da8410c4218c8050ee95766ca008aa39807c3efeb23f80e4e82a0bfc", func := "pledge/pledgelaw11.SchedFull", spec := "schedFull", inPlace := ["slices.overlaps[pledge/api.Entry]"], unfollowed := true, recurses := true, named := ["pledge/api.ErrMany", "pledge/api.ErrRange", "pledge/api.ErrEnd", "pledge/api.ErrShape", "pledge/api.ErrOver", "pledge/api.ErrNone", "pledge/api.ErrThere", "pledge/api.ErrFull", "pledge/api.ErrCrash", "pledge/api.ErrTwice", "pledge/api.ErrKind", "pledge/api.ErrBarred", "pledge/api.ErrShort", "pledge/api.ErrBreach", "pledge/api.ErrNeed", "pledge/api.ErrBound", "pledge/api.ErrDay", "pledge/api.ErrWord", "pledge/api.ErrNumber", "pledge/api.ErrBudget", "pledge/api.ErrNothing"], apart := false, laid := [("pledge/api.ErrEnd", laid_pledge_api_ErrEnd), ("pledge/api.ErrShape", laid_pledge_api_ErrShape), ("pledge/api.ErrRange", laid_pledge_api_ErrRange), ("pledge/api.ErrOver", laid_pledge_api_ErrOver), ("pledge/api.ErrMany", laid_pledge_api_ErrMany), ("pledge/api.ErrNone", laid_pledge_api_ErrNone), ("pledge/api.ErrThere", laid_pledge_api_ErrThere), ("pledge/api.ErrFull", laid_pledge_api_ErrFull), ("pledge/api.ErrCrash", laid_pledge_api_ErrCrash), ("pledge/api.ErrTwice", laid_pledge_api_ErrTwice), ("pledge/api.ErrKind", laid_pledge_api_ErrKind), ("pledge/api.ErrBarred", laid_pledge_api_ErrBarred), ("pledge/api.ErrShort", laid_pledge_api_ErrShort), ("pledge/api.ErrBreach", laid_pledge_api_ErrBreach), ("pledge/api.ErrNeed", laid_pledge_api_ErrNeed), ("pledge/api.ErrBound", laid_pledge_api_ErrBound), ("pledge/api.ErrDay", laid_pledge_api_ErrDay), ("pledge/api.ErrWord", laid_pledge_api_ErrWord), ("pledge/api.ErrNumber", laid_pledge_api_ErrNumber), ("pledge/api.ErrBudget", laid_pledge_api_ErrBudget), ("pledge/api.ErrNothing", laid_pledge_api_ErrNothing)] }
def SchedFullSaid : Prop := schedFullRow.holds Tryd.pinned (OpenSpec.ofChange schedFullSpec)

/-- ITS FALSE NEIGHBOUR: 'it returns false'. Refute it at one input. -/
def schedFullWrong : ChangeSpec := { name := "schedFull", fn := fun _ => fun
  | [d1, d2] => { results := [.lit (.bool false)], args := [d1, d2] }
  | _ => none }
def SchedFullWrongFalsely : Prop := schedFullRow.holds Tryd.pinned (OpenSpec.ofChange schedFullWrong)

/-- 'pledgelaw11.SchedPlays': WHATEVER THE INPUT: true; the input reads as it did. -/
def schedPlaysSpec : ChangeSpec := { name := "schedPlays", fn := fun _ => fun
  | [d1, d2, d3] => { results := [.lit (.bool true)], args := [d1, d2, d3] }
  | _ => none }
def schedPlaysRow : OpenClaim := { program := "ytlomknhkbhibfaadoor", sum := "6f407773da8410c4218c8050ee95766ca008aa39807c3efeb23f80e4e82a0bfc", func := "pledge/pledgelaw11.SchedPlays", spec := "schedPlays", inPlace := ["slices.overlaps[pledge/api.Entry]"], unfollowed := true, recurses := true, named := ["pledge/api.ErrMany", "pledge/api.ErrRange", "pledge/api.ErrEnd", "pledge/api.ErrShape", "pledge/api.ErrOver", "pledge/api.ErrNone", "pledge/api.ErrThere", "pledge/api.ErrFull", "pledge/api.ErrCrash", "pledge/api.ErrTwice", "pledge/api.ErrKind", "pledge/api.ErrBarred", "pledge/api.ErrShort", "pledge/api.ErrBreach", "pledge/api.ErrNeed", "pledge/api.ErrBound", "pledge/api.ErrDay", "pledge/api.ErrWord", "pledge/api.ErrNumber", "pledge/api.ErrBudget", "pledge/api.ErrNothing"], apart := false, laid := [("pledge/api.ErrEnd", laid_pledge_api_ErrEnd), ("pledge/api.ErrShape", laid_pledge_api_ErrShape), ("pledge/api.ErrRange", laid_pledge_api_ErrRange), ("pledge/api.ErrOver", laid_pledge_api_ErrOver), ("pledge/api.ErrMany", laid_pledge_api_ErrMany), ("pledge/api.ErrNone", laid_pledge_api_ErrNone), ("pledge/api.ErrThere", laid_pledge_api_ErrThere), ("pledge/api.ErrFull", laid_pledge_api_ErrFull), ("pledge/api.ErrCrash", laid_pledge_api_ErrCrash), ("pledge/api.ErrTwice", laid_pledge_api_ErrTwice), ("pledge/api.ErrKind", laid_pledge_api_ErrKind), ("pledge/api.ErrBarred", laid_pledge_api_ErrBarred), ("pledge/api.ErrShort", laid_pledge_api_ErrShort), ("pledge/api.ErrBreach", laid_pledge_api_ErrBreach), ("pledge/api.ErrNeed", laid_pledge_api_ErrNeed), ("pledge/api.ErrBound", laid_pledge_api_ErrBound), ("pledge/api.ErrDay", laid_pledge_api_ErrDay), ("pledge/api.ErrWord", laid_pledge_api_ErrWord), ("pledge/api.ErrNumber", laid_pledge_api_ErrNumber), ("pledge/api.ErrBudget", laid_pledge_api_ErrBudget), ("pledge/api.ErrNothing", laid_pledge_api_ErrNothing)] }
def SchedPlaysSaid : Prop := schedPlaysRow.holds Tryd.pinned (OpenSpec.ofChange schedPlaysSpec)

/-- ITS FALSE NEIGHBOUR: 'it returns false'. Refute it at one input. -/
def schedPlaysWrong : ChangeSpec := { name := "schedPlays", fn := fun _ => fun
  | [d1, d2, d3] => { results := [.lit (.bool false)], args := [d1, d2, d3] }
  | _ => none }
def SchedPlaysWrongFalsely : Prop := schedPlaysRow.holds Tryd.pinned (OpenSpec.ofChange schedPlaysWrong)

/- THE SECOND FORM. 'bulk': how many values and letters a reading holds, each counted each time it is reached (what is shared counts as often as it is met; a slice's spare places count too). A statement '..UptoSaid' is the law's where the arguments, and the package variables that the reading takes, are together of bulk at most 1048576: NARROWER than '..Said'. Prove '..Said' where nothing that the law and all that it calls make is longer than what came in: it says more and counts as full. Else prove '..UptoSaid'. A law counts once. -/
mutual
def uptoBulk {H : Type} : DataW H → Nat
  | .lit (.string bytes) => bytes.length + 1
  | .lit _ => 1
  | .nil => 1
  | .ptr d => uptoBulk d + 1
  | .slice elems spare => uptoBulkAll elems + uptoBulkAll spare + 1
  | .agg parts => uptoBulkAll parts + 1
  | .iface _ d => uptoBulk d + 1
  | .map entries => uptoBulkEntries entries + 1
  | .held _ => 1
def uptoBulkAll {H : Type} : List (DataW H) → Nat
  | [] => 0
  | d :: r => uptoBulk d + uptoBulkAll r
def uptoBulkEntries {H : Type} : List (Lit × DataW H) → Nat
  | [] => 0
  | x :: r => uptoBulkEntry x + uptoBulkEntries r
def uptoBulkEntry {H : Type} : Lit × DataW H → Nat
  | (.string bytes, d) => bytes.length + uptoBulk d + 1
  | (_, d) => uptoBulk d + 1
 end
def uptoSmall : (H : Type) → List (DataW H) → Bool := fun _ ds => decide (uptoBulkAll ds ≤ 1048576)
def OpenSpec.upto (s : _root_.Go.ChangeSpec) : _root_.Go.OpenSpec := { _root_.Go.OpenSpec.ofChange s with cond := some uptoSmall }

/-- 'pledgelaw11.SchedTurns', WHERE WHAT IT READS IS OF BULK AT MOST 1048576: true; the input reads as it did. -/
def schedTurnsUptoRow : OpenClaim := { program := "ytlomknhkbhibfaadoor", sum := "6f407773da8410c4218c8050ee95766ca008aa39807c3efeb23f80e4e82a0bfc", func := "pledge/pledgelaw11.SchedTurns", spec := "schedTurns", inPlace := ["slices.overlaps[pledge/api.Entry]"], unfollowed := true, recurses := true, named := ["pledge/api.ErrMany", "pledge/api.ErrRange"], apart := false, laid := [("pledge/api.ErrRange", laid_pledge_api_ErrRange), ("pledge/api.ErrMany", laid_pledge_api_ErrMany)], narrowed := true }
def SchedTurnsUptoSaid : Prop := schedTurnsUptoRow.holds Tryd.pinned (OpenSpec.upto schedTurnsSpec)

/-- 'pledgelaw11.SchedFull', WHERE WHAT IT READS IS OF BULK AT MOST 1048576: true; the input reads as it did. -/
def schedFullUptoRow : OpenClaim := { program := "ytlomknhkbhibfaadoor", sum := "6f407773da8410c4218c8050ee95766ca008aa39807c3efeb23f80e4e82a0bfc", func := "pledge/pledgelaw11.SchedFull", spec := "schedFull", inPlace := ["slices.overlaps[pledge/api.Entry]"], unfollowed := true, recurses := true, named := ["pledge/api.ErrMany", "pledge/api.ErrRange", "pledge/api.ErrEnd", "pledge/api.ErrShape", "pledge/api.ErrOver", "pledge/api.ErrNone", "pledge/api.ErrThere", "pledge/api.ErrFull", "pledge/api.ErrCrash", "pledge/api.ErrTwice", "pledge/api.ErrKind", "pledge/api.ErrBarred", "pledge/api.ErrShort", "pledge/api.ErrBreach", "pledge/api.ErrNeed", "pledge/api.ErrBound", "pledge/api.ErrDay", "pledge/api.ErrWord", "pledge/api.ErrNumber", "pledge/api.ErrBudget", "pledge/api.ErrNothing"], apart := false, laid := [("pledge/api.ErrEnd", laid_pledge_api_ErrEnd), ("pledge/api.ErrShape", laid_pledge_api_ErrShape), ("pledge/api.ErrRange", laid_pledge_api_ErrRange), ("pledge/api.ErrOver", laid_pledge_api_ErrOver), ("pledge/api.ErrMany", laid_pledge_api_ErrMany), ("pledge/api.ErrNone", laid_pledge_api_ErrNone), ("pledge/api.ErrThere", laid_pledge_api_ErrThere), ("pledge/api.ErrFull", laid_pledge_api_ErrFull), ("pledge/api.ErrCrash", laid_pledge_api_ErrCrash), ("pledge/api.ErrTwice", laid_pledge_api_ErrTwice), ("pledge/api.ErrKind", laid_pledge_api_ErrKind), ("pledge/api.ErrBarred", laid_pledge_api_ErrBarred), ("pledge/api.ErrShort", laid_pledge_api_ErrShort), ("pledge/api.ErrBreach", laid_pledge_api_ErrBreach), ("pledge/api.ErrNeed", laid_pledge_api_ErrNeed), ("pledge/api.ErrBound", laid_pledge_api_ErrBound), ("pledge/api.ErrDay", laid_pledge_api_ErrDay), ("pledge/api.ErrWord", laid_pledge_api_ErrWord), ("pledge/api.ErrNumber", laid_pledge_api_ErrNumber), ("pledge/api.ErrBudget", laid_pledge_api_ErrBudget), ("pledge/api.ErrNothing", laid_pledge_api_ErrNothing)], narrowed := true }
def SchedFullUptoSaid : Prop := schedFullUptoRow.holds Tryd.pinned (OpenSpec.upto schedFullSpec)

/-- 'pledgelaw11.SchedPlays', WHERE WHAT IT READS IS OF BULK AT MOST 1048576: true; the input reads as it did. -/
def schedPlaysUptoRow : OpenClaim := { program := "ytlomknhkbhibfaadoor", sum := "6f407773da8410c4218c8050ee95766ca008aa39807c3efeb23f80e4e82a0bfc", func := "pledge/pledgelaw11.SchedPlays", spec := "schedPlays", inPlace := ["slices.overlaps[pledge/api.Entry]"], unfollowed := true, recurses := true, named := ["pledge/api.ErrMany", "pledge/api.ErrRange", "pledge/api.ErrEnd", "pledge/api.ErrShape", "pledge/api.ErrOver", "pledge/api.ErrNone", "pledge/api.ErrThere", "pledge/api.ErrFull", "pledge/api.ErrCrash", "pledge/api.ErrTwice", "pledge/api.ErrKind", "pledge/api.ErrBarred", "pledge/api.ErrShort", "pledge/api.ErrBreach", "pledge/api.ErrNeed", "pledge/api.ErrBound", "pledge/api.ErrDay", "pledge/api.ErrWord", "pledge/api.ErrNumber", "pledge/api.ErrBudget", "pledge/api.ErrNothing"], apart := false, laid := [("pledge/api.ErrEnd", laid_pledge_api_ErrEnd), ("pledge/api.ErrShape", laid_pledge_api_ErrShape), ("pledge/api.ErrRange", laid_pledge_api_ErrRange), ("pledge/api.ErrOver", laid_pledge_api_ErrOver), ("pledge/api.ErrMany", laid_pledge_api_ErrMany), ("pledge/api.ErrNone", laid_pledge_api_ErrNone), ("pledge/api.ErrThere", laid_pledge_api_ErrThere), ("pledge/api.ErrFull", laid_pledge_api_ErrFull), ("pledge/api.ErrCrash", laid_pledge_api_ErrCrash), ("pledge/api.ErrTwice", laid_pledge_api_ErrTwice), ("pledge/api.ErrKind", laid_pledge_api_ErrKind), ("pledge/api.ErrBarred", laid_pledge_api_ErrBarred), ("pledge/api.ErrShort", laid_pledge_api_ErrShort), ("pledge/api.ErrBreach", laid_pledge_api_ErrBreach), ("pledge/api.ErrNeed", laid_pledge_api_ErrNeed), ("pledge/api.ErrBound", laid_pledge_api_ErrBound), ("pledge/api.ErrDay", laid_pledge_api_ErrDay), ("pledge/api.ErrWord", laid_pledge_api_ErrWord), ("pledge/api.ErrNumber", laid_pledge_api_ErrNumber), ("pledge/api.ErrBudget", laid_pledge_api_ErrBudget), ("pledge/api.ErrNothing", laid_pledge_api_ErrNothing)], narrowed := true }
def SchedPlaysUptoSaid : Prop := schedPlaysUptoRow.holds Tryd.pinned (OpenSpec.upto schedPlaysSpec)

end Rows
end Go.Proofs.YtlomknhkbhibfaaDoor
