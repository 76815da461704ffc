/-
  No cell of these rows narrows 'for every input' (looked for: loops, veiled, ifaces, maps, wideKeys, modest, calm, conditions, laid).
  DERIVED. THE GIVEN ROWS OF THIS SEAT. 5 by the template 'for every input the law returns true; each argument reads behind the call as it read before'; 0 by the template 'total and deterministic' (their statements: YtjfemoebahnbnaaTotals.lean).
  GIVEN WITH THE SEED: the statements are not yours to turn. If you find one false, say at which input.
  Laid BY PROGRAM, IN A SANDBOX (cutbox-rows.mjs): the forced cells as the released guide's own fill.sh prints them over the translation 9f83c3ba528382d7… (all of the seat's roots in one cut). By AI agents, Wed Nov 11 2026. No macro, syntax, notation, axiom, sorry.
-/
import Derived.Test.YtjfemoebahnbnaaChecked
import GoSem.Claim
import GoSem.ClaimJoined
import GoSem.ClaimMapViews
import Derived.JoinedTies
import Derived.KernelRfl
namespace Go.Proofs.Ytjfemoebahnbnaa
/- THE CELL 'sum', in the pinned program and in every row, IS THE sha256 OF THE DUMP (.gsa) THAT YtjfemoebahnbnaaProg.lean LOADS. Nothing in Lean hashes anything: it is a label: what it is worth is what the hold of that sum in a sandbox is worth. -/
noncomputable def Try.pinned : Pinned := { name := "ytjfemoebahnbnaa", sum := "9f83c3ba528382d793c95f3fdddaaf5999489232bd32f0defa6034783e3c902f", checked := Try.checked }
namespace Rows
def none {H : Type} : Left H := { results := [], args := [] }

/-- 'pledgelaw2.FixWays': WHATEVER THE INPUT: true; the input reads as it did. -/
def fixWaysSpec : ChangeSpec := { name := "fixWays", fn := fun _ => fun
  | [d1, d2, d3] => { results := [.lit (.bool true)], args := [d1, d2, d3] }
  | _ => none }
def fixWaysRow : OpenClaim := { program := "ytjfemoebahnbnaa", sum := "9f83c3ba528382d793c95f3fdddaaf5999489232bd32f0defa6034783e3c902f", func := "pledge/pledgelaw2.FixWays", spec := "fixWays", named := ["math/bits.divideError", "math/bits.overflowError"], apart := false }
def FixWaysSaid : Prop := fixWaysRow.holds Try.pinned (OpenSpec.ofChange fixWaysSpec)

/-- ITS FALSE NEIGHBOUR: 'it returns false'. Refute it at one input. -/
def fixWaysWrong : ChangeSpec := { name := "fixWays", fn := fun _ => fun
  | [d1, d2, d3] => { results := [.lit (.bool false)], args := [d1, d2, d3] }
  | _ => none }
def FixWaysWrongFalsely : Prop := fixWaysRow.holds Try.pinned (OpenSpec.ofChange fixWaysWrong)

/-- 'pledgelaw2.FixEdges': WHATEVER THE INPUT: true; the input reads as it did. -/
def fixEdgesSpec : ChangeSpec := { name := "fixEdges", fn := fun _ => fun
  | [d1, d2] => { results := [.lit (.bool true)], args := [d1, d2] }
  | _ => none }
def fixEdgesRow : OpenClaim := { program := "ytjfemoebahnbnaa", sum := "9f83c3ba528382d793c95f3fdddaaf5999489232bd32f0defa6034783e3c902f", func := "pledge/pledgelaw2.FixEdges", spec := "fixEdges", named := ["math/bits.divideError", "math/bits.overflowError"], apart := false }
def FixEdgesSaid : Prop := fixEdgesRow.holds Try.pinned (OpenSpec.ofChange fixEdgesSpec)

/-- ITS FALSE NEIGHBOUR: 'it returns false'. Refute it at one input. -/
def fixEdgesWrong : ChangeSpec := { name := "fixEdges", fn := fun _ => fun
  | [d1, d2] => { results := [.lit (.bool false)], args := [d1, d2] }
  | _ => none }
def FixEdgesWrongFalsely : Prop := fixEdgesRow.holds Try.pinned (OpenSpec.ofChange fixEdgesWrong)

/-- 'pledgelaw2.FixSmall': WHATEVER THE INPUT: true; the input reads as it did. -/
def fixSmallSpec : ChangeSpec := { name := "fixSmall", fn := fun _ => fun
  | [d1, d2, d3, d4] => { results := [.lit (.bool true)], args := [d1, d2, d3, d4] }
  | _ => none }
def fixSmallRow : OpenClaim := { program := "ytjfemoebahnbnaa", sum := "9f83c3ba528382d793c95f3fdddaaf5999489232bd32f0defa6034783e3c902f", func := "pledge/pledgelaw2.FixSmall", spec := "fixSmall", named := ["math/bits.divideError", "math/bits.overflowError"], apart := false }
def FixSmallSaid : Prop := fixSmallRow.holds Try.pinned (OpenSpec.ofChange fixSmallSpec)

/-- ITS FALSE NEIGHBOUR: 'it returns false'. Refute it at one input. -/
def fixSmallWrong : ChangeSpec := { name := "fixSmall", fn := fun _ => fun
  | [d1, d2, d3, d4] => { results := [.lit (.bool false)], args := [d1, d2, d3, d4] }
  | _ => none }
def FixSmallWrongFalsely : Prop := fixSmallRow.holds Try.pinned (OpenSpec.ofChange fixSmallWrong)

/-- 'pledgelaw2.FixSums': WHATEVER THE INPUT: true; the input reads as it did. -/
def fixSumsSpec : ChangeSpec := { name := "fixSums", fn := fun _ => fun
  | [d1, d2] => { results := [.lit (.bool true)], args := [d1, d2] }
  | _ => none }
def fixSumsRow : OpenClaim := { program := "ytjfemoebahnbnaa", sum := "9f83c3ba528382d793c95f3fdddaaf5999489232bd32f0defa6034783e3c902f", func := "pledge/pledgelaw2.FixSums", spec := "fixSums", inPlace := ["math/bits.Add64"], named := ["math/bits.divideError", "math/bits.overflowError"], apart := false }
def FixSumsSaid : Prop := fixSumsRow.holds Try.pinned (OpenSpec.ofChange fixSumsSpec)

/-- ITS FALSE NEIGHBOUR: 'it returns false'. Refute it at one input. -/
def fixSumsWrong : ChangeSpec := { name := "fixSums", fn := fun _ => fun
  | [d1, d2] => { results := [.lit (.bool false)], args := [d1, d2] }
  | _ => none }
def FixSumsWrongFalsely : Prop := fixSumsRow.holds Try.pinned (OpenSpec.ofChange fixSumsWrong)

/-- 'pledgelaw2.FixSays': WHATEVER THE INPUT: true; the input reads as it did. -/
def fixSaysSpec : ChangeSpec := { name := "fixSays", fn := fun _ => fun
  | [d1, d2, d3, d4, d5, d6] => { results := [.lit (.bool true)], args := [d1, d2, d3, d4, d5, d6] }
  | _ => none }
def fixSaysRow : OpenClaim := { program := "ytjfemoebahnbnaa", sum := "9f83c3ba528382d793c95f3fdddaaf5999489232bd32f0defa6034783e3c902f", func := "pledge/pledgelaw2.FixSays", spec := "fixSays", inPlace := ["math/bits.Add64"], named := ["math/bits.divideError", "math/bits.overflowError"], apart := false }
def FixSaysSaid : Prop := fixSaysRow.holds Try.pinned (OpenSpec.ofChange fixSaysSpec)

/-- ITS FALSE NEIGHBOUR: 'it returns false'. Refute it at one input. -/
def fixSaysWrong : ChangeSpec := { name := "fixSays", fn := fun _ => fun
  | [d1, d2, d3, d4, d5, d6] => { results := [.lit (.bool false)], args := [d1, d2, d3, d4, d5, d6] }
  | _ => none }
def FixSaysWrongFalsely : Prop := fixSaysRow.holds Try.pinned (OpenSpec.ofChange fixSaysWrong)

/- THE SECOND FORM. 'bulk': how many values and letters a reading holds, each counted each time it is reached (what is shared counts as often as it is met; a slice's spare places count too). A statement '..UptoSaid' is the law's where the arguments, and the package variables that the reading takes, are together of bulk at most 1048576: NARROWER than '..Said'. Prove '..Said' where nothing that the law and all that it calls make is longer than what came in: it says more and counts as full. Else prove '..UptoSaid'. A law counts once. -/
mutual
def uptoBulk {H : Type} : DataW H → Nat
  | .lit (.string bytes) => bytes.length + 1
  | .lit _ => 1
  | .nil => 1
  | .ptr d => uptoBulk d + 1
  | .slice elems spare => uptoBulkAll elems + uptoBulkAll spare + 1
  | .agg parts => uptoBulkAll parts + 1
  | .iface _ d => uptoBulk d + 1
  | .map entries => uptoBulkEntries entries + 1
  | .held _ => 1
def uptoBulkAll {H : Type} : List (DataW H) → Nat
  | [] => 0
  | d :: r => uptoBulk d + uptoBulkAll r
def uptoBulkEntries {H : Type} : List (Lit × DataW H) → Nat
  | [] => 0
  | x :: r => uptoBulkEntry x + uptoBulkEntries r
def uptoBulkEntry {H : Type} : Lit × DataW H → Nat
  | (.string bytes, d) => bytes.length + uptoBulk d + 1
  | (_, d) => uptoBulk d + 1
 end
def uptoSmall : (H : Type) → List (DataW H) → Bool := fun _ ds => decide (uptoBulkAll ds ≤ 1048576)
def OpenSpec.upto (s : _root_.Go.ChangeSpec) : _root_.Go.OpenSpec := { _root_.Go.OpenSpec.ofChange s with cond := some uptoSmall }

/-- 'pledgelaw2.FixWays', WHERE WHAT IT READS IS OF BULK AT MOST 1048576: true; the input reads as it did. -/
def fixWaysUptoRow : OpenClaim := { program := "ytjfemoebahnbnaa", sum := "9f83c3ba528382d793c95f3fdddaaf5999489232bd32f0defa6034783e3c902f", func := "pledge/pledgelaw2.FixWays", spec := "fixWays", named := ["math/bits.divideError", "math/bits.overflowError"], apart := false, narrowed := true }
def FixWaysUptoSaid : Prop := fixWaysUptoRow.holds Try.pinned (OpenSpec.upto fixWaysSpec)

/-- 'pledgelaw2.FixEdges', WHERE WHAT IT READS IS OF BULK AT MOST 1048576: true; the input reads as it did. -/
def fixEdgesUptoRow : OpenClaim := { program := "ytjfemoebahnbnaa", sum := "9f83c3ba528382d793c95f3fdddaaf5999489232bd32f0defa6034783e3c902f", func := "pledge/pledgelaw2.FixEdges", spec := "fixEdges", named := ["math/bits.divideError", "math/bits.overflowError"], apart := false, narrowed := true }
def FixEdgesUptoSaid : Prop := fixEdgesUptoRow.holds Try.pinned (OpenSpec.upto fixEdgesSpec)

/-- 'pledgelaw2.FixSmall', WHERE WHAT IT READS IS OF BULK AT MOST 1048576: true; the input reads as it did. -/
def fixSmallUptoRow : OpenClaim := { program := "ytjfemoebahnbnaa", sum := "9f83c3ba528382d793c95f3fdddaaf5999489232bd32f0defa6034783e3c902f", func := "pledge/pledgelaw2.FixSmall", spec := "fixSmall", named := ["math/bits.divideError", "math/bits.overflowError"], apart := false, narrowed := true }
def FixSmallUptoSaid : Prop := fixSmallUptoRow.holds Try.pinned (OpenSpec.upto fixSmallSpec)

/-- 'pledgelaw2.FixSums', WHERE WHAT IT READS IS OF BULK AT MOST 1048576: true; the input reads as it did. -/
def fixSumsUptoRow : OpenClaim := { program := "ytjfemoebahnbnaa", sum := "9f83c3ba528382d793c95f3fdddaaf5999489232bd32f0defa6034783e3c902f", func := "pledge/pledgelaw2.FixSums", spec := "fixSums", inPlace := ["math/bits.Add64"], named := ["math/bits.divideError", "math/bits.overflowError"], apart := false, narrowed := true }
def FixSumsUptoSaid : Prop := fixSumsUptoRow.holds Try.pinned (OpenSpec.upto fixSumsSpec)

/-- 'pledgelaw2.FixSays', WHERE WHAT IT READS IS OF BULK AT MOST 1048576: true; the input reads as it did. -/
def fixSaysUptoRow : OpenClaim := { program := "ytjfemoebahnbnaa", sum := "9f83c3ba528382d793c95f3fdddaaf5999489232bd32f0defa6034783e3c902f", func := "pledge/pledgelaw2.FixSays", spec := "fixSays", inPlace := ["math/bits.Add64"], named := ["math/bits.divideError", "math/bits.overflowError"], apart := false, narrowed := true }
def FixSaysUptoSaid : Prop := fixSaysUptoRow.holds Try.pinned (OpenSpec.upto fixSaysSpec)

end Rows
end Go.Proofs.Ytjfemoebahnbnaa
