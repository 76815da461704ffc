/- The functions that the law comes to, as plain functions, and for each a proof that the Go code comes to just these answers. Written by a program of this claim. Conditions: each theorem bears its own. -/
import Derived.Test.YtmofdacfijobdaaDoorProg
import Derived.Below
import Derived.Deep.Draws
import Derived.Deep.AppendLies
import Derived.Maps.AppendAt
import Derived.OwnWalk
import Derived.Laws.BytesArg
import Derived.Laws.MakeOwn
import Derived.Laws.OwnMore
import Derived.Deep.OwnRows
import Derived.Tactics
import Derived.Lib.ConvBytes
import Derived.Laws.Slices
import Derived.WalkKit
import Derived.KernelRfl
import Derived.RowKit3
import Derived.Deep.LoopGhost
import Derived.Deep.QuietTactic
import Derived.BigQuiet
import Derived.WideLaws
import Derived.Deep.DeepCutAuto
import Derived.Deep.CutBlock
import Derived.Deep.RegionHeld3
import Derived.Laws.Rows
import Derived.Lib.AppendStr
import Derived.ArgAppend
import Derived.Laws.IdiomCopy
import Derived.OrdersHeld
import Derived.Laws.BitsLemmas
import Derived.RowKit
import Derived.LaidEql
import Derived.Laws.Externs
import Derived.Shelf.Abstract
import Derived.Test.YtmofdacfijobdaaDoorOpen
import Derived.Test.YtmofdacfijobdaaDoorWWords
import Derived.Test.YtmofdacfijobdaaDoorWLast
import Derived.Test.YtmofdacfijobdaaDoorWTab
import Derived.Test.YtmofdacfijobdaaDoorWFour
import Derived.Test.YtmofdacfijobdaaDoorWQPut
import Derived.Test.YtmofdacfijobdaaDoorWApart
import Derived.Test.YtmofdacfijobdaaDoorWArr
import Derived.Test.YtmofdacfijobdaaDoorWZeros
import Derived.Test.YtmofdacfijobdaaDoorWFoot
import Derived.Test.YtmofdacfijobdaaDoorWKept
import Derived.Test.YtmofdacfijobdaaDoorWShare
import Derived.Test.YtmofdacfijobdaaDoorWN
import Derived.Test.YtmofdacfijobdaaDoorWFootNe
import Derived.Test.YtmofdacfijobdaaDoorWAt
import Derived.Test.YtmofdacfijobdaaDoorWEqStruct
import Derived.Test.YtmofdacfijobdaaDoorWRepsOne
import Derived.Test.YtmofdacfijobdaaDoorWInv
import Derived.Test.YtmofdacfijobdaaDoorWInvWords
import Derived.Test.YtmofdacfijobdaaDoorWGuard
import Derived.Test.YtmofdacfijobdaaDoorWNEv
import Derived.Test.YtmofdacfijobdaaDoorWMore
namespace Go.Proofs.YtmofdacfijobdaaDoor.EValueFalls
open Go.RowKit Go.Proofs.YtmofdacfijobdaaDoorW.PrintWords Go.Proofs.YtmofdacfijobdaaDoorW.PrintLast Go.Proofs.YtmofdacfijobdaaDoorW.PrintMore Go.Proofs.YtmofdacfijobdaaDoorW.PrintOpen
attribute [local go_sem] max2_int min2_int max_two min_two max_three min_three max_four min_four   -- for this text's walks alone
set_option linter.unusedVariables false
set_option linter.unusedSimpArgs false



/-- Where a sentinel error of package api lies (101 and on: their order there). -/
def adr [Inhabited (Int → Addr)] (c : Int) : Addr := (default : Int → Addr) c
def errW [Inhabited (Int → Addr)] : Option Int → Value
  | none => .nilIface
  | some c => .iface 90 (.pointer (some (adr c)))
theorem errW_none [Inhabited (Int → Addr)] : errW none = .nilIface := rfl
theorem errW_some [Inhabited (Int → Addr)] (c : Int) : errW (some c) = .iface 90 (.pointer (some (adr c))) := rfl
/-- The sentinels that this law comes to, and their variables' blocks. -/
def globTab : List (Int × Nat) := [(103, 0), (104, 1)]
/-- In this world each variable holds its sentinel, no two the same. -/
def GlobOK [Inhabited (Int → Addr)] (w : World) : Prop :=
  (∀ p ∈ globTab, w.cell? ⟨p.2, 0, none⟩ = some (.iface 90 (.pointer (some (adr p.1)))) ∧ ∃ cs t, w.heap[(adr p.1).block]? = some (.cells cs t (0, 0))) ∧
  ∀ p ∈ globTab, ∀ q ∈ globTab, p.1 ≠ q.1 → adr p.1 ≠ adr q.1
theorem GlobOK.below [Inhabited (Int → Addr)] {w w' : World} (h : GlobOK w) (hb : Below w.heap.size w w') : GlobOK w' := by
  refine ⟨fun p hp => ?_, h.2⟩
  obtain ⟨h1, cs, t, h2⟩ := h.1 p hp
  refine ⟨(hb.cell (World.block_lt_of_cell? w _ h1)).trans h1, cs, t, blk_below h2 hb⟩
theorem GlobOK.at [Inhabited (Int → Addr)] {w : World} (h : GlobOK w) (c : Int) (g : Nat) (hm : (c, g) ∈ globTab) : w.cell? ⟨g, 0, none⟩ = some (.iface 90 (.pointer (some (adr c)))) := (h.1 _ hm).1

-- the values' own types

end Go.Proofs.YtmofdacfijobdaaDoor.EValueFalls
