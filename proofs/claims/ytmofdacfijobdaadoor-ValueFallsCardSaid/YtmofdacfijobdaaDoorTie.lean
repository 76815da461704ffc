/-
  DERIVED. GIVEN WITH THE SEED: THE PROGRAM's TIES (one call each: nine closed facts by the kernel) AND EACH ROW's TIE, after the 31st guide's Derived/Test/Toyas{Tie, Card}.lean. No idea stands in it: it is a product of the set-up. Laid BY PROGRAM, IN A SANDBOX (cutbox-door.mjs). By AI agents, Wed Nov 11 2026. No macro, syntax, notation, axiom, sorry.
-/
import Derived.Test.YtmofdacfijobdaaDoorRows
import Derived.LaidByTextLater
import Derived.SevenTiedAt
import Derived.LaidSub
import Derived.LaidOnce
namespace Go.Proofs.YtmofdacfijobdaaDoor
open Go
set_option maxRecDepth 100000
theorem seatTie1 : Tryd.prog.laidByTextLater [("pledge/api.ErrEnd", Rows.laid_pledge_api_ErrEnd), ("pledge/api.ErrShape", Rows.laid_pledge_api_ErrShape), ("pledge/api.ErrRange", Rows.laid_pledge_api_ErrRange), ("pledge/api.ErrOver", Rows.laid_pledge_api_ErrOver), ("pledge/api.ErrMany", Rows.laid_pledge_api_ErrMany), ("pledge/api.ErrNone", Rows.laid_pledge_api_ErrNone), ("pledge/api.ErrThere", Rows.laid_pledge_api_ErrThere), ("pledge/api.ErrFull", Rows.laid_pledge_api_ErrFull), ("pledge/api.ErrCrash", Rows.laid_pledge_api_ErrCrash), ("pledge/api.ErrTwice", Rows.laid_pledge_api_ErrTwice), ("pledge/api.ErrKind", Rows.laid_pledge_api_ErrKind), ("pledge/api.ErrBarred", Rows.laid_pledge_api_ErrBarred), ("pledge/api.ErrShort", Rows.laid_pledge_api_ErrShort), ("pledge/api.ErrBreach", Rows.laid_pledge_api_ErrBreach), ("pledge/api.ErrNeed", Rows.laid_pledge_api_ErrNeed), ("pledge/api.ErrBound", Rows.laid_pledge_api_ErrBound), ("pledge/api.ErrDay", Rows.laid_pledge_api_ErrDay), ("pledge/api.ErrWord", Rows.laid_pledge_api_ErrWord), ("pledge/api.ErrNumber", Rows.laid_pledge_api_ErrNumber), ("pledge/api.ErrBudget", Rows.laid_pledge_api_ErrBudget), ("pledge/api.ErrNothing", Rows.laid_pledge_api_ErrNothing)] [.sentinel, .sentinel, .sentinel, .sentinel, .sentinel, .sentinel, .sentinel, .sentinel, .sentinel, .sentinel, .sentinel, .sentinel, .sentinel, .sentinel, .sentinel, .sentinel, .sentinel, .sentinel, .sentinel, .sentinel, .sentinel] true :=
  Program.laidByTextLater_by_one 408 8 2 (by kernel_rfl) (by kernel_rfl) (by kernel_rfl) (by kernel_rfl) (by kernel_rfl) (by kernel_rfl) (fun _ _ => by kernel_rfl)
theorem noOwnUnsafe : Tryd.pinned.checked.prog.headLifts.contains "ownunsafe" = false := by kernel_rfl
theorem tie : Tryd.prog.laidByTextLater [("pledge/api.ErrEnd", Rows.laid_pledge_api_ErrEnd), ("pledge/api.ErrShape", Rows.laid_pledge_api_ErrShape), ("pledge/api.ErrRange", Rows.laid_pledge_api_ErrRange), ("pledge/api.ErrOver", Rows.laid_pledge_api_ErrOver), ("pledge/api.ErrMany", Rows.laid_pledge_api_ErrMany), ("pledge/api.ErrNone", Rows.laid_pledge_api_ErrNone), ("pledge/api.ErrThere", Rows.laid_pledge_api_ErrThere), ("pledge/api.ErrFull", Rows.laid_pledge_api_ErrFull), ("pledge/api.ErrCrash", Rows.laid_pledge_api_ErrCrash), ("pledge/api.ErrTwice", Rows.laid_pledge_api_ErrTwice), ("pledge/api.ErrKind", Rows.laid_pledge_api_ErrKind), ("pledge/api.ErrBarred", Rows.laid_pledge_api_ErrBarred), ("pledge/api.ErrShort", Rows.laid_pledge_api_ErrShort), ("pledge/api.ErrBreach", Rows.laid_pledge_api_ErrBreach), ("pledge/api.ErrNeed", Rows.laid_pledge_api_ErrNeed), ("pledge/api.ErrBound", Rows.laid_pledge_api_ErrBound), ("pledge/api.ErrDay", Rows.laid_pledge_api_ErrDay), ("pledge/api.ErrWord", Rows.laid_pledge_api_ErrWord), ("pledge/api.ErrNumber", Rows.laid_pledge_api_ErrNumber), ("pledge/api.ErrBudget", Rows.laid_pledge_api_ErrBudget), ("pledge/api.ErrNothing", Rows.laid_pledge_api_ErrNothing)] [.sentinel, .sentinel, .sentinel, .sentinel, .sentinel, .sentinel, .sentinel, .sentinel, .sentinel, .sentinel, .sentinel, .sentinel, .sentinel, .sentinel, .sentinel, .sentinel, .sentinel, .sentinel, .sentinel, .sentinel, .sentinel] true :=
  Program.laidByTextLater.sub seatTie1 ["pledge/api.ErrEnd", "pledge/api.ErrShape", "pledge/api.ErrRange", "pledge/api.ErrOver", "pledge/api.ErrMany", "pledge/api.ErrNone", "pledge/api.ErrThere", "pledge/api.ErrFull", "pledge/api.ErrCrash", "pledge/api.ErrTwice", "pledge/api.ErrKind", "pledge/api.ErrBarred", "pledge/api.ErrShort", "pledge/api.ErrBreach", "pledge/api.ErrNeed", "pledge/api.ErrBound", "pledge/api.ErrDay", "pledge/api.ErrWord", "pledge/api.ErrNumber", "pledge/api.ErrBudget", "pledge/api.ErrNothing"] (by kernel_rfl) (by kernel_rfl)
theorem valueSays_row_tie : Rows.valueSaysRow.laidByTextAt .later Tryd.pinned [.sentinel, .sentinel, .sentinel, .sentinel, .sentinel, .sentinel, .sentinel, .sentinel, .sentinel, .sentinel, .sentinel, .sentinel, .sentinel, .sentinel, .sentinel, .sentinel, .sentinel, .sentinel, .sentinel, .sentinel, .sentinel] true :=
  OpenClaim.laidByTextAt_later rfl rfl tie noOwnUnsafe
theorem tie2 : Tryd.prog.laidByTextLater [("pledge/api.ErrRange", Rows.laid_pledge_api_ErrRange), ("pledge/api.ErrOver", Rows.laid_pledge_api_ErrOver)] [.sentinel, .sentinel] true :=
  Program.laidByTextLater.sub seatTie1 ["pledge/api.ErrRange", "pledge/api.ErrOver"] (by kernel_rfl) (by kernel_rfl)
theorem valueFalls_row_tie : Rows.valueFallsRow.laidByTextAt .later Tryd.pinned [.sentinel, .sentinel] true :=
  OpenClaim.laidByTextAt_later rfl rfl tie2 noOwnUnsafe
theorem valueCounts_row_tie : Rows.valueCountsRow.laidByTextAt .later Tryd.pinned [.sentinel, .sentinel] true :=
  OpenClaim.laidByTextAt_later rfl rfl tie2 noOwnUnsafe
theorem valueCash_row_tie : Rows.valueCashRow.laidByTextAt .later Tryd.pinned [.sentinel, .sentinel] true :=
  OpenClaim.laidByTextAt_later rfl rfl tie2 noOwnUnsafe
theorem valueSaysUpto_row_tie : Rows.valueSaysUptoRow.laidByTextAt .later Tryd.pinned [.sentinel, .sentinel, .sentinel, .sentinel, .sentinel, .sentinel, .sentinel, .sentinel, .sentinel, .sentinel, .sentinel, .sentinel, .sentinel, .sentinel, .sentinel, .sentinel, .sentinel, .sentinel, .sentinel, .sentinel, .sentinel] true :=
  OpenClaim.laidByTextAt_later rfl rfl tie noOwnUnsafe
theorem valueFallsUpto_row_tie : Rows.valueFallsUptoRow.laidByTextAt .later Tryd.pinned [.sentinel, .sentinel] true :=
  OpenClaim.laidByTextAt_later rfl rfl tie2 noOwnUnsafe
theorem valueCountsUpto_row_tie : Rows.valueCountsUptoRow.laidByTextAt .later Tryd.pinned [.sentinel, .sentinel] true :=
  OpenClaim.laidByTextAt_later rfl rfl tie2 noOwnUnsafe
theorem valueCashUpto_row_tie : Rows.valueCashUptoRow.laidByTextAt .later Tryd.pinned [.sentinel, .sentinel] true :=
  OpenClaim.laidByTextAt_later rfl rfl tie2 noOwnUnsafe
end Go.Proofs.YtmofdacfijobdaaDoor
