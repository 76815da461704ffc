/-
  DERIVED. GIVEN WITH THE SEED: THE CARDS: each row of YtcmdhgcaldpioaaDoorRows.lean that lists a variable, with what it lists TIED to the program's text (the seventh form; the later family's looks); each row that meets fmt, with fmt's text TOLD by the authors' own Lean function (tested against real Go, not proved from fmt's source: count such statements apart). THE CARD IS WHAT COUNTS. Prove the row's statement (the work); the ties are given (YtcmdhgcaldpioaaDoorTie.lean); close each card by the builder's one call (the guide's Derived/Test/ToyasCard.lean, 'card_holds'). Laid BY PROGRAM, IN A SANDBOX (cutbox-door.mjs). By AI agents, Wed Nov 11 2026. No macro, syntax, notation, axiom, sorry.
-/
import Derived.Test.YtcmdhgcaldpioaaDoorRows
import GoSem.ClaimSeven
namespace Go.Proofs.YtcmdhgcaldpioaaDoor
namespace Rows

/-- THE TIED CARD OF 'pledgelaw24.FundClamps'. -/
def fundClampsCard : Claim7 := { stood := { row := fundClampsRow, standIns := [], harness := (true, "07f89dc160b6841f79810bb3b34a1fc91cdeccda780692c80cc804cf5697b635"), looks := true }, kinds := [], alts := [], laidByText := true, laidKinds := [.sentinel, .sentinel, .sentinel, .sentinel, .sentinel, .sentinel, .sentinel, .sentinel, .sentinel, .sentinel, .sentinel, .sentinel, .sentinel, .sentinel, .sentinel, .sentinel, .sentinel, .sentinel, .sentinel, .sentinel, .sentinel], laidTests := true, laidLooks := .later }
def FundClampsCardSaid : Prop := Claim7.holds Tryd.pinned (.plain (OpenSpec.ofChange fundClampsSpec)) fundClampsCard

/-- THE TIED CARD OF 'pledgelaw24.FundCalls'. -/
def fundCallsCard : Claim7 := { stood := { row := fundCallsRow, standIns := [], harness := (true, "07f89dc160b6841f79810bb3b34a1fc91cdeccda780692c80cc804cf5697b635"), looks := true }, kinds := [], alts := [], laidByText := true, laidKinds := [.sentinel, .sentinel, .sentinel, .sentinel], laidTests := true, laidLooks := .later }
def FundCallsCardSaid : Prop := Claim7.holds Tryd.pinned (.plain (OpenSpec.ofChange fundCallsSpec)) fundCallsCard

/-- THE TIED CARD OF 'pledgelaw24.FundSays'. -/
def fundSaysCard : Claim7 := { stood := { row := fundSaysRow, standIns := [], harness := (true, "07f89dc160b6841f79810bb3b34a1fc91cdeccda780692c80cc804cf5697b635"), looks := true }, kinds := [], alts := [], laidByText := true, laidKinds := [.sentinel, .sentinel, .sentinel, .sentinel, .sentinel, .sentinel, .sentinel, .sentinel, .sentinel, .sentinel, .sentinel, .sentinel, .sentinel, .sentinel, .sentinel, .sentinel, .sentinel, .sentinel, .sentinel, .sentinel, .sentinel], laidTests := true, laidLooks := .later }
def FundSaysCardSaid : Prop := Claim7.holds Tryd.pinned (.plain (OpenSpec.ofChange fundSaysSpec)) fundSaysCard

/-- THE TIED CARD OF 'pledgelaw24.FundSizes'. -/
def fundSizesCard : Claim7 := { stood := { row := fundSizesRow, standIns := [], harness := (true, "07f89dc160b6841f79810bb3b34a1fc91cdeccda780692c80cc804cf5697b635"), looks := true }, kinds := [], alts := [], laidByText := true, laidKinds := [.sentinel, .sentinel, .sentinel, .sentinel], laidTests := true, laidLooks := .later }
def FundSizesCardSaid : Prop := Claim7.holds Tryd.pinned (.plain (OpenSpec.ofChange fundSizesSpec)) fundSizesCard

/-- THE SECOND FORM's CARD OF 'pledgelaw24.FundClamps'. -/
def fundClampsUptoCard : Claim7 := { stood := { row := fundClampsUptoRow, standIns := [], harness := (true, "07f89dc160b6841f79810bb3b34a1fc91cdeccda780692c80cc804cf5697b635"), looks := true }, kinds := [], alts := [], laidByText := true, laidKinds := [.sentinel, .sentinel, .sentinel, .sentinel, .sentinel, .sentinel, .sentinel, .sentinel, .sentinel, .sentinel, .sentinel, .sentinel, .sentinel, .sentinel, .sentinel, .sentinel, .sentinel, .sentinel, .sentinel, .sentinel, .sentinel], laidTests := true, laidLooks := .later }
def FundClampsUptoCardSaid : Prop := Claim7.holds Tryd.pinned (.plain (OpenSpec.upto fundClampsSpec)) fundClampsUptoCard

/-- THE SECOND FORM's CARD OF 'pledgelaw24.FundCalls'. -/
def fundCallsUptoCard : Claim7 := { stood := { row := fundCallsUptoRow, standIns := [], harness := (true, "07f89dc160b6841f79810bb3b34a1fc91cdeccda780692c80cc804cf5697b635"), looks := true }, kinds := [], alts := [], laidByText := true, laidKinds := [.sentinel, .sentinel, .sentinel, .sentinel], laidTests := true, laidLooks := .later }
def FundCallsUptoCardSaid : Prop := Claim7.holds Tryd.pinned (.plain (OpenSpec.upto fundCallsSpec)) fundCallsUptoCard

/-- THE SECOND FORM's CARD OF 'pledgelaw24.FundSays'. -/
def fundSaysUptoCard : Claim7 := { stood := { row := fundSaysUptoRow, standIns := [], harness := (true, "07f89dc160b6841f79810bb3b34a1fc91cdeccda780692c80cc804cf5697b635"), looks := true }, kinds := [], alts := [], laidByText := true, laidKinds := [.sentinel, .sentinel, .sentinel, .sentinel, .sentinel, .sentinel, .sentinel, .sentinel, .sentinel, .sentinel, .sentinel, .sentinel, .sentinel, .sentinel, .sentinel, .sentinel, .sentinel, .sentinel, .sentinel, .sentinel, .sentinel], laidTests := true, laidLooks := .later }
def FundSaysUptoCardSaid : Prop := Claim7.holds Tryd.pinned (.plain (OpenSpec.upto fundSaysSpec)) fundSaysUptoCard

/-- THE SECOND FORM's CARD OF 'pledgelaw24.FundSizes'. -/
def fundSizesUptoCard : Claim7 := { stood := { row := fundSizesUptoRow, standIns := [], harness := (true, "07f89dc160b6841f79810bb3b34a1fc91cdeccda780692c80cc804cf5697b635"), looks := true }, kinds := [], alts := [], laidByText := true, laidKinds := [.sentinel, .sentinel, .sentinel, .sentinel], laidTests := true, laidLooks := .later }
def FundSizesUptoCardSaid : Prop := Claim7.holds Tryd.pinned (.plain (OpenSpec.upto fundSizesSpec)) fundSizesUptoCard
end Rows
end Go.Proofs.YtcmdhgcaldpioaaDoor
