/-
  DERIVED. GIVEN WITH THE SEED: THE CARDS: each row of YtelabafoknmkcaaDoorRows.lean that lists a variable, with what it lists TIED to the program's text (the seventh form; the later family's looks); each row that meets fmt, with fmt's text TOLD by the authors' own Lean function (tested against real Go, not proved from fmt's source: count such statements apart). THE CARD IS WHAT COUNTS. Prove the row's statement (the work); the ties are given (YtelabafoknmkcaaDoorTie.lean); close each card by the builder's one call (the guide's Derived/Test/ToyasCard.lean, 'card_holds'). Laid BY PROGRAM, IN A SANDBOX (cutbox-door.mjs). By AI agents, Wed Nov 11 2026. No macro, syntax, notation, axiom, sorry.
-/
import Derived.Test.YtelabafoknmkcaaDoorRows
import GoSem.ClaimSeven
namespace Go.Proofs.YtelabafoknmkcaaDoor
namespace Rows

/-- THE TIED CARD OF 'pledgelaw9.RecRanges'. -/
def recRangesCard : Claim7 := { stood := { row := recRangesRow, standIns := [], harness := (true, "0b140d6fe792a8f46b487c9e1e9fdc53b0a3fea85d727c5a113382186151f2c1"), looks := true }, kinds := [], alts := [], laidByText := true, laidKinds := [.sentinel, .sentinel, .sentinel, .sentinel, .sentinel, .sentinel, .sentinel, .sentinel, .sentinel, .sentinel, .sentinel, .sentinel, .sentinel, .sentinel, .sentinel, .sentinel, .sentinel, .sentinel, .sentinel, .sentinel, .sentinel], laidTests := true, laidLooks := .later }
def RecRangesCardSaid : Prop := Claim7.holds Tryd.pinned (.plain (OpenSpec.ofChange recRangesSpec)) recRangesCard

/-- THE TIED CARD OF 'pledgelaw9.RecOrders'. -/
def recOrdersCard : Claim7 := { stood := { row := recOrdersRow, standIns := [], harness := (true, "0b140d6fe792a8f46b487c9e1e9fdc53b0a3fea85d727c5a113382186151f2c1"), looks := true }, kinds := [], alts := [], laidByText := true, laidKinds := [.sentinel, .sentinel, .sentinel], laidTests := true, laidLooks := .later }
def RecOrdersCardSaid : Prop := Claim7.holds Tryd.pinned (.plain (OpenSpec.ofChange recOrdersSpec)) recOrdersCard

/-- THE TIED CARD OF 'pledgelaw9.RecBack'. -/
def recBackCard : Claim7 := { stood := { row := recBackRow, standIns := [], harness := (true, "0b140d6fe792a8f46b487c9e1e9fdc53b0a3fea85d727c5a113382186151f2c1"), looks := true }, kinds := [], alts := [], laidByText := true, laidKinds := [.sentinel, .sentinel, .sentinel, .sentinel, .sentinel, .sentinel, .sentinel, .sentinel, .sentinel, .sentinel, .sentinel, .sentinel, .sentinel, .sentinel, .sentinel, .sentinel, .sentinel, .sentinel, .sentinel, .sentinel, .sentinel], laidTests := true, laidLooks := .later }
def RecBackCardSaid : Prop := Claim7.holds Tryd.pinned (.plain (OpenSpec.ofChange recBackSpec)) recBackCard

/-- THE TIED CARD OF 'pledgelaw9.RecSays'. -/
def recSaysCard : Claim7 := { stood := { row := recSaysRow, standIns := [], harness := (true, "0b140d6fe792a8f46b487c9e1e9fdc53b0a3fea85d727c5a113382186151f2c1"), looks := true }, kinds := [], alts := [], laidByText := true, laidKinds := [.sentinel, .sentinel, .sentinel, .sentinel, .sentinel, .sentinel, .sentinel, .sentinel, .sentinel, .sentinel, .sentinel, .sentinel, .sentinel, .sentinel, .sentinel, .sentinel, .sentinel, .sentinel, .sentinel, .sentinel, .sentinel], laidTests := true, laidLooks := .later }
def RecSaysCardSaid : Prop := Claim7.holds Tryd.pinned (.plain (OpenSpec.ofChange recSaysSpec)) recSaysCard

/-- THE SECOND FORM's CARD OF 'pledgelaw9.RecRanges'. -/
def recRangesUptoCard : Claim7 := { stood := { row := recRangesUptoRow, standIns := [], harness := (true, "0b140d6fe792a8f46b487c9e1e9fdc53b0a3fea85d727c5a113382186151f2c1"), looks := true }, kinds := [], alts := [], laidByText := true, laidKinds := [.sentinel, .sentinel, .sentinel, .sentinel, .sentinel, .sentinel, .sentinel, .sentinel, .sentinel, .sentinel, .sentinel, .sentinel, .sentinel, .sentinel, .sentinel, .sentinel, .sentinel, .sentinel, .sentinel, .sentinel, .sentinel], laidTests := true, laidLooks := .later }
def RecRangesUptoCardSaid : Prop := Claim7.holds Tryd.pinned (.plain (OpenSpec.upto recRangesSpec)) recRangesUptoCard

/-- THE SECOND FORM's CARD OF 'pledgelaw9.RecOrders'. -/
def recOrdersUptoCard : Claim7 := { stood := { row := recOrdersUptoRow, standIns := [], harness := (true, "0b140d6fe792a8f46b487c9e1e9fdc53b0a3fea85d727c5a113382186151f2c1"), looks := true }, kinds := [], alts := [], laidByText := true, laidKinds := [.sentinel, .sentinel, .sentinel], laidTests := true, laidLooks := .later }
def RecOrdersUptoCardSaid : Prop := Claim7.holds Tryd.pinned (.plain (OpenSpec.upto recOrdersSpec)) recOrdersUptoCard

/-- THE SECOND FORM's CARD OF 'pledgelaw9.RecBack'. -/
def recBackUptoCard : Claim7 := { stood := { row := recBackUptoRow, standIns := [], harness := (true, "0b140d6fe792a8f46b487c9e1e9fdc53b0a3fea85d727c5a113382186151f2c1"), looks := true }, kinds := [], alts := [], laidByText := true, laidKinds := [.sentinel, .sentinel, .sentinel, .sentinel, .sentinel, .sentinel, .sentinel, .sentinel, .sentinel, .sentinel, .sentinel, .sentinel, .sentinel, .sentinel, .sentinel, .sentinel, .sentinel, .sentinel, .sentinel, .sentinel, .sentinel], laidTests := true, laidLooks := .later }
def RecBackUptoCardSaid : Prop := Claim7.holds Tryd.pinned (.plain (OpenSpec.upto recBackSpec)) recBackUptoCard

/-- THE SECOND FORM's CARD OF 'pledgelaw9.RecSays'. -/
def recSaysUptoCard : Claim7 := { stood := { row := recSaysUptoRow, standIns := [], harness := (true, "0b140d6fe792a8f46b487c9e1e9fdc53b0a3fea85d727c5a113382186151f2c1"), looks := true }, kinds := [], alts := [], laidByText := true, laidKinds := [.sentinel, .sentinel, .sentinel, .sentinel, .sentinel, .sentinel, .sentinel, .sentinel, .sentinel, .sentinel, .sentinel, .sentinel, .sentinel, .sentinel, .sentinel, .sentinel, .sentinel, .sentinel, .sentinel, .sentinel, .sentinel], laidTests := true, laidLooks := .later }
def RecSaysUptoCardSaid : Prop := Claim7.holds Tryd.pinned (.plain (OpenSpec.upto recSaysSpec)) recSaysUptoCard
end Rows
end Go.Proofs.YtelabafoknmkcaaDoor
