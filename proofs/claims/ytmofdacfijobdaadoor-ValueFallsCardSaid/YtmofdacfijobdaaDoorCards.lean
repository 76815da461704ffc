/-
  DERIVED. GIVEN WITH THE SEED: THE CARDS: each row of YtmofdacfijobdaaDoorRows.lean that lists a variable, with what it lists TIED to the program's text (the seventh form; the later family's looks); each row that meets fmt, with fmt's text TOLD by the authors' own Lean function (tested against real Go, not proved from fmt's source: count such statements apart). THE CARD IS WHAT COUNTS. Prove the row's statement (the work); the ties are given (YtmofdacfijobdaaDoorTie.lean); close each card by the builder's one call (the guide's Derived/Test/ToyasCard.lean, 'card_holds'). Laid BY PROGRAM, IN A SANDBOX (cutbox-door.mjs). By AI agents, Wed Nov 11 2026. No macro, syntax, notation, axiom, sorry.
-/
import Derived.Test.YtmofdacfijobdaaDoorRows
import GoSem.ClaimSeven
namespace Go.Proofs.YtmofdacfijobdaaDoor
namespace Rows

/-- THE TIED CARD OF 'pledgelaw15.ValueSays'. -/
def valueSaysCard : Claim7 := { stood := { row := valueSaysRow, standIns := [], harness := (true, "ff4993d8d382385b428982e9a502a9367c6bee2ea899b0934742ff55d2ec3c53"), looks := true }, kinds := [], alts := [], laidByText := true, laidKinds := [.sentinel, .sentinel, .sentinel, .sentinel, .sentinel, .sentinel, .sentinel, .sentinel, .sentinel, .sentinel, .sentinel, .sentinel, .sentinel, .sentinel, .sentinel, .sentinel, .sentinel, .sentinel, .sentinel, .sentinel, .sentinel], laidTests := true, laidLooks := .later }
def ValueSaysCardSaid : Prop := Claim7.holds Tryd.pinned (.plain (OpenSpec.ofChange valueSaysSpec)) valueSaysCard

/-- THE TIED CARD OF 'pledgelaw15.ValueFalls'. -/
def valueFallsCard : Claim7 := { stood := { row := valueFallsRow, standIns := [], harness := (true, "ff4993d8d382385b428982e9a502a9367c6bee2ea899b0934742ff55d2ec3c53"), looks := true }, kinds := [], alts := [], laidByText := true, laidKinds := [.sentinel, .sentinel], laidTests := true, laidLooks := .later }
def ValueFallsCardSaid : Prop := Claim7.holds Tryd.pinned (.plain (OpenSpec.ofChange valueFallsSpec)) valueFallsCard

/-- THE TIED CARD OF 'pledgelaw15.ValueCounts'. -/
def valueCountsCard : Claim7 := { stood := { row := valueCountsRow, standIns := [], harness := (true, "ff4993d8d382385b428982e9a502a9367c6bee2ea899b0934742ff55d2ec3c53"), looks := true }, kinds := [], alts := [], laidByText := true, laidKinds := [.sentinel, .sentinel], laidTests := true, laidLooks := .later }
def ValueCountsCardSaid : Prop := Claim7.holds Tryd.pinned (.plain (OpenSpec.ofChange valueCountsSpec)) valueCountsCard

/-- THE TIED CARD OF 'pledgelaw15.ValueCash'. -/
def valueCashCard : Claim7 := { stood := { row := valueCashRow, standIns := [], harness := (true, "ff4993d8d382385b428982e9a502a9367c6bee2ea899b0934742ff55d2ec3c53"), looks := true }, kinds := [], alts := [], laidByText := true, laidKinds := [.sentinel, .sentinel], laidTests := true, laidLooks := .later }
def ValueCashCardSaid : Prop := Claim7.holds Tryd.pinned (.plain (OpenSpec.ofChange valueCashSpec)) valueCashCard

/-- THE SECOND FORM's CARD OF 'pledgelaw15.ValueSays'. -/
def valueSaysUptoCard : Claim7 := { stood := { row := valueSaysUptoRow, standIns := [], harness := (true, "ff4993d8d382385b428982e9a502a9367c6bee2ea899b0934742ff55d2ec3c53"), looks := true }, kinds := [], alts := [], laidByText := true, laidKinds := [.sentinel, .sentinel, .sentinel, .sentinel, .sentinel, .sentinel, .sentinel, .sentinel, .sentinel, .sentinel, .sentinel, .sentinel, .sentinel, .sentinel, .sentinel, .sentinel, .sentinel, .sentinel, .sentinel, .sentinel, .sentinel], laidTests := true, laidLooks := .later }
def ValueSaysUptoCardSaid : Prop := Claim7.holds Tryd.pinned (.plain (OpenSpec.upto valueSaysSpec)) valueSaysUptoCard

/-- THE SECOND FORM's CARD OF 'pledgelaw15.ValueFalls'. -/
def valueFallsUptoCard : Claim7 := { stood := { row := valueFallsUptoRow, standIns := [], harness := (true, "ff4993d8d382385b428982e9a502a9367c6bee2ea899b0934742ff55d2ec3c53"), looks := true }, kinds := [], alts := [], laidByText := true, laidKinds := [.sentinel, .sentinel], laidTests := true, laidLooks := .later }
def ValueFallsUptoCardSaid : Prop := Claim7.holds Tryd.pinned (.plain (OpenSpec.upto valueFallsSpec)) valueFallsUptoCard

/-- THE SECOND FORM's CARD OF 'pledgelaw15.ValueCounts'. -/
def valueCountsUptoCard : Claim7 := { stood := { row := valueCountsUptoRow, standIns := [], harness := (true, "ff4993d8d382385b428982e9a502a9367c6bee2ea899b0934742ff55d2ec3c53"), looks := true }, kinds := [], alts := [], laidByText := true, laidKinds := [.sentinel, .sentinel], laidTests := true, laidLooks := .later }
def ValueCountsUptoCardSaid : Prop := Claim7.holds Tryd.pinned (.plain (OpenSpec.upto valueCountsSpec)) valueCountsUptoCard

/-- THE SECOND FORM's CARD OF 'pledgelaw15.ValueCash'. -/
def valueCashUptoCard : Claim7 := { stood := { row := valueCashUptoRow, standIns := [], harness := (true, "ff4993d8d382385b428982e9a502a9367c6bee2ea899b0934742ff55d2ec3c53"), looks := true }, kinds := [], alts := [], laidByText := true, laidKinds := [.sentinel, .sentinel], laidTests := true, laidLooks := .later }
def ValueCashUptoCardSaid : Prop := Claim7.holds Tryd.pinned (.plain (OpenSpec.upto valueCashSpec)) valueCashUptoCard
end Rows
end Go.Proofs.YtmofdacfijobdaaDoor
