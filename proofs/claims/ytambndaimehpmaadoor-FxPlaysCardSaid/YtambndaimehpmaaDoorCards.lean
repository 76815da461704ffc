/-
  DERIVED. GIVEN WITH THE SEED: THE CARDS: each row of YtambndaimehpmaaDoorRows.lean that lists a variable, with what it lists TIED to the program's text (the seventh form; the later family's looks); each row that meets fmt, with fmt's text TOLD by the authors' own Lean function (tested against real Go, not proved from fmt's source: count such statements apart). THE CARD IS WHAT COUNTS. Prove the row's statement (the work); the ties are given (YtambndaimehpmaaDoorTie.lean); close each card by the builder's one call (the guide's Derived/Test/ToyasCard.lean, 'card_holds'). Laid BY PROGRAM, IN A SANDBOX (cutbox-door.mjs). By AI agents, Wed Nov 11 2026. No macro, syntax, notation, axiom, sorry.
-/
import Derived.Test.YtambndaimehpmaaDoorRows
import GoSem.ClaimSeven
namespace Go.Proofs.YtambndaimehpmaaDoor
namespace Rows

/-- THE TIED CARD OF 'pledgelaw13.FxBase'. -/
def fxBaseCard : Claim7 := { stood := { row := fxBaseRow, standIns := [], harness := (true, "192a6eded8f5e767a3de3b02d7a5810d47be6c24a9ca29d4a4a696c42a09830c"), looks := true }, kinds := [], alts := [], laidByText := true, laidKinds := [.sentinel, .sentinel, .sentinel, .sentinel, .sentinel, .sentinel, .sentinel, .sentinel, .sentinel, .sentinel, .sentinel, .sentinel, .sentinel, .sentinel, .sentinel, .sentinel, .sentinel, .sentinel, .sentinel, .sentinel, .sentinel], laidTests := true, laidLooks := .later }
def FxBaseCardSaid : Prop := Claim7.holds Tryd.pinned (.plain (OpenSpec.ofChange fxBaseSpec)) fxBaseCard

/-- THE TIED CARD OF 'pledgelaw13.FxPlays'. -/
def fxPlaysCard : Claim7 := { stood := { row := fxPlaysRow, standIns := [], harness := (true, "192a6eded8f5e767a3de3b02d7a5810d47be6c24a9ca29d4a4a696c42a09830c"), looks := true }, kinds := [], alts := [], laidByText := true, laidKinds := [.sentinel, .sentinel, .sentinel, .sentinel, .sentinel, .sentinel, .sentinel, .sentinel, .sentinel, .sentinel, .sentinel, .sentinel, .sentinel, .sentinel, .sentinel, .sentinel, .sentinel, .sentinel, .sentinel, .sentinel, .sentinel], laidTests := true, laidLooks := .later }
def FxPlaysCardSaid : Prop := Claim7.holds Tryd.pinned (.plain (OpenSpec.ofChange fxPlaysSpec)) fxPlaysCard

/-- THE SECOND FORM's CARD OF 'pledgelaw13.FxBase'. -/
def fxBaseUptoCard : Claim7 := { stood := { row := fxBaseUptoRow, standIns := [], harness := (true, "192a6eded8f5e767a3de3b02d7a5810d47be6c24a9ca29d4a4a696c42a09830c"), looks := true }, kinds := [], alts := [], laidByText := true, laidKinds := [.sentinel, .sentinel, .sentinel, .sentinel, .sentinel, .sentinel, .sentinel, .sentinel, .sentinel, .sentinel, .sentinel, .sentinel, .sentinel, .sentinel, .sentinel, .sentinel, .sentinel, .sentinel, .sentinel, .sentinel, .sentinel], laidTests := true, laidLooks := .later }
def FxBaseUptoCardSaid : Prop := Claim7.holds Tryd.pinned (.plain (OpenSpec.upto fxBaseSpec)) fxBaseUptoCard

/-- THE SECOND FORM's CARD OF 'pledgelaw13.FxPlays'. -/
def fxPlaysUptoCard : Claim7 := { stood := { row := fxPlaysUptoRow, standIns := [], harness := (true, "192a6eded8f5e767a3de3b02d7a5810d47be6c24a9ca29d4a4a696c42a09830c"), looks := true }, kinds := [], alts := [], laidByText := true, laidKinds := [.sentinel, .sentinel, .sentinel, .sentinel, .sentinel, .sentinel, .sentinel, .sentinel, .sentinel, .sentinel, .sentinel, .sentinel, .sentinel, .sentinel, .sentinel, .sentinel, .sentinel, .sentinel, .sentinel, .sentinel, .sentinel], laidTests := true, laidLooks := .later }
def FxPlaysUptoCardSaid : Prop := Claim7.holds Tryd.pinned (.plain (OpenSpec.upto fxPlaysSpec)) fxPlaysUptoCard
end Rows
end Go.Proofs.YtambndaimehpmaaDoor
