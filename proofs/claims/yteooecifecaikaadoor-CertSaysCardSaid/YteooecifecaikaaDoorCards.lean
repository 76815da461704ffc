/-
  DERIVED. GIVEN WITH THE SEED: THE CARDS: each row of YteooecifecaikaaDoorRows.lean that lists a variable, with what it lists TIED to the program's text (the seventh form; the later family's looks); each row that meets fmt, with fmt's text TOLD by the authors' own Lean function (tested against real Go, not proved from fmt's source: count such statements apart). THE CARD IS WHAT COUNTS. Prove the row's statement (the work); the ties are given (YteooecifecaikaaDoorTie.lean); close each card by the builder's one call (the guide's Derived/Test/ToyasCard.lean, 'card_holds'). Laid BY PROGRAM, IN A SANDBOX (cutbox-door.mjs). By AI agents, Wed Nov 11 2026. No macro, syntax, notation, axiom, sorry.
-/
import Derived.Test.YteooecifecaikaaDoorRows
import GoSem.ClaimSeven
namespace Go.Proofs.YteooecifecaikaaDoor
namespace Rows

/-- THE TIED CARD OF 'pledgelaw21.CertSays'. -/
def certSaysCard : Claim7 := { stood := { row := certSaysRow, standIns := [], harness := (true, "9d85cf68f71b5c1a2a6af3322a8084d4ac23096e107209f21456fd1bfb8ba7b3"), looks := true }, kinds := [], alts := [], laidByText := true, laidKinds := [.sentinel, .sentinel, .sentinel, .sentinel, .sentinel, .sentinel, .sentinel, .sentinel, .sentinel, .sentinel, .sentinel, .sentinel, .sentinel, .sentinel, .sentinel, .sentinel, .sentinel, .sentinel, .sentinel, .sentinel, .sentinel], laidTests := true, laidLooks := .later }
def CertSaysCardSaid : Prop := Claim7.holds Tryd.pinned (.plain (OpenSpec.ofChange certSaysSpec)) certSaysCard

/-- THE TIED CARD OF 'pledgelaw21.CertWrong'. -/
def certWrongCard : Claim7 := { stood := { row := certWrongRow, standIns := [], harness := (true, "9d85cf68f71b5c1a2a6af3322a8084d4ac23096e107209f21456fd1bfb8ba7b3"), looks := true }, kinds := [], alts := [], laidByText := true, laidKinds := [.sentinel, .sentinel, .sentinel, .sentinel, .sentinel, .sentinel, .sentinel, .sentinel, .sentinel, .sentinel, .sentinel, .sentinel, .sentinel, .sentinel, .sentinel, .sentinel, .sentinel, .sentinel, .sentinel, .sentinel, .sentinel], laidTests := true, laidLooks := .later }
def CertWrongCardSaid : Prop := Claim7.holds Tryd.pinned (.plain (OpenSpec.ofChange certWrongSpec)) certWrongCard

/-- THE SECOND FORM's CARD OF 'pledgelaw21.CertSays'. -/
def certSaysUptoCard : Claim7 := { stood := { row := certSaysUptoRow, standIns := [], harness := (true, "9d85cf68f71b5c1a2a6af3322a8084d4ac23096e107209f21456fd1bfb8ba7b3"), looks := true }, kinds := [], alts := [], laidByText := true, laidKinds := [.sentinel, .sentinel, .sentinel, .sentinel, .sentinel, .sentinel, .sentinel, .sentinel, .sentinel, .sentinel, .sentinel, .sentinel, .sentinel, .sentinel, .sentinel, .sentinel, .sentinel, .sentinel, .sentinel, .sentinel, .sentinel], laidTests := true, laidLooks := .later }
def CertSaysUptoCardSaid : Prop := Claim7.holds Tryd.pinned (.plain (OpenSpec.upto certSaysSpec)) certSaysUptoCard

/-- THE SECOND FORM's CARD OF 'pledgelaw21.CertWrong'. -/
def certWrongUptoCard : Claim7 := { stood := { row := certWrongUptoRow, standIns := [], harness := (true, "9d85cf68f71b5c1a2a6af3322a8084d4ac23096e107209f21456fd1bfb8ba7b3"), looks := true }, kinds := [], alts := [], laidByText := true, laidKinds := [.sentinel, .sentinel, .sentinel, .sentinel, .sentinel, .sentinel, .sentinel, .sentinel, .sentinel, .sentinel, .sentinel, .sentinel, .sentinel, .sentinel, .sentinel, .sentinel, .sentinel, .sentinel, .sentinel, .sentinel, .sentinel], laidTests := true, laidLooks := .later }
def CertWrongUptoCardSaid : Prop := Claim7.holds Tryd.pinned (.plain (OpenSpec.upto certWrongSpec)) certWrongUptoCard
end Rows
end Go.Proofs.YteooecifecaikaaDoor
