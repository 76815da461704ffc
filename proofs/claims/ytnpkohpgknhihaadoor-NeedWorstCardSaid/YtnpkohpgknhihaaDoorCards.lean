/-
  DERIVED. GIVEN WITH THE SEED: THE CARDS: each row of YtnpkohpgknhihaaDoorRows.lean that lists a variable, with what it lists TIED to the program's text (the seventh form; the later family's looks); each row that meets fmt, with fmt's text TOLD by the authors' own Lean function (tested against real Go, not proved from fmt's source: count such statements apart). THE CARD IS WHAT COUNTS. Prove the row's statement (the work); the ties are given (YtnpkohpgknhihaaDoorTie.lean); close each card by the builder's one call (the guide's Derived/Test/ToyasCard.lean, 'card_holds'). Laid BY PROGRAM, IN A SANDBOX (cutbox-door.mjs). By AI agents, Wed Nov 11 2026. No macro, syntax, notation, axiom, sorry.
-/
import Derived.Test.YtnpkohpgknhihaaDoorRows
import GoSem.ClaimSeven
namespace Go.Proofs.YtnpkohpgknhihaaDoor
namespace Rows

/-- THE TIED CARD OF 'pledgelaw17.NeedEvens'. -/
def needEvensCard : Claim7 := { stood := { row := needEvensRow, standIns := [], harness := (true, "62afabaec88dd78a9e7e8b41c80b1d7b0e8e2f87aaecc6e1df9f535a75cef4a4"), looks := true }, kinds := [], alts := [], laidByText := true, laidKinds := [.sentinel], laidTests := true, laidLooks := .later }
def NeedEvensCardSaid : Prop := Claim7.holds Tryd.pinned (.plain (OpenSpec.ofChange needEvensSpec)) needEvensCard

/-- THE TIED CARD OF 'pledgelaw17.NeedWorst'. -/
def needWorstCard : Claim7 := { stood := { row := needWorstRow, standIns := [], harness := (true, "62afabaec88dd78a9e7e8b41c80b1d7b0e8e2f87aaecc6e1df9f535a75cef4a4"), looks := true }, kinds := [], alts := [], laidByText := true, laidKinds := [.sentinel, .sentinel], laidTests := true, laidLooks := .later }
def NeedWorstCardSaid : Prop := Claim7.holds Tryd.pinned (.plain (OpenSpec.ofChange needWorstSpec)) needWorstCard

/-- THE TIED CARD OF 'pledgelaw17.NeedSays'. -/
def needSaysCard : Claim7 := { stood := { row := needSaysRow, standIns := [], harness := (true, "62afabaec88dd78a9e7e8b41c80b1d7b0e8e2f87aaecc6e1df9f535a75cef4a4"), looks := true }, kinds := [], alts := [], laidByText := true, laidKinds := [.sentinel, .sentinel, .sentinel, .sentinel, .sentinel, .sentinel, .sentinel, .sentinel, .sentinel, .sentinel, .sentinel, .sentinel, .sentinel, .sentinel, .sentinel, .sentinel, .sentinel, .sentinel, .sentinel, .sentinel, .sentinel], laidTests := true, laidLooks := .later }
def NeedSaysCardSaid : Prop := Claim7.holds Tryd.pinned (.plain (OpenSpec.ofChange needSaysSpec)) needSaysCard

/-- THE SECOND FORM's CARD OF 'pledgelaw17.NeedEvens'. -/
def needEvensUptoCard : Claim7 := { stood := { row := needEvensUptoRow, standIns := [], harness := (true, "62afabaec88dd78a9e7e8b41c80b1d7b0e8e2f87aaecc6e1df9f535a75cef4a4"), looks := true }, kinds := [], alts := [], laidByText := true, laidKinds := [.sentinel], laidTests := true, laidLooks := .later }
def NeedEvensUptoCardSaid : Prop := Claim7.holds Tryd.pinned (.plain (OpenSpec.upto needEvensSpec)) needEvensUptoCard

/-- THE SECOND FORM's CARD OF 'pledgelaw17.NeedWorst'. -/
def needWorstUptoCard : Claim7 := { stood := { row := needWorstUptoRow, standIns := [], harness := (true, "62afabaec88dd78a9e7e8b41c80b1d7b0e8e2f87aaecc6e1df9f535a75cef4a4"), looks := true }, kinds := [], alts := [], laidByText := true, laidKinds := [.sentinel, .sentinel], laidTests := true, laidLooks := .later }
def NeedWorstUptoCardSaid : Prop := Claim7.holds Tryd.pinned (.plain (OpenSpec.upto needWorstSpec)) needWorstUptoCard

/-- THE SECOND FORM's CARD OF 'pledgelaw17.NeedSays'. -/
def needSaysUptoCard : Claim7 := { stood := { row := needSaysUptoRow, standIns := [], harness := (true, "62afabaec88dd78a9e7e8b41c80b1d7b0e8e2f87aaecc6e1df9f535a75cef4a4"), looks := true }, kinds := [], alts := [], laidByText := true, laidKinds := [.sentinel, .sentinel, .sentinel, .sentinel, .sentinel, .sentinel, .sentinel, .sentinel, .sentinel, .sentinel, .sentinel, .sentinel, .sentinel, .sentinel, .sentinel, .sentinel, .sentinel, .sentinel, .sentinel, .sentinel, .sentinel], laidTests := true, laidLooks := .later }
def NeedSaysUptoCardSaid : Prop := Claim7.holds Tryd.pinned (.plain (OpenSpec.upto needSaysSpec)) needSaysUptoCard
end Rows
end Go.Proofs.YtnpkohpgknhihaaDoor
