/-
  DERIVED. GIVEN WITH THE SEED: THE CARDS: each row of YtlomknhkbhibfaaDoorRows.lean that lists a variable, with what it lists TIED to the program's text (the seventh form; the later family's looks); each row that meets fmt, with fmt's text TOLD by the authors' own Lean function (tested against real Go, not proved from fmt's source: count such statements apart). THE CARD IS WHAT COUNTS. Prove the row's statement (the work); the ties are given (YtlomknhkbhibfaaDoorTie.lean); close each card by the builder's one call (the guide's Derived/Test/ToyasCard.lean, 'card_holds'). Laid BY PROGRAM, IN A SANDBOX (cutbox-door.mjs). By AI agents, Wed Nov 11 2026. No macro, syntax, notation, axiom, sorry.
-/
import Derived.Test.YtlomknhkbhibfaaDoorRows
import GoSem.ClaimSeven
namespace Go.Proofs.YtlomknhkbhibfaaDoor
namespace Rows

/-- THE TIED CARD OF 'pledgelaw11.SchedTurns'. -/
def schedTurnsCard : Claim7 := { stood := { row := schedTurnsRow, standIns := [], harness := (true, "d009071dafb3fbcc8437adfea7b68fd6ff24561a53873ed5c991f6a3b23e6941"), looks := true }, kinds := [], alts := [], laidByText := true, laidKinds := [.sentinel, .sentinel], laidTests := true, laidLooks := .later }
def SchedTurnsCardSaid : Prop := Claim7.holds Tryd.pinned (.plain (OpenSpec.ofChange schedTurnsSpec)) schedTurnsCard

/-- THE TIED CARD OF 'pledgelaw11.SchedFull'. -/
def schedFullCard : Claim7 := { stood := { row := schedFullRow, standIns := [], harness := (true, "d009071dafb3fbcc8437adfea7b68fd6ff24561a53873ed5c991f6a3b23e6941"), looks := true }, kinds := [], alts := [], laidByText := true, laidKinds := [.sentinel, .sentinel, .sentinel, .sentinel, .sentinel, .sentinel, .sentinel, .sentinel, .sentinel, .sentinel, .sentinel, .sentinel, .sentinel, .sentinel, .sentinel, .sentinel, .sentinel, .sentinel, .sentinel, .sentinel, .sentinel], laidTests := true, laidLooks := .later }
def SchedFullCardSaid : Prop := Claim7.holds Tryd.pinned (.plain (OpenSpec.ofChange schedFullSpec)) schedFullCard

/-- THE TIED CARD OF 'pledgelaw11.SchedPlays'. -/
def schedPlaysCard : Claim7 := { stood := { row := schedPlaysRow, standIns := [], harness := (true, "d009071dafb3fbcc8437adfea7b68fd6ff24561a53873ed5c991f6a3b23e6941"), looks := true }, kinds := [], alts := [], laidByText := true, laidKinds := [.sentinel, .sentinel, .sentinel, .sentinel, .sentinel, .sentinel, .sentinel, .sentinel, .sentinel, .sentinel, .sentinel, .sentinel, .sentinel, .sentinel, .sentinel, .sentinel, .sentinel, .sentinel, .sentinel, .sentinel, .sentinel], laidTests := true, laidLooks := .later }
def SchedPlaysCardSaid : Prop := Claim7.holds Tryd.pinned (.plain (OpenSpec.ofChange schedPlaysSpec)) schedPlaysCard

/-- THE SECOND FORM's CARD OF 'pledgelaw11.SchedTurns'. -/
def schedTurnsUptoCard : Claim7 := { stood := { row := schedTurnsUptoRow, standIns := [], harness := (true, "d009071dafb3fbcc8437adfea7b68fd6ff24561a53873ed5c991f6a3b23e6941"), looks := true }, kinds := [], alts := [], laidByText := true, laidKinds := [.sentinel, .sentinel], laidTests := true, laidLooks := .later }
def SchedTurnsUptoCardSaid : Prop := Claim7.holds Tryd.pinned (.plain (OpenSpec.upto schedTurnsSpec)) schedTurnsUptoCard

/-- THE SECOND FORM's CARD OF 'pledgelaw11.SchedFull'. -/
def schedFullUptoCard : Claim7 := { stood := { row := schedFullUptoRow, standIns := [], harness := (true, "d009071dafb3fbcc8437adfea7b68fd6ff24561a53873ed5c991f6a3b23e6941"), looks := true }, kinds := [], alts := [], laidByText := true, laidKinds := [.sentinel, .sentinel, .sentinel, .sentinel, .sentinel, .sentinel, .sentinel, .sentinel, .sentinel, .sentinel, .sentinel, .sentinel, .sentinel, .sentinel, .sentinel, .sentinel, .sentinel, .sentinel, .sentinel, .sentinel, .sentinel], laidTests := true, laidLooks := .later }
def SchedFullUptoCardSaid : Prop := Claim7.holds Tryd.pinned (.plain (OpenSpec.upto schedFullSpec)) schedFullUptoCard

/-- THE SECOND FORM's CARD OF 'pledgelaw11.SchedPlays'. -/
def schedPlaysUptoCard : Claim7 := { stood := { row := schedPlaysUptoRow, standIns := [], harness := (true, "d009071dafb3fbcc8437adfea7b68fd6ff24561a53873ed5c991f6a3b23e6941"), looks := true }, kinds := [], alts := [], laidByText := true, laidKinds := [.sentinel, .sentinel, .sentinel, .sentinel, .sentinel, .sentinel, .sentinel, .sentinel, .sentinel, .sentinel, .sentinel, .sentinel, .sentinel, .sentinel, .sentinel, .sentinel, .sentinel, .sentinel, .sentinel, .sentinel, .sentinel], laidTests := true, laidLooks := .later }
def SchedPlaysUptoCardSaid : Prop := Claim7.holds Tryd.pinned (.plain (OpenSpec.upto schedPlaysSpec)) schedPlaysUptoCard
end Rows
end Go.Proofs.YtlomknhkbhibfaaDoor
