/-
  DERIVED. GIVEN WITH THE SEED: THE CARDS: each row of YtccipdelkmmngaaDoorRows.lean that lists a variable, with what it lists TIED to the program's text (the seventh form; the later family's looks); each row that meets fmt, with fmt's text TOLD by the authors' own Lean function (tested against real Go, not proved from fmt's source: count such statements apart). THE CARD IS WHAT COUNTS. Prove the row's statement (the work); the ties are given (YtccipdelkmmngaaDoorTie.lean); close each card by the builder's one call (the guide's Derived/Test/ToyasCard.lean, 'card_holds'). Laid BY PROGRAM, IN A SANDBOX (cutbox-door.mjs). By AI agents, Wed Nov 11 2026. No macro, syntax, notation, axiom, sorry.
-/
import Derived.Test.YtccipdelkmmngaaDoorRows
import GoSem.ClaimSeven
namespace Go.Proofs.YtccipdelkmmngaaDoor
namespace Rows

/-- THE TIED CARD OF 'pledgelaw1.WirePuts'. -/
def wirePutsCard : Claim7 := { stood := { row := wirePutsRow, standIns := [], harness := (true, "f6046c2857b6d1cbb2eb8be62d8336fe3014ed29576fbd5328793c43a504e862"), looks := true }, kinds := [], alts := [], laidByText := true, laidKinds := [.sentinel, .sentinel, .sentinel], laidTests := true, laidLooks := .later }
def WirePutsCardSaid : Prop := Claim7.holds Tryd.pinned (.plain (OpenSpec.ofChange wirePutsSpec)) wirePutsCard

/-- THE TIED CARD OF 'pledgelaw1.WireForms'. -/
def wireFormsCard : Claim7 := { stood := { row := wireFormsRow, standIns := [], harness := (true, "f6046c2857b6d1cbb2eb8be62d8336fe3014ed29576fbd5328793c43a504e862"), looks := true }, kinds := [], alts := [], laidByText := true, laidKinds := [.sentinel, .sentinel, .sentinel, .sentinel, .sentinel, .sentinel, .sentinel, .sentinel, .sentinel, .sentinel, .sentinel, .sentinel, .sentinel, .sentinel, .sentinel, .sentinel, .sentinel, .sentinel, .sentinel, .sentinel, .sentinel], laidTests := true, laidLooks := .later }
def WireFormsCardSaid : Prop := Claim7.holds Tryd.pinned (.plain (OpenSpec.ofChange wireFormsSpec)) wireFormsCard

/-- THE TIED CARD OF 'pledgelaw1.WireCuts'. -/
def wireCutsCard : Claim7 := { stood := { row := wireCutsRow, standIns := [], harness := (true, "f6046c2857b6d1cbb2eb8be62d8336fe3014ed29576fbd5328793c43a504e862"), looks := true }, kinds := [], alts := [], laidByText := true, laidKinds := [.sentinel, .sentinel, .sentinel, .sentinel, .sentinel, .sentinel, .sentinel, .sentinel, .sentinel, .sentinel, .sentinel, .sentinel, .sentinel, .sentinel, .sentinel, .sentinel, .sentinel, .sentinel, .sentinel, .sentinel, .sentinel], laidTests := true, laidLooks := .later }
def WireCutsCardSaid : Prop := Claim7.holds Tryd.pinned (.plain (OpenSpec.ofChange wireCutsSpec)) wireCutsCard

/-- THE TIED CARD OF 'pledgelaw1.WireRanges'. -/
def wireRangesCard : Claim7 := { stood := { row := wireRangesRow, standIns := [], harness := (true, "f6046c2857b6d1cbb2eb8be62d8336fe3014ed29576fbd5328793c43a504e862"), looks := true }, kinds := [], alts := [], laidByText := true, laidKinds := [.sentinel, .sentinel, .sentinel, .sentinel, .sentinel, .sentinel, .sentinel, .sentinel, .sentinel, .sentinel, .sentinel, .sentinel, .sentinel, .sentinel, .sentinel, .sentinel, .sentinel, .sentinel, .sentinel, .sentinel, .sentinel], laidTests := true, laidLooks := .later }
def WireRangesCardSaid : Prop := Claim7.holds Tryd.pinned (.plain (OpenSpec.ofChange wireRangesSpec)) wireRangesCard

/-- THE TIED CARD OF 'pledgelaw1.WireTwins'. -/
def wireTwinsCard : Claim7 := { stood := { row := wireTwinsRow, standIns := [], harness := (true, "f6046c2857b6d1cbb2eb8be62d8336fe3014ed29576fbd5328793c43a504e862"), looks := true }, kinds := [], alts := [], laidByText := true, laidKinds := [.sentinel, .sentinel, .sentinel, .sentinel, .sentinel, .sentinel, .sentinel, .sentinel, .sentinel, .sentinel, .sentinel, .sentinel, .sentinel, .sentinel, .sentinel, .sentinel, .sentinel, .sentinel, .sentinel, .sentinel, .sentinel], laidTests := true, laidLooks := .later }
def WireTwinsCardSaid : Prop := Claim7.holds Tryd.pinned (.plain (OpenSpec.ofChange wireTwinsSpec)) wireTwinsCard

/-- THE SECOND FORM's CARD OF 'pledgelaw1.WirePuts'. -/
def wirePutsUptoCard : Claim7 := { stood := { row := wirePutsUptoRow, standIns := [], harness := (true, "f6046c2857b6d1cbb2eb8be62d8336fe3014ed29576fbd5328793c43a504e862"), looks := true }, kinds := [], alts := [], laidByText := true, laidKinds := [.sentinel, .sentinel, .sentinel], laidTests := true, laidLooks := .later }
def WirePutsUptoCardSaid : Prop := Claim7.holds Tryd.pinned (.plain (OpenSpec.upto wirePutsSpec)) wirePutsUptoCard

/-- THE SECOND FORM's CARD OF 'pledgelaw1.WireForms'. -/
def wireFormsUptoCard : Claim7 := { stood := { row := wireFormsUptoRow, standIns := [], harness := (true, "f6046c2857b6d1cbb2eb8be62d8336fe3014ed29576fbd5328793c43a504e862"), looks := true }, kinds := [], alts := [], laidByText := true, laidKinds := [.sentinel, .sentinel, .sentinel, .sentinel, .sentinel, .sentinel, .sentinel, .sentinel, .sentinel, .sentinel, .sentinel, .sentinel, .sentinel, .sentinel, .sentinel, .sentinel, .sentinel, .sentinel, .sentinel, .sentinel, .sentinel], laidTests := true, laidLooks := .later }
def WireFormsUptoCardSaid : Prop := Claim7.holds Tryd.pinned (.plain (OpenSpec.upto wireFormsSpec)) wireFormsUptoCard

/-- THE SECOND FORM's CARD OF 'pledgelaw1.WireCuts'. -/
def wireCutsUptoCard : Claim7 := { stood := { row := wireCutsUptoRow, standIns := [], harness := (true, "f6046c2857b6d1cbb2eb8be62d8336fe3014ed29576fbd5328793c43a504e862"), looks := true }, kinds := [], alts := [], laidByText := true, laidKinds := [.sentinel, .sentinel, .sentinel, .sentinel, .sentinel, .sentinel, .sentinel, .sentinel, .sentinel, .sentinel, .sentinel, .sentinel, .sentinel, .sentinel, .sentinel, .sentinel, .sentinel, .sentinel, .sentinel, .sentinel, .sentinel], laidTests := true, laidLooks := .later }
def WireCutsUptoCardSaid : Prop := Claim7.holds Tryd.pinned (.plain (OpenSpec.upto wireCutsSpec)) wireCutsUptoCard

/-- THE SECOND FORM's CARD OF 'pledgelaw1.WireRanges'. -/
def wireRangesUptoCard : Claim7 := { stood := { row := wireRangesUptoRow, standIns := [], harness := (true, "f6046c2857b6d1cbb2eb8be62d8336fe3014ed29576fbd5328793c43a504e862"), looks := true }, kinds := [], alts := [], laidByText := true, laidKinds := [.sentinel, .sentinel, .sentinel, .sentinel, .sentinel, .sentinel, .sentinel, .sentinel, .sentinel, .sentinel, .sentinel, .sentinel, .sentinel, .sentinel, .sentinel, .sentinel, .sentinel, .sentinel, .sentinel, .sentinel, .sentinel], laidTests := true, laidLooks := .later }
def WireRangesUptoCardSaid : Prop := Claim7.holds Tryd.pinned (.plain (OpenSpec.upto wireRangesSpec)) wireRangesUptoCard

/-- THE SECOND FORM's CARD OF 'pledgelaw1.WireTwins'. -/
def wireTwinsUptoCard : Claim7 := { stood := { row := wireTwinsUptoRow, standIns := [], harness := (true, "f6046c2857b6d1cbb2eb8be62d8336fe3014ed29576fbd5328793c43a504e862"), looks := true }, kinds := [], alts := [], laidByText := true, laidKinds := [.sentinel, .sentinel, .sentinel, .sentinel, .sentinel, .sentinel, .sentinel, .sentinel, .sentinel, .sentinel, .sentinel, .sentinel, .sentinel, .sentinel, .sentinel, .sentinel, .sentinel, .sentinel, .sentinel, .sentinel, .sentinel], laidTests := true, laidLooks := .later }
def WireTwinsUptoCardSaid : Prop := Claim7.holds Tryd.pinned (.plain (OpenSpec.upto wireTwinsSpec)) wireTwinsUptoCard
end Rows
end Go.Proofs.YtccipdelkmmngaaDoor
