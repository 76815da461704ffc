/-
  DERIVED. GIVEN WITH THE SEED: THE CARDS: each row of YtlalofmilhakjaaDoorRows.lean that lists a variable, with what it lists TIED to the program's text (the seventh form; the later family's looks); each row that meets fmt, with fmt's text TOLD by the authors' own Lean function (tested against real Go, not proved from fmt's source: count such statements apart). THE CARD IS WHAT COUNTS. Prove the row's statement (the work); the ties are given (YtlalofmilhakjaaDoorTie.lean); close each card by the builder's one call (the guide's Derived/Test/ToyasCard.lean, 'card_holds'). Laid BY PROGRAM, IN A SANDBOX (cutbox-door.mjs). By AI agents, Wed Nov 11 2026. No macro, syntax, notation, axiom, sorry.
-/
import Derived.Test.YtlalofmilhakjaaDoorRows
import GoSem.ClaimSeven
namespace Go.Proofs.YtlalofmilhakjaaDoor
namespace Rows

/-- THE TIED CARD OF 'pledgelaw18.LotsOrder'. -/
def lotsOrderCard : Claim7 := { stood := { row := lotsOrderRow, standIns := [], harness := (true, "71010bd57f9053aa5f2a28b807208f99997a2b0e19c4045789103d5672241654"), looks := true }, kinds := [], alts := [], laidByText := true, laidKinds := [.sentinel, .sentinel], laidTests := true, laidLooks := .later }
def LotsOrderCardSaid : Prop := Claim7.holds Tryd.pinned (.plain (OpenSpec.ofChange lotsOrderSpec)) lotsOrderCard

/-- THE TIED CARD OF 'pledgelaw18.LotsGreedy'. -/
def lotsGreedyCard : Claim7 := { stood := { row := lotsGreedyRow, standIns := [], harness := (true, "71010bd57f9053aa5f2a28b807208f99997a2b0e19c4045789103d5672241654"), looks := true }, kinds := [], alts := [], laidByText := true, laidKinds := [.sentinel, .sentinel], laidTests := true, laidLooks := .later }
def LotsGreedyCardSaid : Prop := Claim7.holds Tryd.pinned (.plain (OpenSpec.ofChange lotsGreedySpec)) lotsGreedyCard

/-- THE TIED CARD OF 'pledgelaw18.LotsGrow'. -/
def lotsGrowCard : Claim7 := { stood := { row := lotsGrowRow, standIns := [], harness := (true, "71010bd57f9053aa5f2a28b807208f99997a2b0e19c4045789103d5672241654"), looks := true }, kinds := [], alts := [], laidByText := true, laidKinds := [.sentinel, .sentinel], laidTests := true, laidLooks := .later }
def LotsGrowCardSaid : Prop := Claim7.holds Tryd.pinned (.plain (OpenSpec.ofChange lotsGrowSpec)) lotsGrowCard

/-- THE TIED CARD OF 'pledgelaw18.LotsCaps'. -/
def lotsCapsCard : Claim7 := { stood := { row := lotsCapsRow, standIns := [], harness := (true, "71010bd57f9053aa5f2a28b807208f99997a2b0e19c4045789103d5672241654"), looks := true }, kinds := [], alts := [], laidByText := true, laidKinds := [.sentinel, .sentinel], laidTests := true, laidLooks := .later }
def LotsCapsCardSaid : Prop := Claim7.holds Tryd.pinned (.plain (OpenSpec.ofChange lotsCapsSpec)) lotsCapsCard

/-- THE TIED CARD OF 'pledgelaw18.LotsSay'. -/
def lotsSayCard : Claim7 := { stood := { row := lotsSayRow, standIns := [], harness := (true, "71010bd57f9053aa5f2a28b807208f99997a2b0e19c4045789103d5672241654"), looks := true }, kinds := [], alts := [], laidByText := true, laidKinds := [.sentinel, .sentinel, .sentinel, .sentinel, .sentinel, .sentinel, .sentinel, .sentinel, .sentinel, .sentinel, .sentinel, .sentinel, .sentinel, .sentinel, .sentinel, .sentinel, .sentinel, .sentinel, .sentinel, .sentinel, .sentinel], laidTests := true, laidLooks := .later }
def LotsSayCardSaid : Prop := Claim7.holds Tryd.pinned (.plain (OpenSpec.ofChange lotsSaySpec)) lotsSayCard

/-- THE SECOND FORM's CARD OF 'pledgelaw18.LotsOrder'. -/
def lotsOrderUptoCard : Claim7 := { stood := { row := lotsOrderUptoRow, standIns := [], harness := (true, "71010bd57f9053aa5f2a28b807208f99997a2b0e19c4045789103d5672241654"), looks := true }, kinds := [], alts := [], laidByText := true, laidKinds := [.sentinel, .sentinel], laidTests := true, laidLooks := .later }
def LotsOrderUptoCardSaid : Prop := Claim7.holds Tryd.pinned (.plain (OpenSpec.upto lotsOrderSpec)) lotsOrderUptoCard

/-- THE SECOND FORM's CARD OF 'pledgelaw18.LotsGreedy'. -/
def lotsGreedyUptoCard : Claim7 := { stood := { row := lotsGreedyUptoRow, standIns := [], harness := (true, "71010bd57f9053aa5f2a28b807208f99997a2b0e19c4045789103d5672241654"), looks := true }, kinds := [], alts := [], laidByText := true, laidKinds := [.sentinel, .sentinel], laidTests := true, laidLooks := .later }
def LotsGreedyUptoCardSaid : Prop := Claim7.holds Tryd.pinned (.plain (OpenSpec.upto lotsGreedySpec)) lotsGreedyUptoCard

/-- THE SECOND FORM's CARD OF 'pledgelaw18.LotsGrow'. -/
def lotsGrowUptoCard : Claim7 := { stood := { row := lotsGrowUptoRow, standIns := [], harness := (true, "71010bd57f9053aa5f2a28b807208f99997a2b0e19c4045789103d5672241654"), looks := true }, kinds := [], alts := [], laidByText := true, laidKinds := [.sentinel, .sentinel], laidTests := true, laidLooks := .later }
def LotsGrowUptoCardSaid : Prop := Claim7.holds Tryd.pinned (.plain (OpenSpec.upto lotsGrowSpec)) lotsGrowUptoCard

/-- THE SECOND FORM's CARD OF 'pledgelaw18.LotsCaps'. -/
def lotsCapsUptoCard : Claim7 := { stood := { row := lotsCapsUptoRow, standIns := [], harness := (true, "71010bd57f9053aa5f2a28b807208f99997a2b0e19c4045789103d5672241654"), looks := true }, kinds := [], alts := [], laidByText := true, laidKinds := [.sentinel, .sentinel], laidTests := true, laidLooks := .later }
def LotsCapsUptoCardSaid : Prop := Claim7.holds Tryd.pinned (.plain (OpenSpec.upto lotsCapsSpec)) lotsCapsUptoCard

/-- THE SECOND FORM's CARD OF 'pledgelaw18.LotsSay'. -/
def lotsSayUptoCard : Claim7 := { stood := { row := lotsSayUptoRow, standIns := [], harness := (true, "71010bd57f9053aa5f2a28b807208f99997a2b0e19c4045789103d5672241654"), looks := true }, kinds := [], alts := [], laidByText := true, laidKinds := [.sentinel, .sentinel, .sentinel, .sentinel, .sentinel, .sentinel, .sentinel, .sentinel, .sentinel, .sentinel, .sentinel, .sentinel, .sentinel, .sentinel, .sentinel, .sentinel, .sentinel, .sentinel, .sentinel, .sentinel, .sentinel], laidTests := true, laidLooks := .later }
def LotsSayUptoCardSaid : Prop := Claim7.holds Tryd.pinned (.plain (OpenSpec.upto lotsSaySpec)) lotsSayUptoCard
end Rows
end Go.Proofs.YtlalofmilhakjaaDoor
