/-
  DERIVED. GIVEN WITH THE SEED: THE CARDS: each row of YtdmhmncplcokiaaDoorRows.lean that lists a variable, with what it lists TIED to the program's text (the seventh form; the later family's looks); each row that meets fmt, with fmt's text TOLD by the authors' own Lean function (tested against real Go, not proved from fmt's source: count such statements apart). THE CARD IS WHAT COUNTS. Prove the row's statement (the work); the ties are given (YtdmhmncplcokiaaDoorTie.lean); close each card by the builder's one call (the guide's Derived/Test/ToyasCard.lean, 'card_holds'). Laid BY PROGRAM, IN A SANDBOX (cutbox-door.mjs). By AI agents, Wed Nov 11 2026. No macro, syntax, notation, axiom, sorry.
-/
import Derived.Test.YtdmhmncplcokiaaDoorRows
import GoSem.ClaimSeven
namespace Go.Proofs.YtdmhmncplcokiaaDoor
namespace Rows

/-- THE TIED CARD OF 'pledgelaw23.ShareSays'. -/
def shareSaysCard : Claim7 := { stood := { row := shareSaysRow, standIns := [], harness := (true, "8497a550d727dd74a76c3f6d23c36fe1adc7a22e59640e269dd873067bd9f25a"), looks := true }, kinds := [], alts := [], laidByText := true, laidKinds := [.sentinel, .sentinel, .sentinel, .sentinel, .sentinel, .sentinel, .sentinel, .sentinel, .sentinel, .sentinel, .sentinel, .sentinel, .sentinel, .sentinel, .sentinel, .sentinel, .sentinel, .sentinel, .sentinel, .sentinel, .sentinel], laidTests := true, laidLooks := .later }
def ShareSaysCardSaid : Prop := Claim7.holds Tryd.pinned (.plain (OpenSpec.ofChange shareSaysSpec)) shareSaysCard

/-- THE TIED CARD OF 'pledgelaw23.ShareAll'. -/
def shareAllCard : Claim7 := { stood := { row := shareAllRow, standIns := [], harness := (true, "8497a550d727dd74a76c3f6d23c36fe1adc7a22e59640e269dd873067bd9f25a"), looks := true }, kinds := [], alts := [], laidByText := true, laidKinds := [.sentinel, .sentinel, .sentinel, .sentinel], laidTests := true, laidLooks := .later }
def ShareAllCardSaid : Prop := Claim7.holds Tryd.pinned (.plain (OpenSpec.ofChange shareAllSpec)) shareAllCard

/-- THE TIED CARD OF 'pledgelaw23.ShareScales'. -/
def shareScalesCard : Claim7 := { stood := { row := shareScalesRow, standIns := [], harness := (true, "8497a550d727dd74a76c3f6d23c36fe1adc7a22e59640e269dd873067bd9f25a"), looks := true }, kinds := [], alts := [], laidByText := true, laidKinds := [.sentinel, .sentinel, .sentinel, .sentinel], laidTests := true, laidLooks := .later }
def ShareScalesCardSaid : Prop := Claim7.holds Tryd.pinned (.plain (OpenSpec.ofChange shareScalesSpec)) shareScalesCard

/-- THE TIED CARD OF 'pledgelaw23.ShareParts'. -/
def sharePartsCard : Claim7 := { stood := { row := sharePartsRow, standIns := [], harness := (true, "8497a550d727dd74a76c3f6d23c36fe1adc7a22e59640e269dd873067bd9f25a"), looks := true }, kinds := [], alts := [], laidByText := true, laidKinds := [.sentinel, .sentinel, .sentinel, .sentinel, .sentinel, .sentinel, .sentinel, .sentinel, .sentinel, .sentinel, .sentinel, .sentinel, .sentinel, .sentinel, .sentinel, .sentinel, .sentinel, .sentinel, .sentinel, .sentinel, .sentinel], laidTests := true, laidLooks := .later }
def SharePartsCardSaid : Prop := Claim7.holds Tryd.pinned (.plain (OpenSpec.ofChange sharePartsSpec)) sharePartsCard

/-- THE SECOND FORM's CARD OF 'pledgelaw23.ShareSays'. -/
def shareSaysUptoCard : Claim7 := { stood := { row := shareSaysUptoRow, standIns := [], harness := (true, "8497a550d727dd74a76c3f6d23c36fe1adc7a22e59640e269dd873067bd9f25a"), looks := true }, kinds := [], alts := [], laidByText := true, laidKinds := [.sentinel, .sentinel, .sentinel, .sentinel, .sentinel, .sentinel, .sentinel, .sentinel, .sentinel, .sentinel, .sentinel, .sentinel, .sentinel, .sentinel, .sentinel, .sentinel, .sentinel, .sentinel, .sentinel, .sentinel, .sentinel], laidTests := true, laidLooks := .later }
def ShareSaysUptoCardSaid : Prop := Claim7.holds Tryd.pinned (.plain (OpenSpec.upto shareSaysSpec)) shareSaysUptoCard

/-- THE SECOND FORM's CARD OF 'pledgelaw23.ShareAll'. -/
def shareAllUptoCard : Claim7 := { stood := { row := shareAllUptoRow, standIns := [], harness := (true, "8497a550d727dd74a76c3f6d23c36fe1adc7a22e59640e269dd873067bd9f25a"), looks := true }, kinds := [], alts := [], laidByText := true, laidKinds := [.sentinel, .sentinel, .sentinel, .sentinel], laidTests := true, laidLooks := .later }
def ShareAllUptoCardSaid : Prop := Claim7.holds Tryd.pinned (.plain (OpenSpec.upto shareAllSpec)) shareAllUptoCard

/-- THE SECOND FORM's CARD OF 'pledgelaw23.ShareScales'. -/
def shareScalesUptoCard : Claim7 := { stood := { row := shareScalesUptoRow, standIns := [], harness := (true, "8497a550d727dd74a76c3f6d23c36fe1adc7a22e59640e269dd873067bd9f25a"), looks := true }, kinds := [], alts := [], laidByText := true, laidKinds := [.sentinel, .sentinel, .sentinel, .sentinel], laidTests := true, laidLooks := .later }
def ShareScalesUptoCardSaid : Prop := Claim7.holds Tryd.pinned (.plain (OpenSpec.upto shareScalesSpec)) shareScalesUptoCard

/-- THE SECOND FORM's CARD OF 'pledgelaw23.ShareParts'. -/
def sharePartsUptoCard : Claim7 := { stood := { row := sharePartsUptoRow, standIns := [], harness := (true, "8497a550d727dd74a76c3f6d23c36fe1adc7a22e59640e269dd873067bd9f25a"), looks := true }, kinds := [], alts := [], laidByText := true, laidKinds := [.sentinel, .sentinel, .sentinel, .sentinel, .sentinel, .sentinel, .sentinel, .sentinel, .sentinel, .sentinel, .sentinel, .sentinel, .sentinel, .sentinel, .sentinel, .sentinel, .sentinel, .sentinel, .sentinel, .sentinel, .sentinel], laidTests := true, laidLooks := .later }
def SharePartsUptoCardSaid : Prop := Claim7.holds Tryd.pinned (.plain (OpenSpec.upto sharePartsSpec)) sharePartsUptoCard
end Rows
end Go.Proofs.YtdmhmncplcokiaaDoor
