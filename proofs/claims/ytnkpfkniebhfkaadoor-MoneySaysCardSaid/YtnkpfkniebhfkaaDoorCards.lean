/-
  DERIVED. GIVEN WITH THE SEED: THE CARDS: each row of YtnkpfkniebhfkaaDoorRows.lean that lists a variable, with what it lists TIED to the program's text (the seventh form; the later family's looks); each row that meets fmt, with fmt's text TOLD by the authors' own Lean function (tested against real Go, not proved from fmt's source: count such statements apart). THE CARD IS WHAT COUNTS. Prove the row's statement (the work); the ties are given (YtnkpfkniebhfkaaDoorTie.lean); close each card by the builder's one call (the guide's Derived/Test/ToyasCard.lean, 'card_holds'). Laid BY PROGRAM, IN A SANDBOX (cutbox-door.mjs). By AI agents, Wed Nov 11 2026. No macro, syntax, notation, axiom, sorry.
-/
import Derived.Test.YtnkpfkniebhfkaaDoorRows
import GoSem.ClaimSeven
namespace Go.Proofs.YtnkpfkniebhfkaaDoor
namespace Rows

/-- THE TIED CARD OF 'pledgelaw3.MoneyBounds'. -/
def moneyBoundsCard : Claim7 := { stood := { row := moneyBoundsRow, standIns := [], harness := (true, "bdece06a989219284112b4744356f99deb153cd65c7da7281425a8fe3fb74db0"), looks := true }, kinds := [], alts := [], laidByText := true, laidKinds := [.sentinel, .sentinel, .sentinel, .sentinel, .sentinel, .sentinel, .sentinel, .sentinel, .sentinel, .sentinel, .sentinel, .sentinel, .sentinel, .sentinel, .sentinel, .sentinel, .sentinel, .sentinel, .sentinel, .sentinel, .sentinel], laidTests := true, laidLooks := .later }
def MoneyBoundsCardSaid : Prop := Claim7.holds Tryd.pinned (.plain (OpenSpec.ofChange moneyBoundsSpec)) moneyBoundsCard

/-- THE TIED CARD OF 'pledgelaw3.MoneyRates'. -/
def moneyRatesCard : Claim7 := { stood := { row := moneyRatesRow, standIns := [], harness := (true, "bdece06a989219284112b4744356f99deb153cd65c7da7281425a8fe3fb74db0"), looks := true }, kinds := [], alts := [], laidByText := true, laidKinds := [.sentinel, .sentinel], laidTests := true, laidLooks := .later }
def MoneyRatesCardSaid : Prop := Claim7.holds Tryd.pinned (.plain (OpenSpec.ofChange moneyRatesSpec)) moneyRatesCard

/-- THE TIED CARD OF 'pledgelaw3.MoneyDays'. -/
def moneyDaysCard : Claim7 := { stood := { row := moneyDaysRow, standIns := [], harness := (true, "bdece06a989219284112b4744356f99deb153cd65c7da7281425a8fe3fb74db0"), looks := true }, kinds := [], alts := [], laidByText := true, laidKinds := [.sentinel, .sentinel], laidTests := true, laidLooks := .later }
def MoneyDaysCardSaid : Prop := Claim7.holds Tryd.pinned (.plain (OpenSpec.ofChange moneyDaysSpec)) moneyDaysCard

/-- THE TIED CARD OF 'pledgelaw3.MoneyCuts'. -/
def moneyCutsCard : Claim7 := { stood := { row := moneyCutsRow, standIns := [], harness := (true, "bdece06a989219284112b4744356f99deb153cd65c7da7281425a8fe3fb74db0"), looks := true }, kinds := [], alts := [], laidByText := true, laidKinds := [.sentinel, .sentinel], laidTests := true, laidLooks := .later }
def MoneyCutsCardSaid : Prop := Claim7.holds Tryd.pinned (.plain (OpenSpec.ofChange moneyCutsSpec)) moneyCutsCard

/-- THE TIED CARD OF 'pledgelaw3.MoneySays'. -/
def moneySaysCard : Claim7 := { stood := { row := moneySaysRow, standIns := [], harness := (true, "bdece06a989219284112b4744356f99deb153cd65c7da7281425a8fe3fb74db0"), looks := true }, kinds := [], alts := [], laidByText := true, laidKinds := [.sentinel, .sentinel, .sentinel, .sentinel, .sentinel, .sentinel, .sentinel, .sentinel, .sentinel, .sentinel, .sentinel, .sentinel, .sentinel, .sentinel, .sentinel, .sentinel, .sentinel, .sentinel, .sentinel, .sentinel, .sentinel], laidTests := true, laidLooks := .later }
def MoneySaysCardSaid : Prop := Claim7.holds Tryd.pinned (.plain (OpenSpec.ofChange moneySaysSpec)) moneySaysCard

/-- THE SECOND FORM's CARD OF 'pledgelaw3.MoneyBounds'. -/
def moneyBoundsUptoCard : Claim7 := { stood := { row := moneyBoundsUptoRow, standIns := [], harness := (true, "bdece06a989219284112b4744356f99deb153cd65c7da7281425a8fe3fb74db0"), looks := true }, kinds := [], alts := [], laidByText := true, laidKinds := [.sentinel, .sentinel, .sentinel, .sentinel, .sentinel, .sentinel, .sentinel, .sentinel, .sentinel, .sentinel, .sentinel, .sentinel, .sentinel, .sentinel, .sentinel, .sentinel, .sentinel, .sentinel, .sentinel, .sentinel, .sentinel], laidTests := true, laidLooks := .later }
def MoneyBoundsUptoCardSaid : Prop := Claim7.holds Tryd.pinned (.plain (OpenSpec.upto moneyBoundsSpec)) moneyBoundsUptoCard

/-- THE SECOND FORM's CARD OF 'pledgelaw3.MoneyRates'. -/
def moneyRatesUptoCard : Claim7 := { stood := { row := moneyRatesUptoRow, standIns := [], harness := (true, "bdece06a989219284112b4744356f99deb153cd65c7da7281425a8fe3fb74db0"), looks := true }, kinds := [], alts := [], laidByText := true, laidKinds := [.sentinel, .sentinel], laidTests := true, laidLooks := .later }
def MoneyRatesUptoCardSaid : Prop := Claim7.holds Tryd.pinned (.plain (OpenSpec.upto moneyRatesSpec)) moneyRatesUptoCard

/-- THE SECOND FORM's CARD OF 'pledgelaw3.MoneyDays'. -/
def moneyDaysUptoCard : Claim7 := { stood := { row := moneyDaysUptoRow, standIns := [], harness := (true, "bdece06a989219284112b4744356f99deb153cd65c7da7281425a8fe3fb74db0"), looks := true }, kinds := [], alts := [], laidByText := true, laidKinds := [.sentinel, .sentinel], laidTests := true, laidLooks := .later }
def MoneyDaysUptoCardSaid : Prop := Claim7.holds Tryd.pinned (.plain (OpenSpec.upto moneyDaysSpec)) moneyDaysUptoCard

/-- THE SECOND FORM's CARD OF 'pledgelaw3.MoneyCuts'. -/
def moneyCutsUptoCard : Claim7 := { stood := { row := moneyCutsUptoRow, standIns := [], harness := (true, "bdece06a989219284112b4744356f99deb153cd65c7da7281425a8fe3fb74db0"), looks := true }, kinds := [], alts := [], laidByText := true, laidKinds := [.sentinel, .sentinel], laidTests := true, laidLooks := .later }
def MoneyCutsUptoCardSaid : Prop := Claim7.holds Tryd.pinned (.plain (OpenSpec.upto moneyCutsSpec)) moneyCutsUptoCard

/-- THE SECOND FORM's CARD OF 'pledgelaw3.MoneySays'. -/
def moneySaysUptoCard : Claim7 := { stood := { row := moneySaysUptoRow, standIns := [], harness := (true, "bdece06a989219284112b4744356f99deb153cd65c7da7281425a8fe3fb74db0"), looks := true }, kinds := [], alts := [], laidByText := true, laidKinds := [.sentinel, .sentinel, .sentinel, .sentinel, .sentinel, .sentinel, .sentinel, .sentinel, .sentinel, .sentinel, .sentinel, .sentinel, .sentinel, .sentinel, .sentinel, .sentinel, .sentinel, .sentinel, .sentinel, .sentinel, .sentinel], laidTests := true, laidLooks := .later }
def MoneySaysUptoCardSaid : Prop := Claim7.holds Tryd.pinned (.plain (OpenSpec.upto moneySaysSpec)) moneySaysUptoCard
end Rows
end Go.Proofs.YtnkpfkniebhfkaaDoor
