/-
  DERIVED. GIVEN WITH THE SEED: THE CARDS: each row of YtilgekmngbijmaaDoorRows.lean that lists a variable, with what it lists TIED to the program's text (the seventh form; the later family's looks); each row that meets fmt, with fmt's text TOLD by the authors' own Lean function (tested against real Go, not proved from fmt's source: count such statements apart). THE CARD IS WHAT COUNTS. Prove the row's statement (the work); the ties are given (YtilgekmngbijmaaDoorTie.lean); close each card by the builder's one call (the guide's Derived/Test/ToyasCard.lean, 'card_holds'). Laid BY PROGRAM, IN A SANDBOX (cutbox-door.mjs). By AI agents, Wed Nov 11 2026. No macro, syntax, notation, axiom, sorry.
-/
import Derived.Test.YtilgekmngbijmaaDoorRows
import GoSem.ClaimSeven
namespace Go.Proofs.YtilgekmngbijmaaDoor
namespace Rows

/-- THE TIED CARD OF 'pledgelaw19.BoundGrows'. -/
def boundGrowsCard : Claim7 := { stood := { row := boundGrowsRow, standIns := [], harness := (true, "43702b8fffb8492257cfa9ac36b3035fe79b706ee8a1d1de6b99c8b0171c0155"), looks := false }, kinds := [], alts := [], laidByText := true, laidKinds := [.sentinel, .sentinel], laidTests := true, laidLooks := .later }
def BoundGrowsCardSaid : Prop := Claim7.holds Tryd.pinned (.plain (OpenSpec.ofChange boundGrowsSpec)) boundGrowsCard

/-- THE TIED CARD OF 'pledgelaw19.BoundHolds'. -/
def boundHoldsCard : Claim7 := { stood := { row := boundHoldsRow, standIns := [], harness := (true, "43702b8fffb8492257cfa9ac36b3035fe79b706ee8a1d1de6b99c8b0171c0155"), looks := false }, kinds := [], alts := [], laidByText := true, laidKinds := [.sentinel, .sentinel], laidTests := true, laidLooks := .later }
def BoundHoldsCardSaid : Prop := Claim7.holds Tryd.pinned (.plain (OpenSpec.ofChange boundHoldsSpec)) boundHoldsCard

/-- THE SECOND FORM's CARD OF 'pledgelaw19.BoundGrows'. -/
def boundGrowsUptoCard : Claim7 := { stood := { row := boundGrowsUptoRow, standIns := [], harness := (true, "43702b8fffb8492257cfa9ac36b3035fe79b706ee8a1d1de6b99c8b0171c0155"), looks := false }, kinds := [], alts := [], laidByText := true, laidKinds := [.sentinel, .sentinel], laidTests := true, laidLooks := .later }
def BoundGrowsUptoCardSaid : Prop := Claim7.holds Tryd.pinned (.plain (OpenSpec.upto boundGrowsSpec)) boundGrowsUptoCard

/-- THE SECOND FORM's CARD OF 'pledgelaw19.BoundHolds'. -/
def boundHoldsUptoCard : Claim7 := { stood := { row := boundHoldsUptoRow, standIns := [], harness := (true, "43702b8fffb8492257cfa9ac36b3035fe79b706ee8a1d1de6b99c8b0171c0155"), looks := false }, kinds := [], alts := [], laidByText := true, laidKinds := [.sentinel, .sentinel], laidTests := true, laidLooks := .later }
def BoundHoldsUptoCardSaid : Prop := Claim7.holds Tryd.pinned (.plain (OpenSpec.upto boundHoldsSpec)) boundHoldsUptoCard
end Rows
end Go.Proofs.YtilgekmngbijmaaDoor
