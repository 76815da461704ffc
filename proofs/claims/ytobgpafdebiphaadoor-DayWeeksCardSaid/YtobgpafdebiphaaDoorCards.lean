/-
  DERIVED. GIVEN WITH THE SEED: THE CARDS: each row of YtobgpafdebiphaaDoorRows.lean that lists a variable, with what it lists TIED to the program's text (the seventh form; the later family's looks); each row that meets fmt, with fmt's text TOLD by the authors' own Lean function (tested against real Go, not proved from fmt's source: count such statements apart). THE CARD IS WHAT COUNTS. Prove the row's statement (the work); the ties are given (YtobgpafdebiphaaDoorTie.lean); close each card by the builder's one call (the guide's Derived/Test/ToyasCard.lean, 'card_holds'). Laid BY PROGRAM, IN A SANDBOX (cutbox-door.mjs). By AI agents, Wed Nov 11 2026. No macro, syntax, notation, axiom, sorry.
-/
import Derived.Test.YtobgpafdebiphaaDoorRows
import GoSem.ClaimSeven
namespace Go.Proofs.YtobgpafdebiphaaDoor
namespace Rows

/-- THE TIED CARD OF 'pledgelaw4.DayLeaps'. -/
def dayLeapsCard : Claim7 := { stood := { row := dayLeapsRow, standIns := [], harness := (true, "9456a6fec8a2e88fda7d5b67e3580b737e0e699031e72e9bc3b5a26d966e9e9e"), looks := true }, kinds := [], alts := [], laidByText := true, laidKinds := [.sentinel], laidTests := true, laidLooks := .later }
def DayLeapsCardSaid : Prop := Claim7.holds Tryd.pinned (.plain (OpenSpec.ofChange dayLeapsSpec)) dayLeapsCard

/-- THE TIED CARD OF 'pledgelaw4.DayWeeks'. -/
def dayWeeksCard : Claim7 := { stood := { row := dayWeeksRow, standIns := [], harness := (true, "9456a6fec8a2e88fda7d5b67e3580b737e0e699031e72e9bc3b5a26d966e9e9e"), looks := true }, kinds := [], alts := [], laidByText := true, laidKinds := [.sentinel], laidTests := true, laidLooks := .later }
def DayWeeksCardSaid : Prop := Claim7.holds Tryd.pinned (.plain (OpenSpec.ofChange dayWeeksSpec)) dayWeeksCard

/-- THE TIED CARD OF 'pledgelaw4.DayYears'. -/
def dayYearsCard : Claim7 := { stood := { row := dayYearsRow, standIns := [], harness := (true, "9456a6fec8a2e88fda7d5b67e3580b737e0e699031e72e9bc3b5a26d966e9e9e"), looks := true }, kinds := [], alts := [], laidByText := true, laidKinds := [.sentinel, .sentinel, .sentinel, .sentinel, .sentinel, .sentinel, .sentinel, .sentinel, .sentinel, .sentinel, .sentinel, .sentinel, .sentinel, .sentinel, .sentinel, .sentinel, .sentinel, .sentinel, .sentinel, .sentinel, .sentinel], laidTests := true, laidLooks := .later }
def DayYearsCardSaid : Prop := Claim7.holds Tryd.pinned (.plain (OpenSpec.ofChange dayYearsSpec)) dayYearsCard

/-- THE TIED CARD OF 'pledgelaw4.DayBuckets'. -/
def dayBucketsCard : Claim7 := { stood := { row := dayBucketsRow, standIns := [], harness := (true, "9456a6fec8a2e88fda7d5b67e3580b737e0e699031e72e9bc3b5a26d966e9e9e"), looks := true }, kinds := [], alts := [], laidByText := true, laidKinds := [.sentinel], laidTests := true, laidLooks := .later }
def DayBucketsCardSaid : Prop := Claim7.holds Tryd.pinned (.plain (OpenSpec.ofChange dayBucketsSpec)) dayBucketsCard

/-- THE TIED CARD OF 'pledgelaw4.DayBack'. -/
def dayBackCard : Claim7 := { stood := { row := dayBackRow, standIns := [], harness := (true, "9456a6fec8a2e88fda7d5b67e3580b737e0e699031e72e9bc3b5a26d966e9e9e"), looks := true }, kinds := [], alts := [], laidByText := true, laidKinds := [.sentinel], laidTests := true, laidLooks := .later }
def DayBackCardSaid : Prop := Claim7.holds Tryd.pinned (.plain (OpenSpec.ofChange dayBackSpec)) dayBackCard

/-- THE TIED CARD OF 'pledgelaw4.DaySays'. -/
def daySaysCard : Claim7 := { stood := { row := daySaysRow, standIns := [], harness := (true, "9456a6fec8a2e88fda7d5b67e3580b737e0e699031e72e9bc3b5a26d966e9e9e"), looks := true }, kinds := [], alts := [], laidByText := true, laidKinds := [.sentinel, .sentinel, .sentinel, .sentinel, .sentinel, .sentinel, .sentinel, .sentinel, .sentinel, .sentinel, .sentinel, .sentinel, .sentinel, .sentinel, .sentinel, .sentinel, .sentinel, .sentinel, .sentinel, .sentinel, .sentinel], laidTests := true, laidLooks := .later }
def DaySaysCardSaid : Prop := Claim7.holds Tryd.pinned (.plain (OpenSpec.ofChange daySaysSpec)) daySaysCard

/-- THE SECOND FORM's CARD OF 'pledgelaw4.DayLeaps'. -/
def dayLeapsUptoCard : Claim7 := { stood := { row := dayLeapsUptoRow, standIns := [], harness := (true, "9456a6fec8a2e88fda7d5b67e3580b737e0e699031e72e9bc3b5a26d966e9e9e"), looks := true }, kinds := [], alts := [], laidByText := true, laidKinds := [.sentinel], laidTests := true, laidLooks := .later }
def DayLeapsUptoCardSaid : Prop := Claim7.holds Tryd.pinned (.plain (OpenSpec.upto dayLeapsSpec)) dayLeapsUptoCard

/-- THE SECOND FORM's CARD OF 'pledgelaw4.DayWeeks'. -/
def dayWeeksUptoCard : Claim7 := { stood := { row := dayWeeksUptoRow, standIns := [], harness := (true, "9456a6fec8a2e88fda7d5b67e3580b737e0e699031e72e9bc3b5a26d966e9e9e"), looks := true }, kinds := [], alts := [], laidByText := true, laidKinds := [.sentinel], laidTests := true, laidLooks := .later }
def DayWeeksUptoCardSaid : Prop := Claim7.holds Tryd.pinned (.plain (OpenSpec.upto dayWeeksSpec)) dayWeeksUptoCard

/-- THE SECOND FORM's CARD OF 'pledgelaw4.DayYears'. -/
def dayYearsUptoCard : Claim7 := { stood := { row := dayYearsUptoRow, standIns := [], harness := (true, "9456a6fec8a2e88fda7d5b67e3580b737e0e699031e72e9bc3b5a26d966e9e9e"), looks := true }, kinds := [], alts := [], laidByText := true, laidKinds := [.sentinel, .sentinel, .sentinel, .sentinel, .sentinel, .sentinel, .sentinel, .sentinel, .sentinel, .sentinel, .sentinel, .sentinel, .sentinel, .sentinel, .sentinel, .sentinel, .sentinel, .sentinel, .sentinel, .sentinel, .sentinel], laidTests := true, laidLooks := .later }
def DayYearsUptoCardSaid : Prop := Claim7.holds Tryd.pinned (.plain (OpenSpec.upto dayYearsSpec)) dayYearsUptoCard

/-- THE SECOND FORM's CARD OF 'pledgelaw4.DayBuckets'. -/
def dayBucketsUptoCard : Claim7 := { stood := { row := dayBucketsUptoRow, standIns := [], harness := (true, "9456a6fec8a2e88fda7d5b67e3580b737e0e699031e72e9bc3b5a26d966e9e9e"), looks := true }, kinds := [], alts := [], laidByText := true, laidKinds := [.sentinel], laidTests := true, laidLooks := .later }
def DayBucketsUptoCardSaid : Prop := Claim7.holds Tryd.pinned (.plain (OpenSpec.upto dayBucketsSpec)) dayBucketsUptoCard

/-- THE SECOND FORM's CARD OF 'pledgelaw4.DayBack'. -/
def dayBackUptoCard : Claim7 := { stood := { row := dayBackUptoRow, standIns := [], harness := (true, "9456a6fec8a2e88fda7d5b67e3580b737e0e699031e72e9bc3b5a26d966e9e9e"), looks := true }, kinds := [], alts := [], laidByText := true, laidKinds := [.sentinel], laidTests := true, laidLooks := .later }
def DayBackUptoCardSaid : Prop := Claim7.holds Tryd.pinned (.plain (OpenSpec.upto dayBackSpec)) dayBackUptoCard

/-- THE SECOND FORM's CARD OF 'pledgelaw4.DaySays'. -/
def daySaysUptoCard : Claim7 := { stood := { row := daySaysUptoRow, standIns := [], harness := (true, "9456a6fec8a2e88fda7d5b67e3580b737e0e699031e72e9bc3b5a26d966e9e9e"), looks := true }, kinds := [], alts := [], laidByText := true, laidKinds := [.sentinel, .sentinel, .sentinel, .sentinel, .sentinel, .sentinel, .sentinel, .sentinel, .sentinel, .sentinel, .sentinel, .sentinel, .sentinel, .sentinel, .sentinel, .sentinel, .sentinel, .sentinel, .sentinel, .sentinel, .sentinel], laidTests := true, laidLooks := .later }
def DaySaysUptoCardSaid : Prop := Claim7.holds Tryd.pinned (.plain (OpenSpec.upto daySaysSpec)) daySaysUptoCard
end Rows
end Go.Proofs.YtobgpafdebiphaaDoor
