/-
  DERIVED. GIVEN WITH THE SEED: THE CARDS: each row of YtilncahcpjlfnaaGreatDoorRows.lean that lists a variable, with what it lists TIED to the program's text (the seventh form; the later family's looks); each row that meets fmt, with fmt's text TOLD by the authors' own Lean function (tested against real Go, not proved from fmt's source: count such statements apart). THE CARD IS WHAT COUNTS. Prove the row's statement (the work); the ties are given (YtilncahcpjlfnaaGreatDoorTie.lean); close each card by the builder's one call (the guide's Derived/Test/ToyasCard.lean, 'card_holds'). Laid BY PROGRAM, IN A SANDBOX (cutbox-door.mjs). By AI agents, Wed Nov 11 2026. No macro, syntax, notation, axiom, sorry.
-/
import Derived.Test.YtilncahcpjlfnaaGreatDoorRows
import GoSem.ClaimSeven
namespace Go.Proofs.YtilncahcpjlfnaaGreatDoor
namespace Rows

/-- THE TIED CARD OF 'univocallaw06.PatternDisjoint'. -/
def patternDisjointCard : Claim7 := { stood := { row := patternDisjointRow, standIns := [], harness := (true, "365fd237c2811a4511fd47f3bce851aa4974e8bb9b5e8ae9cfbfdb1c0044d573"), looks := false }, kinds := [], alts := [], laidByText := true, laidKinds := [.data], laidTests := true, laidLooks := .later }
def PatternDisjointCardSaid : Prop := Claim7.holds Tryz.pinned (.plain (OpenSpec.ofChange patternDisjointSpec)) patternDisjointCard

/-- THE TIED CARD OF 'univocallaw06.PatternLanguages'. -/
def patternLanguagesCard : Claim7 := { stood := { row := patternLanguagesRow, standIns := [], harness := (true, "365fd237c2811a4511fd47f3bce851aa4974e8bb9b5e8ae9cfbfdb1c0044d573"), looks := false }, kinds := [], alts := [], laidByText := true, laidKinds := [.data], laidTests := true, laidLooks := .later }
def PatternLanguagesCardSaid : Prop := Claim7.holds Tryz.pinned (.plain (OpenSpec.ofChange patternLanguagesSpec)) patternLanguagesCard

/-- THE TIED CARD OF 'univocallaw06.PatternPriority'. -/
def patternPriorityCard : Claim7 := { stood := { row := patternPriorityRow, standIns := [], harness := (true, "365fd237c2811a4511fd47f3bce851aa4974e8bb9b5e8ae9cfbfdb1c0044d573"), looks := false }, kinds := [], alts := [], laidByText := true, laidKinds := [.data], laidTests := true, laidLooks := .later }
def PatternPriorityCardSaid : Prop := Claim7.holds Tryz.pinned (.plain (OpenSpec.ofChange patternPrioritySpec)) patternPriorityCard

/-- THE TIED CARD OF 'univocallaw06.PatternCases'. -/
def patternCasesCard : Claim7 := { stood := { row := patternCasesRow, standIns := [], harness := (true, "365fd237c2811a4511fd47f3bce851aa4974e8bb9b5e8ae9cfbfdb1c0044d573"), looks := false }, kinds := [], alts := [], laidByText := true, laidKinds := [.data], laidTests := true, laidLooks := .later }
def PatternCasesCardSaid : Prop := Claim7.holds Tryz.pinned (.plain (OpenSpec.ofChange patternCasesSpec)) patternCasesCard

/-- THE TIED CARD OF 'univocallaw06.PatternUnique'. -/
def patternUniqueCard : Claim7 := { stood := { row := patternUniqueRow, standIns := [], harness := (true, "365fd237c2811a4511fd47f3bce851aa4974e8bb9b5e8ae9cfbfdb1c0044d573"), looks := false }, kinds := [], alts := [], laidByText := true, laidKinds := [.data], laidTests := true, laidLooks := .later }
def PatternUniqueCardSaid : Prop := Claim7.holds Tryz.pinned (.plain (OpenSpec.ofChange patternUniqueSpec)) patternUniqueCard

/-- THE TIED CARD OF 'univocallaw06.PatternDivisions'. -/
def patternDivisionsCard : Claim7 := { stood := { row := patternDivisionsRow, standIns := [], harness := (true, "365fd237c2811a4511fd47f3bce851aa4974e8bb9b5e8ae9cfbfdb1c0044d573"), looks := false }, kinds := [], alts := [], laidByText := true, laidKinds := [.data], laidTests := true, laidLooks := .later }
def PatternDivisionsCardSaid : Prop := Claim7.holds Tryz.pinned (.plain (OpenSpec.ofChange patternDivisionsSpec)) patternDivisionsCard

/-- THE SECOND FORM's CARD OF 'univocallaw06.PatternDisjoint'. -/
def patternDisjointUptoCard : Claim7 := { stood := { row := patternDisjointUptoRow, standIns := [], harness := (true, "365fd237c2811a4511fd47f3bce851aa4974e8bb9b5e8ae9cfbfdb1c0044d573"), looks := false }, kinds := [], alts := [], laidByText := true, laidKinds := [.data], laidTests := true, laidLooks := .later }
def PatternDisjointUptoCardSaid : Prop := Claim7.holds Tryz.pinned (.plain (OpenSpec.upto patternDisjointSpec)) patternDisjointUptoCard

/-- THE SECOND FORM's CARD OF 'univocallaw06.PatternLanguages'. -/
def patternLanguagesUptoCard : Claim7 := { stood := { row := patternLanguagesUptoRow, standIns := [], harness := (true, "365fd237c2811a4511fd47f3bce851aa4974e8bb9b5e8ae9cfbfdb1c0044d573"), looks := false }, kinds := [], alts := [], laidByText := true, laidKinds := [.data], laidTests := true, laidLooks := .later }
def PatternLanguagesUptoCardSaid : Prop := Claim7.holds Tryz.pinned (.plain (OpenSpec.upto patternLanguagesSpec)) patternLanguagesUptoCard

/-- THE SECOND FORM's CARD OF 'univocallaw06.PatternPriority'. -/
def patternPriorityUptoCard : Claim7 := { stood := { row := patternPriorityUptoRow, standIns := [], harness := (true, "365fd237c2811a4511fd47f3bce851aa4974e8bb9b5e8ae9cfbfdb1c0044d573"), looks := false }, kinds := [], alts := [], laidByText := true, laidKinds := [.data], laidTests := true, laidLooks := .later }
def PatternPriorityUptoCardSaid : Prop := Claim7.holds Tryz.pinned (.plain (OpenSpec.upto patternPrioritySpec)) patternPriorityUptoCard

/-- THE SECOND FORM's CARD OF 'univocallaw06.PatternCases'. -/
def patternCasesUptoCard : Claim7 := { stood := { row := patternCasesUptoRow, standIns := [], harness := (true, "365fd237c2811a4511fd47f3bce851aa4974e8bb9b5e8ae9cfbfdb1c0044d573"), looks := false }, kinds := [], alts := [], laidByText := true, laidKinds := [.data], laidTests := true, laidLooks := .later }
def PatternCasesUptoCardSaid : Prop := Claim7.holds Tryz.pinned (.plain (OpenSpec.upto patternCasesSpec)) patternCasesUptoCard

/-- THE SECOND FORM's CARD OF 'univocallaw06.PatternUnique'. -/
def patternUniqueUptoCard : Claim7 := { stood := { row := patternUniqueUptoRow, standIns := [], harness := (true, "365fd237c2811a4511fd47f3bce851aa4974e8bb9b5e8ae9cfbfdb1c0044d573"), looks := false }, kinds := [], alts := [], laidByText := true, laidKinds := [.data], laidTests := true, laidLooks := .later }
def PatternUniqueUptoCardSaid : Prop := Claim7.holds Tryz.pinned (.plain (OpenSpec.upto patternUniqueSpec)) patternUniqueUptoCard

/-- THE SECOND FORM's CARD OF 'univocallaw06.PatternDivisions'. -/
def patternDivisionsUptoCard : Claim7 := { stood := { row := patternDivisionsUptoRow, standIns := [], harness := (true, "365fd237c2811a4511fd47f3bce851aa4974e8bb9b5e8ae9cfbfdb1c0044d573"), looks := false }, kinds := [], alts := [], laidByText := true, laidKinds := [.data], laidTests := true, laidLooks := .later }
def PatternDivisionsUptoCardSaid : Prop := Claim7.holds Tryz.pinned (.plain (OpenSpec.upto patternDivisionsSpec)) patternDivisionsUptoCard
end Rows
end Go.Proofs.YtilncahcpjlfnaaGreatDoor
