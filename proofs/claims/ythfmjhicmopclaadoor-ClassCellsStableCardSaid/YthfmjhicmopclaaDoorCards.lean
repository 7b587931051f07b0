/-
  DERIVED. GIVEN WITH THE SEED: THE CARDS: each row of YthfmjhicmopclaaDoorRows.lean that lists a variable, with what it lists TIED to the program's text (the seventh form; the later family's looks); each row that meets fmt, with fmt's text TOLD by the authors' own Lean function (tested against real Go, not proved from fmt's source: count such statements apart). THE CARD IS WHAT COUNTS. Prove the row's statement (the work); the ties are given (YthfmjhicmopclaaDoorTie.lean); close each card by the builder's one call (the guide's Derived/Test/ToyasCard.lean, 'card_holds'). Laid BY PROGRAM, IN A SANDBOX (cutbox-door.mjs). By AI agents, Wed Nov 11 2026. No macro, syntax, notation, axiom, sorry.
-/
import Derived.Test.YthfmjhicmopclaaDoorRows
import GoSem.ClaimSeven
namespace Go.Proofs.YthfmjhicmopclaaDoor
namespace Rows

/-- THE TIED CARD OF 'univocallaw01.ClassCellsMatchReference'. -/
def classCellsMatchReferenceCard : Claim7 := { stood := { row := classCellsMatchReferenceRow, standIns := [], harness := (true, "dad4714a3f379adab15fec6262125a7e23f4a7c2118e7f297947d2ba83ea1061"), looks := false }, kinds := [], alts := [], laidByText := true, laidKinds := [.data], laidTests := true, laidLooks := .later }
def ClassCellsMatchReferenceCardSaid : Prop := Claim7.holds Tryd.pinned (.plain (OpenSpec.ofChange classCellsMatchReferenceSpec)) classCellsMatchReferenceCard

/-- THE TIED CARD OF 'univocallaw01.ClassBytesInverse'. -/
def classBytesInverseCard : Claim7 := { stood := { row := classBytesInverseRow, standIns := [], harness := (true, "dad4714a3f379adab15fec6262125a7e23f4a7c2118e7f297947d2ba83ea1061"), looks := false }, kinds := [], alts := [], laidByText := true, laidKinds := [.data], laidTests := true, laidLooks := .later }
def ClassBytesInverseCardSaid : Prop := Claim7.holds Tryd.pinned (.plain (OpenSpec.ofChange classBytesInverseSpec)) classBytesInverseCard

/-- THE TIED CARD OF 'univocallaw01.ClassCellsCoarsest'. -/
def classCellsCoarsestCard : Claim7 := { stood := { row := classCellsCoarsestRow, standIns := [], harness := (true, "dad4714a3f379adab15fec6262125a7e23f4a7c2118e7f297947d2ba83ea1061"), looks := false }, kinds := [], alts := [], laidByText := true, laidKinds := [.data], laidTests := true, laidLooks := .later }
def ClassCellsCoarsestCardSaid : Prop := Claim7.holds Tryd.pinned (.plain (OpenSpec.ofChange classCellsCoarsestSpec)) classCellsCoarsestCard

/-- THE TIED CARD OF 'univocallaw01.ClassMatchesReference'. -/
def classMatchesReferenceCard : Claim7 := { stood := { row := classMatchesReferenceRow, standIns := [], harness := (true, "dad4714a3f379adab15fec6262125a7e23f4a7c2118e7f297947d2ba83ea1061"), looks := false }, kinds := [], alts := [], laidByText := true, laidKinds := [.data], laidTests := true, laidLooks := .later }
def ClassMatchesReferenceCardSaid : Prop := Claim7.holds Tryd.pinned (.plain (OpenSpec.ofChange classMatchesReferenceSpec)) classMatchesReferenceCard

/-- THE TIED CARD OF 'univocallaw01.ClassBooleanAlgebra'. -/
def classBooleanAlgebraCard : Claim7 := { stood := { row := classBooleanAlgebraRow, standIns := [], harness := (true, "dad4714a3f379adab15fec6262125a7e23f4a7c2118e7f297947d2ba83ea1061"), looks := false }, kinds := [], alts := [], laidByText := true, laidKinds := [.data], laidTests := true, laidLooks := .later }
def ClassBooleanAlgebraCardSaid : Prop := Claim7.holds Tryd.pinned (.plain (OpenSpec.ofChange classBooleanAlgebraSpec)) classBooleanAlgebraCard

/-- THE TIED CARD OF 'univocallaw01.ClassMembership'. -/
def classMembershipCard : Claim7 := { stood := { row := classMembershipRow, standIns := [], harness := (true, "dad4714a3f379adab15fec6262125a7e23f4a7c2118e7f297947d2ba83ea1061"), looks := false }, kinds := [], alts := [], laidByText := true, laidKinds := [.data], laidTests := true, laidLooks := .later }
def ClassMembershipCardSaid : Prop := Claim7.holds Tryd.pinned (.plain (OpenSpec.ofChange classMembershipSpec)) classMembershipCard

/-- THE TIED CARD OF 'univocallaw01.ClassCounting'. -/
def classCountingCard : Claim7 := { stood := { row := classCountingRow, standIns := [], harness := (true, "dad4714a3f379adab15fec6262125a7e23f4a7c2118e7f297947d2ba83ea1061"), looks := false }, kinds := [], alts := [], laidByText := true, laidKinds := [.data], laidTests := true, laidLooks := .later }
def ClassCountingCardSaid : Prop := Claim7.holds Tryd.pinned (.plain (OpenSpec.ofChange classCountingSpec)) classCountingCard

/-- THE TIED CARD OF 'univocallaw01.ClassCellsPartition'. -/
def classCellsPartitionCard : Claim7 := { stood := { row := classCellsPartitionRow, standIns := [], harness := (true, "dad4714a3f379adab15fec6262125a7e23f4a7c2118e7f297947d2ba83ea1061"), looks := false }, kinds := [], alts := [], laidByText := true, laidKinds := [.data], laidTests := true, laidLooks := .later }
def ClassCellsPartitionCardSaid : Prop := Claim7.holds Tryd.pinned (.plain (OpenSpec.ofChange classCellsPartitionSpec)) classCellsPartitionCard

/-- THE TIED CARD OF 'univocallaw01.ClassCellsStable'. -/
def classCellsStableCard : Claim7 := { stood := { row := classCellsStableRow, standIns := [], harness := (true, "dad4714a3f379adab15fec6262125a7e23f4a7c2118e7f297947d2ba83ea1061"), looks := false }, kinds := [], alts := [], laidByText := true, laidKinds := [.data], laidTests := true, laidLooks := .later }
def ClassCellsStableCardSaid : Prop := Claim7.holds Tryd.pinned (.plain (OpenSpec.ofChange classCellsStableSpec)) classCellsStableCard

/-- THE TIED CARD OF 'univocallaw01.ClassRanges'. -/
def classRangesCard : Claim7 := { stood := { row := classRangesRow, standIns := [], harness := (true, "dad4714a3f379adab15fec6262125a7e23f4a7c2118e7f297947d2ba83ea1061"), looks := false }, kinds := [], alts := [], laidByText := true, laidKinds := [.data], laidTests := true, laidLooks := .later }
def ClassRangesCardSaid : Prop := Claim7.holds Tryd.pinned (.plain (OpenSpec.ofChange classRangesSpec)) classRangesCard

/-- THE SECOND FORM's CARD OF 'univocallaw01.ClassCellsMatchReference'. -/
def classCellsMatchReferenceUptoCard : Claim7 := { stood := { row := classCellsMatchReferenceUptoRow, standIns := [], harness := (true, "dad4714a3f379adab15fec6262125a7e23f4a7c2118e7f297947d2ba83ea1061"), looks := false }, kinds := [], alts := [], laidByText := true, laidKinds := [.data], laidTests := true, laidLooks := .later }
def ClassCellsMatchReferenceUptoCardSaid : Prop := Claim7.holds Tryd.pinned (.plain (OpenSpec.upto classCellsMatchReferenceSpec)) classCellsMatchReferenceUptoCard

/-- THE SECOND FORM's CARD OF 'univocallaw01.ClassBytesInverse'. -/
def classBytesInverseUptoCard : Claim7 := { stood := { row := classBytesInverseUptoRow, standIns := [], harness := (true, "dad4714a3f379adab15fec6262125a7e23f4a7c2118e7f297947d2ba83ea1061"), looks := false }, kinds := [], alts := [], laidByText := true, laidKinds := [.data], laidTests := true, laidLooks := .later }
def ClassBytesInverseUptoCardSaid : Prop := Claim7.holds Tryd.pinned (.plain (OpenSpec.upto classBytesInverseSpec)) classBytesInverseUptoCard

/-- THE SECOND FORM's CARD OF 'univocallaw01.ClassCellsCoarsest'. -/
def classCellsCoarsestUptoCard : Claim7 := { stood := { row := classCellsCoarsestUptoRow, standIns := [], harness := (true, "dad4714a3f379adab15fec6262125a7e23f4a7c2118e7f297947d2ba83ea1061"), looks := false }, kinds := [], alts := [], laidByText := true, laidKinds := [.data], laidTests := true, laidLooks := .later }
def ClassCellsCoarsestUptoCardSaid : Prop := Claim7.holds Tryd.pinned (.plain (OpenSpec.upto classCellsCoarsestSpec)) classCellsCoarsestUptoCard

/-- THE SECOND FORM's CARD OF 'univocallaw01.ClassMatchesReference'. -/
def classMatchesReferenceUptoCard : Claim7 := { stood := { row := classMatchesReferenceUptoRow, standIns := [], harness := (true, "dad4714a3f379adab15fec6262125a7e23f4a7c2118e7f297947d2ba83ea1061"), looks := false }, kinds := [], alts := [], laidByText := true, laidKinds := [.data], laidTests := true, laidLooks := .later }
def ClassMatchesReferenceUptoCardSaid : Prop := Claim7.holds Tryd.pinned (.plain (OpenSpec.upto classMatchesReferenceSpec)) classMatchesReferenceUptoCard

/-- THE SECOND FORM's CARD OF 'univocallaw01.ClassBooleanAlgebra'. -/
def classBooleanAlgebraUptoCard : Claim7 := { stood := { row := classBooleanAlgebraUptoRow, standIns := [], harness := (true, "dad4714a3f379adab15fec6262125a7e23f4a7c2118e7f297947d2ba83ea1061"), looks := false }, kinds := [], alts := [], laidByText := true, laidKinds := [.data], laidTests := true, laidLooks := .later }
def ClassBooleanAlgebraUptoCardSaid : Prop := Claim7.holds Tryd.pinned (.plain (OpenSpec.upto classBooleanAlgebraSpec)) classBooleanAlgebraUptoCard

/-- THE SECOND FORM's CARD OF 'univocallaw01.ClassMembership'. -/
def classMembershipUptoCard : Claim7 := { stood := { row := classMembershipUptoRow, standIns := [], harness := (true, "dad4714a3f379adab15fec6262125a7e23f4a7c2118e7f297947d2ba83ea1061"), looks := false }, kinds := [], alts := [], laidByText := true, laidKinds := [.data], laidTests := true, laidLooks := .later }
def ClassMembershipUptoCardSaid : Prop := Claim7.holds Tryd.pinned (.plain (OpenSpec.upto classMembershipSpec)) classMembershipUptoCard

/-- THE SECOND FORM's CARD OF 'univocallaw01.ClassCounting'. -/
def classCountingUptoCard : Claim7 := { stood := { row := classCountingUptoRow, standIns := [], harness := (true, "dad4714a3f379adab15fec6262125a7e23f4a7c2118e7f297947d2ba83ea1061"), looks := false }, kinds := [], alts := [], laidByText := true, laidKinds := [.data], laidTests := true, laidLooks := .later }
def ClassCountingUptoCardSaid : Prop := Claim7.holds Tryd.pinned (.plain (OpenSpec.upto classCountingSpec)) classCountingUptoCard

/-- THE SECOND FORM's CARD OF 'univocallaw01.ClassCellsPartition'. -/
def classCellsPartitionUptoCard : Claim7 := { stood := { row := classCellsPartitionUptoRow, standIns := [], harness := (true, "dad4714a3f379adab15fec6262125a7e23f4a7c2118e7f297947d2ba83ea1061"), looks := false }, kinds := [], alts := [], laidByText := true, laidKinds := [.data], laidTests := true, laidLooks := .later }
def ClassCellsPartitionUptoCardSaid : Prop := Claim7.holds Tryd.pinned (.plain (OpenSpec.upto classCellsPartitionSpec)) classCellsPartitionUptoCard

/-- THE SECOND FORM's CARD OF 'univocallaw01.ClassCellsStable'. -/
def classCellsStableUptoCard : Claim7 := { stood := { row := classCellsStableUptoRow, standIns := [], harness := (true, "dad4714a3f379adab15fec6262125a7e23f4a7c2118e7f297947d2ba83ea1061"), looks := false }, kinds := [], alts := [], laidByText := true, laidKinds := [.data], laidTests := true, laidLooks := .later }
def ClassCellsStableUptoCardSaid : Prop := Claim7.holds Tryd.pinned (.plain (OpenSpec.upto classCellsStableSpec)) classCellsStableUptoCard

/-- THE SECOND FORM's CARD OF 'univocallaw01.ClassRanges'. -/
def classRangesUptoCard : Claim7 := { stood := { row := classRangesUptoRow, standIns := [], harness := (true, "dad4714a3f379adab15fec6262125a7e23f4a7c2118e7f297947d2ba83ea1061"), looks := false }, kinds := [], alts := [], laidByText := true, laidKinds := [.data], laidTests := true, laidLooks := .later }
def ClassRangesUptoCardSaid : Prop := Claim7.holds Tryd.pinned (.plain (OpenSpec.upto classRangesSpec)) classRangesUptoCard
end Rows
end Go.Proofs.YthfmjhicmopclaaDoor
