/-
  NARROWER THAN 'FOR EVERY INPUT', by the rows' own cells (each row's printed sentence says how): ClassCellsMatchReference: laid · ClassBytesInverse: laid · ClassCellsCoarsest: laid · ClassMatchesReference: laid · ClassBooleanAlgebra: laid · ClassMembership: laid · ClassCounting: laid · ClassCellsPartition: laid · ClassCellsStable: laid · ClassRanges: laid.
  DERIVED. THE GIVEN ROWS OF THIS SEAT. 10 by the template 'for every input the law returns true; each argument reads behind the call as it read before'; 0 by the template 'total and deterministic' (their statements: YthfmjhicmopclaaDoorTotals.lean).
  GIVEN WITH THE SEED: the statements are not yours to turn. If you find one false, say at which input.
  Laid BY PROGRAM, IN A SANDBOX (cutbox-rows.mjs): the forced cells as the released guide's own fill.sh prints them over the translation fcf417bca0b4a92a… (all of the seat's roots in one cut). By AI agents, Wed Nov 11 2026. No macro, syntax, notation, axiom, sorry.
-/
import Derived.Test.YthfmjhicmopclaaDoorChecked
import GoSem.Claim
import GoSem.ClaimJoined
import GoSem.ClaimMapViews
import Derived.JoinedTies
import Derived.KernelRfl
namespace Go.Proofs.YthfmjhicmopclaaDoor
/- THE CELL 'sum', in the pinned program and in every row, IS THE sha256 OF THE DUMP (.gsa) THAT YthfmjhicmopclaaDoorProg.lean LOADS. Nothing in Lean hashes anything: it is a label: what it is worth is what the hold of that sum in a sandbox is worth. -/
noncomputable def Tryd.pinned : Pinned := { name := "ythfmjhicmopclaadoor", sum := "fcf417bca0b4a92a3d36d19aab4d03db874de2808aab3dec61afefcb92d04145", checked := Tryd.checked }
namespace Rows
def none {H : Type} : Left H := { results := [], args := [] }

/- WHAT THE LISTED PACKAGE-LEVEL VARIABLES READ AS WHEN THE CALL BEGINS. Each datum BY PROGRAM (the guide's laid-datum.mjs) off the statement by which the dump's own 'gosem.cut.vars' lays the variable. In a bare row this is a premise. The card (YthfmjhicmopclaaDoorCards.lean) ties it to the program's text. -/
def laid_math_bits_deBruijn64tab {H : Type} : DataW H := .agg [.lit (.int .u8 0), .lit (.int .u8 1), .lit (.int .u8 56), .lit (.int .u8 2), .lit (.int .u8 57), .lit (.int .u8 49), .lit (.int .u8 28), .lit (.int .u8 3), .lit (.int .u8 61), .lit (.int .u8 58), .lit (.int .u8 42), .lit (.int .u8 50), .lit (.int .u8 38), .lit (.int .u8 29), .lit (.int .u8 17), .lit (.int .u8 4), .lit (.int .u8 62), .lit (.int .u8 47), .lit (.int .u8 59), .lit (.int .u8 36), .lit (.int .u8 45), .lit (.int .u8 43), .lit (.int .u8 51), .lit (.int .u8 22), .lit (.int .u8 53), .lit (.int .u8 39), .lit (.int .u8 33), .lit (.int .u8 30), .lit (.int .u8 24), .lit (.int .u8 18), .lit (.int .u8 12), .lit (.int .u8 5), .lit (.int .u8 63), .lit (.int .u8 55), .lit (.int .u8 48), .lit (.int .u8 27), .lit (.int .u8 60), .lit (.int .u8 41), .lit (.int .u8 37), .lit (.int .u8 16), .lit (.int .u8 46), .lit (.int .u8 35), .lit (.int .u8 44), .lit (.int .u8 21), .lit (.int .u8 52), .lit (.int .u8 32), .lit (.int .u8 23), .lit (.int .u8 11), .lit (.int .u8 54), .lit (.int .u8 26), .lit (.int .u8 40), .lit (.int .u8 15), .lit (.int .u8 34), .lit (.int .u8 20), .lit (.int .u8 31), .lit (.int .u8 10), .lit (.int .u8 25), .lit (.int .u8 14), .lit (.int .u8 19), .lit (.int .u8 9), .lit (.int .u8 13), .lit (.int .u8 8), .lit (.int .u8 7), .lit (.int .u8 6)]

/-- 'univocallaw01.ClassCellsMatchReference': WHATEVER THE INPUT: true; the input reads as it did. -/
def classCellsMatchReferenceSpec : ChangeSpec := { name := "classCellsMatchReference", fn := fun _ => fun
  | [d1, d2] => { results := [.lit (.bool true)], args := [d1, d2] }
  | _ => none }
def classCellsMatchReferenceRow : OpenClaim := { program := "ythfmjhicmopclaadoor", sum := "fcf417bca0b4a92a3d36d19aab4d03db874de2808aab3dec61afefcb92d04145", func := "univocal/univocallaw01.ClassCellsMatchReference", spec := "classCellsMatchReference", unfollowed := true, recurses := true, named := ["math/bits.deBruijn64tab"], apart := false, laid := [("math/bits.deBruijn64tab", laid_math_bits_deBruijn64tab)] }
def ClassCellsMatchReferenceSaid : Prop := classCellsMatchReferenceRow.holds Tryd.pinned (OpenSpec.ofChange classCellsMatchReferenceSpec)

/-- ITS FALSE NEIGHBOUR: 'it returns false'. Refute it at one input. -/
def classCellsMatchReferenceWrong : ChangeSpec := { name := "classCellsMatchReference", fn := fun _ => fun
  | [d1, d2] => { results := [.lit (.bool false)], args := [d1, d2] }
  | _ => none }
def ClassCellsMatchReferenceWrongFalsely : Prop := classCellsMatchReferenceRow.holds Tryd.pinned (OpenSpec.ofChange classCellsMatchReferenceWrong)

/-- 'univocallaw01.ClassBytesInverse': WHATEVER THE INPUT: true; the input reads as it did. -/
def classBytesInverseSpec : ChangeSpec := { name := "classBytesInverse", fn := fun _ => fun
  | [d] => { results := [.lit (.bool true)], args := [d] }
  | _ => none }
def classBytesInverseRow : OpenClaim := { program := "ythfmjhicmopclaadoor", sum := "fcf417bca0b4a92a3d36d19aab4d03db874de2808aab3dec61afefcb92d04145", func := "univocal/univocallaw01.ClassBytesInverse", spec := "classBytesInverse", unfollowed := true, recurses := true, named := ["math/bits.deBruijn64tab"], apart := false, laid := [("math/bits.deBruijn64tab", laid_math_bits_deBruijn64tab)] }
def ClassBytesInverseSaid : Prop := classBytesInverseRow.holds Tryd.pinned (OpenSpec.ofChange classBytesInverseSpec)

/-- ITS FALSE NEIGHBOUR: 'it returns false'. Refute it at one input. -/
def classBytesInverseWrong : ChangeSpec := { name := "classBytesInverse", fn := fun _ => fun
  | [d] => { results := [.lit (.bool false)], args := [d] }
  | _ => none }
def ClassBytesInverseWrongFalsely : Prop := classBytesInverseRow.holds Tryd.pinned (OpenSpec.ofChange classBytesInverseWrong)

/-- 'univocallaw01.ClassCellsCoarsest': WHATEVER THE INPUT: true; the input reads as it did. -/
def classCellsCoarsestSpec : ChangeSpec := { name := "classCellsCoarsest", fn := fun _ => fun
  | [d1, d2, d3] => { results := [.lit (.bool true)], args := [d1, d2, d3] }
  | _ => none }
def classCellsCoarsestRow : OpenClaim := { program := "ythfmjhicmopclaadoor", sum := "fcf417bca0b4a92a3d36d19aab4d03db874de2808aab3dec61afefcb92d04145", func := "univocal/univocallaw01.ClassCellsCoarsest", spec := "classCellsCoarsest", unfollowed := true, recurses := true, named := ["math/bits.deBruijn64tab"], apart := false, laid := [("math/bits.deBruijn64tab", laid_math_bits_deBruijn64tab)] }
def ClassCellsCoarsestSaid : Prop := classCellsCoarsestRow.holds Tryd.pinned (OpenSpec.ofChange classCellsCoarsestSpec)

/-- ITS FALSE NEIGHBOUR: 'it returns false'. Refute it at one input. -/
def classCellsCoarsestWrong : ChangeSpec := { name := "classCellsCoarsest", fn := fun _ => fun
  | [d1, d2, d3] => { results := [.lit (.bool false)], args := [d1, d2, d3] }
  | _ => none }
def ClassCellsCoarsestWrongFalsely : Prop := classCellsCoarsestRow.holds Tryd.pinned (OpenSpec.ofChange classCellsCoarsestWrong)

/-- 'univocallaw01.ClassMatchesReference': WHATEVER THE INPUT: true; the input reads as it did. -/
def classMatchesReferenceSpec : ChangeSpec := { name := "classMatchesReference", fn := fun _ => fun
  | [d1, d2, d3] => { results := [.lit (.bool true)], args := [d1, d2, d3] }
  | _ => none }
def classMatchesReferenceRow : OpenClaim := { program := "ythfmjhicmopclaadoor", sum := "fcf417bca0b4a92a3d36d19aab4d03db874de2808aab3dec61afefcb92d04145", func := "univocal/univocallaw01.ClassMatchesReference", spec := "classMatchesReference", unfollowed := true, recurses := true, named := ["math/bits.deBruijn64tab"], apart := false, laid := [("math/bits.deBruijn64tab", laid_math_bits_deBruijn64tab)] }
def ClassMatchesReferenceSaid : Prop := classMatchesReferenceRow.holds Tryd.pinned (OpenSpec.ofChange classMatchesReferenceSpec)

/-- ITS FALSE NEIGHBOUR: 'it returns false'. Refute it at one input. -/
def classMatchesReferenceWrong : ChangeSpec := { name := "classMatchesReference", fn := fun _ => fun
  | [d1, d2, d3] => { results := [.lit (.bool false)], args := [d1, d2, d3] }
  | _ => none }
def ClassMatchesReferenceWrongFalsely : Prop := classMatchesReferenceRow.holds Tryd.pinned (OpenSpec.ofChange classMatchesReferenceWrong)

/-- 'univocallaw01.ClassBooleanAlgebra': WHATEVER THE INPUT: true; the input reads as it did. -/
def classBooleanAlgebraSpec : ChangeSpec := { name := "classBooleanAlgebra", fn := fun _ => fun
  | [d1, d2, d3] => { results := [.lit (.bool true)], args := [d1, d2, d3] }
  | _ => none }
def classBooleanAlgebraRow : OpenClaim := { program := "ythfmjhicmopclaadoor", sum := "fcf417bca0b4a92a3d36d19aab4d03db874de2808aab3dec61afefcb92d04145", func := "univocal/univocallaw01.ClassBooleanAlgebra", spec := "classBooleanAlgebra", unfollowed := true, recurses := true, named := ["math/bits.deBruijn64tab"], apart := false, laid := [("math/bits.deBruijn64tab", laid_math_bits_deBruijn64tab)] }
def ClassBooleanAlgebraSaid : Prop := classBooleanAlgebraRow.holds Tryd.pinned (OpenSpec.ofChange classBooleanAlgebraSpec)

/-- ITS FALSE NEIGHBOUR: 'it returns false'. Refute it at one input. -/
def classBooleanAlgebraWrong : ChangeSpec := { name := "classBooleanAlgebra", fn := fun _ => fun
  | [d1, d2, d3] => { results := [.lit (.bool false)], args := [d1, d2, d3] }
  | _ => none }
def ClassBooleanAlgebraWrongFalsely : Prop := classBooleanAlgebraRow.holds Tryd.pinned (OpenSpec.ofChange classBooleanAlgebraWrong)

/-- 'univocallaw01.ClassMembership': WHATEVER THE INPUT: true; the input reads as it did. -/
def classMembershipSpec : ChangeSpec := { name := "classMembership", fn := fun _ => fun
  | [d1, d2, d3] => { results := [.lit (.bool true)], args := [d1, d2, d3] }
  | _ => none }
def classMembershipRow : OpenClaim := { program := "ythfmjhicmopclaadoor", sum := "fcf417bca0b4a92a3d36d19aab4d03db874de2808aab3dec61afefcb92d04145", func := "univocal/univocallaw01.ClassMembership", spec := "classMembership", unfollowed := true, recurses := true, named := ["math/bits.deBruijn64tab"], apart := false, laid := [("math/bits.deBruijn64tab", laid_math_bits_deBruijn64tab)] }
def ClassMembershipSaid : Prop := classMembershipRow.holds Tryd.pinned (OpenSpec.ofChange classMembershipSpec)

/-- ITS FALSE NEIGHBOUR: 'it returns false'. Refute it at one input. -/
def classMembershipWrong : ChangeSpec := { name := "classMembership", fn := fun _ => fun
  | [d1, d2, d3] => { results := [.lit (.bool false)], args := [d1, d2, d3] }
  | _ => none }
def ClassMembershipWrongFalsely : Prop := classMembershipRow.holds Tryd.pinned (OpenSpec.ofChange classMembershipWrong)

/-- 'univocallaw01.ClassCounting': WHATEVER THE INPUT: true; the input reads as it did. -/
def classCountingSpec : ChangeSpec := { name := "classCounting", fn := fun _ => fun
  | [d1, d2] => { results := [.lit (.bool true)], args := [d1, d2] }
  | _ => none }
def classCountingRow : OpenClaim := { program := "ythfmjhicmopclaadoor", sum := "fcf417bca0b4a92a3d36d19aab4d03db874de2808aab3dec61afefcb92d04145", func := "univocal/univocallaw01.ClassCounting", spec := "classCounting", unfollowed := true, recurses := true, named := ["math/bits.deBruijn64tab"], apart := false, laid := [("math/bits.deBruijn64tab", laid_math_bits_deBruijn64tab)] }
def ClassCountingSaid : Prop := classCountingRow.holds Tryd.pinned (OpenSpec.ofChange classCountingSpec)

/-- ITS FALSE NEIGHBOUR: 'it returns false'. Refute it at one input. -/
def classCountingWrong : ChangeSpec := { name := "classCounting", fn := fun _ => fun
  | [d1, d2] => { results := [.lit (.bool false)], args := [d1, d2] }
  | _ => none }
def ClassCountingWrongFalsely : Prop := classCountingRow.holds Tryd.pinned (OpenSpec.ofChange classCountingWrong)

/-- 'univocallaw01.ClassCellsPartition': WHATEVER THE INPUT: true; the input reads as it did. -/
def classCellsPartitionSpec : ChangeSpec := { name := "classCellsPartition", fn := fun _ => fun
  | [d] => { results := [.lit (.bool true)], args := [d] }
  | _ => none }
def classCellsPartitionRow : OpenClaim := { program := "ythfmjhicmopclaadoor", sum := "fcf417bca0b4a92a3d36d19aab4d03db874de2808aab3dec61afefcb92d04145", func := "univocal/univocallaw01.ClassCellsPartition", spec := "classCellsPartition", unfollowed := true, recurses := true, named := ["math/bits.deBruijn64tab"], apart := false, laid := [("math/bits.deBruijn64tab", laid_math_bits_deBruijn64tab)] }
def ClassCellsPartitionSaid : Prop := classCellsPartitionRow.holds Tryd.pinned (OpenSpec.ofChange classCellsPartitionSpec)

/-- ITS FALSE NEIGHBOUR: 'it returns false'. Refute it at one input. -/
def classCellsPartitionWrong : ChangeSpec := { name := "classCellsPartition", fn := fun _ => fun
  | [d] => { results := [.lit (.bool false)], args := [d] }
  | _ => none }
def ClassCellsPartitionWrongFalsely : Prop := classCellsPartitionRow.holds Tryd.pinned (OpenSpec.ofChange classCellsPartitionWrong)

/-- 'univocallaw01.ClassCellsStable': WHATEVER THE INPUT: true; the input reads as it did. -/
def classCellsStableSpec : ChangeSpec := { name := "classCellsStable", fn := fun _ => fun
  | [d1, d2, d3] => { results := [.lit (.bool true)], args := [d1, d2, d3] }
  | _ => none }
def classCellsStableRow : OpenClaim := { program := "ythfmjhicmopclaadoor", sum := "fcf417bca0b4a92a3d36d19aab4d03db874de2808aab3dec61afefcb92d04145", func := "univocal/univocallaw01.ClassCellsStable", spec := "classCellsStable", unfollowed := true, recurses := true, named := ["math/bits.deBruijn64tab"], apart := false, laid := [("math/bits.deBruijn64tab", laid_math_bits_deBruijn64tab)] }
def ClassCellsStableSaid : Prop := classCellsStableRow.holds Tryd.pinned (OpenSpec.ofChange classCellsStableSpec)

/-- ITS FALSE NEIGHBOUR: 'it returns false'. Refute it at one input. -/
def classCellsStableWrong : ChangeSpec := { name := "classCellsStable", fn := fun _ => fun
  | [d1, d2, d3] => { results := [.lit (.bool false)], args := [d1, d2, d3] }
  | _ => none }
def ClassCellsStableWrongFalsely : Prop := classCellsStableRow.holds Tryd.pinned (OpenSpec.ofChange classCellsStableWrong)

/-- 'univocallaw01.ClassRanges': WHATEVER THE INPUT: true; the input reads as it did. -/
def classRangesSpec : ChangeSpec := { name := "classRanges", fn := fun _ => fun
  | [d1, d2, d3] => { results := [.lit (.bool true)], args := [d1, d2, d3] }
  | _ => none }
def classRangesRow : OpenClaim := { program := "ythfmjhicmopclaadoor", sum := "fcf417bca0b4a92a3d36d19aab4d03db874de2808aab3dec61afefcb92d04145", func := "univocal/univocallaw01.ClassRanges", spec := "classRanges", unfollowed := true, recurses := true, named := ["math/bits.deBruijn64tab"], apart := false, laid := [("math/bits.deBruijn64tab", laid_math_bits_deBruijn64tab)] }
def ClassRangesSaid : Prop := classRangesRow.holds Tryd.pinned (OpenSpec.ofChange classRangesSpec)

/-- ITS FALSE NEIGHBOUR: 'it returns false'. Refute it at one input. -/
def classRangesWrong : ChangeSpec := { name := "classRanges", fn := fun _ => fun
  | [d1, d2, d3] => { results := [.lit (.bool false)], args := [d1, d2, d3] }
  | _ => none }
def ClassRangesWrongFalsely : Prop := classRangesRow.holds Tryd.pinned (OpenSpec.ofChange classRangesWrong)

/- THE SECOND FORM. 'bulk': how many values and letters a reading holds, each counted each time it is reached (what is shared counts as often as it is met; a slice's spare places count too). A statement '..UptoSaid' is the law's where the arguments, and the package variables that the reading takes, are together of bulk at most 1048576: NARROWER than '..Said'. Prove '..Said' where nothing that the law and all that it calls make is longer than what came in: it says more and counts as full. Else prove '..UptoSaid'. A law counts once. -/
mutual
def uptoBulk {H : Type} : DataW H → Nat
  | .lit (.string bytes) => bytes.length + 1
  | .lit _ => 1
  | .nil => 1
  | .ptr d => uptoBulk d + 1
  | .slice elems spare => uptoBulkAll elems + uptoBulkAll spare + 1
  | .agg parts => uptoBulkAll parts + 1
  | .iface _ d => uptoBulk d + 1
  | .map entries => uptoBulkEntries entries + 1
  | .held _ => 1
def uptoBulkAll {H : Type} : List (DataW H) → Nat
  | [] => 0
  | d :: r => uptoBulk d + uptoBulkAll r
def uptoBulkEntries {H : Type} : List (Lit × DataW H) → Nat
  | [] => 0
  | x :: r => uptoBulkEntry x + uptoBulkEntries r
def uptoBulkEntry {H : Type} : Lit × DataW H → Nat
  | (.string bytes, d) => bytes.length + uptoBulk d + 1
  | (_, d) => uptoBulk d + 1
 end
def uptoSmall : (H : Type) → List (DataW H) → Bool := fun _ ds => decide (uptoBulkAll ds ≤ 1048576)
def OpenSpec.upto (s : _root_.Go.ChangeSpec) : _root_.Go.OpenSpec := { _root_.Go.OpenSpec.ofChange s with cond := some uptoSmall }

/-- 'univocallaw01.ClassCellsMatchReference', WHERE WHAT IT READS IS OF BULK AT MOST 1048576: true; the input reads as it did. -/
def classCellsMatchReferenceUptoRow : OpenClaim := { program := "ythfmjhicmopclaadoor", sum := "fcf417bca0b4a92a3d36d19aab4d03db874de2808aab3dec61afefcb92d04145", func := "univocal/univocallaw01.ClassCellsMatchReference", spec := "classCellsMatchReference", unfollowed := true, recurses := true, named := ["math/bits.deBruijn64tab"], apart := false, laid := [("math/bits.deBruijn64tab", laid_math_bits_deBruijn64tab)], narrowed := true }
def ClassCellsMatchReferenceUptoSaid : Prop := classCellsMatchReferenceUptoRow.holds Tryd.pinned (OpenSpec.upto classCellsMatchReferenceSpec)

/-- 'univocallaw01.ClassBytesInverse', WHERE WHAT IT READS IS OF BULK AT MOST 1048576: true; the input reads as it did. -/
def classBytesInverseUptoRow : OpenClaim := { program := "ythfmjhicmopclaadoor", sum := "fcf417bca0b4a92a3d36d19aab4d03db874de2808aab3dec61afefcb92d04145", func := "univocal/univocallaw01.ClassBytesInverse", spec := "classBytesInverse", unfollowed := true, recurses := true, named := ["math/bits.deBruijn64tab"], apart := false, laid := [("math/bits.deBruijn64tab", laid_math_bits_deBruijn64tab)], narrowed := true }
def ClassBytesInverseUptoSaid : Prop := classBytesInverseUptoRow.holds Tryd.pinned (OpenSpec.upto classBytesInverseSpec)

/-- 'univocallaw01.ClassCellsCoarsest', WHERE WHAT IT READS IS OF BULK AT MOST 1048576: true; the input reads as it did. -/
def classCellsCoarsestUptoRow : OpenClaim := { program := "ythfmjhicmopclaadoor", sum := "fcf417bca0b4a92a3d36d19aab4d03db874de2808aab3dec61afefcb92d04145", func := "univocal/univocallaw01.ClassCellsCoarsest", spec := "classCellsCoarsest", unfollowed := true, recurses := true, named := ["math/bits.deBruijn64tab"], apart := false, laid := [("math/bits.deBruijn64tab", laid_math_bits_deBruijn64tab)], narrowed := true }
def ClassCellsCoarsestUptoSaid : Prop := classCellsCoarsestUptoRow.holds Tryd.pinned (OpenSpec.upto classCellsCoarsestSpec)

/-- 'univocallaw01.ClassMatchesReference', WHERE WHAT IT READS IS OF BULK AT MOST 1048576: true; the input reads as it did. -/
def classMatchesReferenceUptoRow : OpenClaim := { program := "ythfmjhicmopclaadoor", sum := "fcf417bca0b4a92a3d36d19aab4d03db874de2808aab3dec61afefcb92d04145", func := "univocal/univocallaw01.ClassMatchesReference", spec := "classMatchesReference", unfollowed := true, recurses := true, named := ["math/bits.deBruijn64tab"], apart := false, laid := [("math/bits.deBruijn64tab", laid_math_bits_deBruijn64tab)], narrowed := true }
def ClassMatchesReferenceUptoSaid : Prop := classMatchesReferenceUptoRow.holds Tryd.pinned (OpenSpec.upto classMatchesReferenceSpec)

/-- 'univocallaw01.ClassBooleanAlgebra', WHERE WHAT IT READS IS OF BULK AT MOST 1048576: true; the input reads as it did. -/
def classBooleanAlgebraUptoRow : OpenClaim := { program := "ythfmjhicmopclaadoor", sum := "fcf417bca0b4a92a3d36d19aab4d03db874de2808aab3dec61afefcb92d04145", func := "univocal/univocallaw01.ClassBooleanAlgebra", spec := "classBooleanAlgebra", unfollowed := true, recurses := true, named := ["math/bits.deBruijn64tab"], apart := false, laid := [("math/bits.deBruijn64tab", laid_math_bits_deBruijn64tab)], narrowed := true }
def ClassBooleanAlgebraUptoSaid : Prop := classBooleanAlgebraUptoRow.holds Tryd.pinned (OpenSpec.upto classBooleanAlgebraSpec)

/-- 'univocallaw01.ClassMembership', WHERE WHAT IT READS IS OF BULK AT MOST 1048576: true; the input reads as it did. -/
def classMembershipUptoRow : OpenClaim := { program := "ythfmjhicmopclaadoor", sum := "fcf417bca0b4a92a3d36d19aab4d03db874de2808aab3dec61afefcb92d04145", func := "univocal/univocallaw01.ClassMembership", spec := "classMembership", unfollowed := true, recurses := true, named := ["math/bits.deBruijn64tab"], apart := false, laid := [("math/bits.deBruijn64tab", laid_math_bits_deBruijn64tab)], narrowed := true }
def ClassMembershipUptoSaid : Prop := classMembershipUptoRow.holds Tryd.pinned (OpenSpec.upto classMembershipSpec)

/-- 'univocallaw01.ClassCounting', WHERE WHAT IT READS IS OF BULK AT MOST 1048576: true; the input reads as it did. -/
def classCountingUptoRow : OpenClaim := { program := "ythfmjhicmopclaadoor", sum := "fcf417bca0b4a92a3d36d19aab4d03db874de2808aab3dec61afefcb92d04145", func := "univocal/univocallaw01.ClassCounting", spec := "classCounting", unfollowed := true, recurses := true, named := ["math/bits.deBruijn64tab"], apart := false, laid := [("math/bits.deBruijn64tab", laid_math_bits_deBruijn64tab)], narrowed := true }
def ClassCountingUptoSaid : Prop := classCountingUptoRow.holds Tryd.pinned (OpenSpec.upto classCountingSpec)

/-- 'univocallaw01.ClassCellsPartition', WHERE WHAT IT READS IS OF BULK AT MOST 1048576: true; the input reads as it did. -/
def classCellsPartitionUptoRow : OpenClaim := { program := "ythfmjhicmopclaadoor", sum := "fcf417bca0b4a92a3d36d19aab4d03db874de2808aab3dec61afefcb92d04145", func := "univocal/univocallaw01.ClassCellsPartition", spec := "classCellsPartition", unfollowed := true, recurses := true, named := ["math/bits.deBruijn64tab"], apart := false, laid := [("math/bits.deBruijn64tab", laid_math_bits_deBruijn64tab)], narrowed := true }
def ClassCellsPartitionUptoSaid : Prop := classCellsPartitionUptoRow.holds Tryd.pinned (OpenSpec.upto classCellsPartitionSpec)

/-- 'univocallaw01.ClassCellsStable', WHERE WHAT IT READS IS OF BULK AT MOST 1048576: true; the input reads as it did. -/
def classCellsStableUptoRow : OpenClaim := { program := "ythfmjhicmopclaadoor", sum := "fcf417bca0b4a92a3d36d19aab4d03db874de2808aab3dec61afefcb92d04145", func := "univocal/univocallaw01.ClassCellsStable", spec := "classCellsStable", unfollowed := true, recurses := true, named := ["math/bits.deBruijn64tab"], apart := false, laid := [("math/bits.deBruijn64tab", laid_math_bits_deBruijn64tab)], narrowed := true }
def ClassCellsStableUptoSaid : Prop := classCellsStableUptoRow.holds Tryd.pinned (OpenSpec.upto classCellsStableSpec)

/-- 'univocallaw01.ClassRanges', WHERE WHAT IT READS IS OF BULK AT MOST 1048576: true; the input reads as it did. -/
def classRangesUptoRow : OpenClaim := { program := "ythfmjhicmopclaadoor", sum := "fcf417bca0b4a92a3d36d19aab4d03db874de2808aab3dec61afefcb92d04145", func := "univocal/univocallaw01.ClassRanges", spec := "classRanges", unfollowed := true, recurses := true, named := ["math/bits.deBruijn64tab"], apart := false, laid := [("math/bits.deBruijn64tab", laid_math_bits_deBruijn64tab)], narrowed := true }
def ClassRangesUptoSaid : Prop := classRangesUptoRow.holds Tryd.pinned (OpenSpec.upto classRangesSpec)

end Rows
end Go.Proofs.YthfmjhicmopclaaDoor
