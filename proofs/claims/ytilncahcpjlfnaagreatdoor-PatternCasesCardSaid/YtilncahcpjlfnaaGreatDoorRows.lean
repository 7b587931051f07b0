/-
  NARROWER THAN 'FOR EVERY INPUT', by the rows' own cells (each row's printed sentence says how): PatternDisjoint: laid · PatternLanguages: laid · PatternPriority: laid · PatternCases: laid · PatternUnique: laid · PatternDivisions: laid.
  DERIVED. THE GIVEN ROWS OF THIS SEAT. 6 by the template 'for every input the law returns true; each argument reads behind the call as it read before'; 0 by the template 'total and deterministic' (their statements: YtilncahcpjlfnaaGreatDoorTotals.lean).
  GIVEN WITH THE SEED: the statements are not yours to turn. If you find one false, say at which input.
  Laid BY PROGRAM, IN A SANDBOX (cutbox-rows.mjs): the forced cells as the released guide's own fill.sh prints them over the translation bb62e418e72e0f4b… (all of the seat's roots in one cut). By AI agents, Wed Nov 11 2026. No macro, syntax, notation, axiom, sorry.
-/
import Derived.Test.YtilncahcpjlfnaaGreatDoorChecked
import GoSem.Claim
import GoSem.ClaimJoined
import GoSem.ClaimMapViews
import Derived.JoinedTies
import Derived.KernelRfl
namespace Go.Proofs.YtilncahcpjlfnaaGreatDoor
/- THE CELL 'sum', in the pinned program and in every row, IS THE sha256 OF THE DUMP (.gsa) THAT YtilncahcpjlfnaaGreatDoorProg.lean LOADS. Nothing in Lean hashes anything: it is a label: what it is worth is what the hold of that sum in a sandbox is worth. -/
noncomputable def Tryz.pinned : Pinned := { name := "ytilncahcpjlfnaagreatdoor", sum := "bb62e418e72e0f4bacf90998c6a6d07bfe347937818a3494403670615aa23307", checked := Tryz.checked }
namespace Rows
def none {H : Type} : Left H := { results := [], args := [] }

/- WHAT THE LISTED PACKAGE-LEVEL VARIABLES READ AS WHEN THE CALL BEGINS. Each datum BY PROGRAM (the guide's laid-datum.mjs) off the statement by which the dump's own 'gosem.cut.vars' lays the variable. In a bare row this is a premise. The card (YtilncahcpjlfnaaGreatDoorCards.lean) ties it to the program's text. -/
def laid_math_bits_deBruijn64tab {H : Type} : DataW H := .agg [.lit (.int .u8 0), .lit (.int .u8 1), .lit (.int .u8 56), .lit (.int .u8 2), .lit (.int .u8 57), .lit (.int .u8 49), .lit (.int .u8 28), .lit (.int .u8 3), .lit (.int .u8 61), .lit (.int .u8 58), .lit (.int .u8 42), .lit (.int .u8 50), .lit (.int .u8 38), .lit (.int .u8 29), .lit (.int .u8 17), .lit (.int .u8 4), .lit (.int .u8 62), .lit (.int .u8 47), .lit (.int .u8 59), .lit (.int .u8 36), .lit (.int .u8 45), .lit (.int .u8 43), .lit (.int .u8 51), .lit (.int .u8 22), .lit (.int .u8 53), .lit (.int .u8 39), .lit (.int .u8 33), .lit (.int .u8 30), .lit (.int .u8 24), .lit (.int .u8 18), .lit (.int .u8 12), .lit (.int .u8 5), .lit (.int .u8 63), .lit (.int .u8 55), .lit (.int .u8 48), .lit (.int .u8 27), .lit (.int .u8 60), .lit (.int .u8 41), .lit (.int .u8 37), .lit (.int .u8 16), .lit (.int .u8 46), .lit (.int .u8 35), .lit (.int .u8 44), .lit (.int .u8 21), .lit (.int .u8 52), .lit (.int .u8 32), .lit (.int .u8 23), .lit (.int .u8 11), .lit (.int .u8 54), .lit (.int .u8 26), .lit (.int .u8 40), .lit (.int .u8 15), .lit (.int .u8 34), .lit (.int .u8 20), .lit (.int .u8 31), .lit (.int .u8 10), .lit (.int .u8 25), .lit (.int .u8 14), .lit (.int .u8 19), .lit (.int .u8 9), .lit (.int .u8 13), .lit (.int .u8 8), .lit (.int .u8 7), .lit (.int .u8 6)]

/-- 'univocallaw06.PatternDisjoint': WHATEVER THE INPUT: true; the input reads as it did. -/
def patternDisjointSpec : ChangeSpec := { name := "patternDisjoint", fn := fun _ => fun
  | [d] => { results := [.lit (.bool true)], args := [d] }
  | _ => none }
def patternDisjointRow : OpenClaim := { program := "ytilncahcpjlfnaagreatdoor", sum := "bb62e418e72e0f4bacf90998c6a6d07bfe347937818a3494403670615aa23307", func := "univocal/univocallaw06.PatternDisjoint", spec := "patternDisjoint", unfollowed := true, recurses := true, named := ["math/bits.deBruijn64tab"], plainKeys := false, apart := false, laid := [("math/bits.deBruijn64tab", laid_math_bits_deBruijn64tab)] }
def PatternDisjointSaid : Prop := patternDisjointRow.holds Tryz.pinned (OpenSpec.ofChange patternDisjointSpec)

/-- ITS FALSE NEIGHBOUR: 'it returns false'. Refute it at one input. -/
def patternDisjointWrong : ChangeSpec := { name := "patternDisjoint", fn := fun _ => fun
  | [d] => { results := [.lit (.bool false)], args := [d] }
  | _ => none }
def PatternDisjointWrongFalsely : Prop := patternDisjointRow.holds Tryz.pinned (OpenSpec.ofChange patternDisjointWrong)

/-- 'univocallaw06.PatternLanguages': WHATEVER THE INPUT: true; the input reads as it did. -/
def patternLanguagesSpec : ChangeSpec := { name := "patternLanguages", fn := fun _ => fun
  | [d1, d2] => { results := [.lit (.bool true)], args := [d1, d2] }
  | _ => none }
def patternLanguagesRow : OpenClaim := { program := "ytilncahcpjlfnaagreatdoor", sum := "bb62e418e72e0f4bacf90998c6a6d07bfe347937818a3494403670615aa23307", func := "univocal/univocallaw06.PatternLanguages", spec := "patternLanguages", unfollowed := true, recurses := true, named := ["math/bits.deBruijn64tab"], plainKeys := false, apart := false, laid := [("math/bits.deBruijn64tab", laid_math_bits_deBruijn64tab)] }
def PatternLanguagesSaid : Prop := patternLanguagesRow.holds Tryz.pinned (OpenSpec.ofChange patternLanguagesSpec)

/-- ITS FALSE NEIGHBOUR: 'it returns false'. Refute it at one input. -/
def patternLanguagesWrong : ChangeSpec := { name := "patternLanguages", fn := fun _ => fun
  | [d1, d2] => { results := [.lit (.bool false)], args := [d1, d2] }
  | _ => none }
def PatternLanguagesWrongFalsely : Prop := patternLanguagesRow.holds Tryz.pinned (OpenSpec.ofChange patternLanguagesWrong)

/-- 'univocallaw06.PatternPriority': WHATEVER THE INPUT: true; the input reads as it did. -/
def patternPrioritySpec : ChangeSpec := { name := "patternPriority", fn := fun _ => fun
  | [d1, d2, d3] => { results := [.lit (.bool true)], args := [d1, d2, d3] }
  | _ => none }
def patternPriorityRow : OpenClaim := { program := "ytilncahcpjlfnaagreatdoor", sum := "bb62e418e72e0f4bacf90998c6a6d07bfe347937818a3494403670615aa23307", func := "univocal/univocallaw06.PatternPriority", spec := "patternPriority", unfollowed := true, recurses := true, named := ["math/bits.deBruijn64tab"], plainKeys := false, apart := false, laid := [("math/bits.deBruijn64tab", laid_math_bits_deBruijn64tab)] }
def PatternPrioritySaid : Prop := patternPriorityRow.holds Tryz.pinned (OpenSpec.ofChange patternPrioritySpec)

/-- ITS FALSE NEIGHBOUR: 'it returns false'. Refute it at one input. -/
def patternPriorityWrong : ChangeSpec := { name := "patternPriority", fn := fun _ => fun
  | [d1, d2, d3] => { results := [.lit (.bool false)], args := [d1, d2, d3] }
  | _ => none }
def PatternPriorityWrongFalsely : Prop := patternPriorityRow.holds Tryz.pinned (OpenSpec.ofChange patternPriorityWrong)

/-- 'univocallaw06.PatternCases': WHATEVER THE INPUT: true; the input reads as it did. -/
def patternCasesSpec : ChangeSpec := { name := "patternCases", fn := fun _ => fun
  | [d1, d2] => { results := [.lit (.bool true)], args := [d1, d2] }
  | _ => none }
def patternCasesRow : OpenClaim := { program := "ytilncahcpjlfnaagreatdoor", sum := "bb62e418e72e0f4bacf90998c6a6d07bfe347937818a3494403670615aa23307", func := "univocal/univocallaw06.PatternCases", spec := "patternCases", unfollowed := true, recurses := true, named := ["math/bits.deBruijn64tab"], plainKeys := false, apart := false, laid := [("math/bits.deBruijn64tab", laid_math_bits_deBruijn64tab)] }
def PatternCasesSaid : Prop := patternCasesRow.holds Tryz.pinned (OpenSpec.ofChange patternCasesSpec)

/-- ITS FALSE NEIGHBOUR: 'it returns false'. Refute it at one input. -/
def patternCasesWrong : ChangeSpec := { name := "patternCases", fn := fun _ => fun
  | [d1, d2] => { results := [.lit (.bool false)], args := [d1, d2] }
  | _ => none }
def PatternCasesWrongFalsely : Prop := patternCasesRow.holds Tryz.pinned (OpenSpec.ofChange patternCasesWrong)

/-- 'univocallaw06.PatternUnique': WHATEVER THE INPUT: true; the input reads as it did. -/
def patternUniqueSpec : ChangeSpec := { name := "patternUnique", fn := fun _ => fun
  | [d1, d2, d3] => { results := [.lit (.bool true)], args := [d1, d2, d3] }
  | _ => none }
def patternUniqueRow : OpenClaim := { program := "ytilncahcpjlfnaagreatdoor", sum := "bb62e418e72e0f4bacf90998c6a6d07bfe347937818a3494403670615aa23307", func := "univocal/univocallaw06.PatternUnique", spec := "patternUnique", unfollowed := true, recurses := true, named := ["math/bits.deBruijn64tab"], plainKeys := false, apart := false, laid := [("math/bits.deBruijn64tab", laid_math_bits_deBruijn64tab)] }
def PatternUniqueSaid : Prop := patternUniqueRow.holds Tryz.pinned (OpenSpec.ofChange patternUniqueSpec)

/-- ITS FALSE NEIGHBOUR: 'it returns false'. Refute it at one input. -/
def patternUniqueWrong : ChangeSpec := { name := "patternUnique", fn := fun _ => fun
  | [d1, d2, d3] => { results := [.lit (.bool false)], args := [d1, d2, d3] }
  | _ => none }
def PatternUniqueWrongFalsely : Prop := patternUniqueRow.holds Tryz.pinned (OpenSpec.ofChange patternUniqueWrong)

/-- 'univocallaw06.PatternDivisions': WHATEVER THE INPUT: true; the input reads as it did. -/
def patternDivisionsSpec : ChangeSpec := { name := "patternDivisions", fn := fun _ => fun
  | [d1, d2] => { results := [.lit (.bool true)], args := [d1, d2] }
  | _ => none }
def patternDivisionsRow : OpenClaim := { program := "ytilncahcpjlfnaagreatdoor", sum := "bb62e418e72e0f4bacf90998c6a6d07bfe347937818a3494403670615aa23307", func := "univocal/univocallaw06.PatternDivisions", spec := "patternDivisions", unfollowed := true, recurses := true, named := ["math/bits.deBruijn64tab"], plainKeys := false, apart := false, laid := [("math/bits.deBruijn64tab", laid_math_bits_deBruijn64tab)] }
def PatternDivisionsSaid : Prop := patternDivisionsRow.holds Tryz.pinned (OpenSpec.ofChange patternDivisionsSpec)

/-- ITS FALSE NEIGHBOUR: 'it returns false'. Refute it at one input. -/
def patternDivisionsWrong : ChangeSpec := { name := "patternDivisions", fn := fun _ => fun
  | [d1, d2] => { results := [.lit (.bool false)], args := [d1, d2] }
  | _ => none }
def PatternDivisionsWrongFalsely : Prop := patternDivisionsRow.holds Tryz.pinned (OpenSpec.ofChange patternDivisionsWrong)

/- THE SECOND FORM. 'bulk': how many values and letters a reading holds, each counted each time it is reached (what is shared counts as often as it is met; a slice's spare places count too). A statement '..UptoSaid' is the law's where the arguments, and the package variables that the reading takes, are together of bulk at most 1048576: NARROWER than '..Said'. Prove '..Said' where nothing that the law and all that it calls make is longer than what came in: it says more and counts as full. Else prove '..UptoSaid'. A law counts once. -/
mutual
def uptoBulk {H : Type} : DataW H → Nat
  | .lit (.string bytes) => bytes.length + 1
  | .lit _ => 1
  | .nil => 1
  | .ptr d => uptoBulk d + 1
  | .slice elems spare => uptoBulkAll elems + uptoBulkAll spare + 1
  | .agg parts => uptoBulkAll parts + 1
  | .iface _ d => uptoBulk d + 1
  | .map entries => uptoBulkEntries entries + 1
  | .held _ => 1
def uptoBulkAll {H : Type} : List (DataW H) → Nat
  | [] => 0
  | d :: r => uptoBulk d + uptoBulkAll r
def uptoBulkEntries {H : Type} : List (Lit × DataW H) → Nat
  | [] => 0
  | x :: r => uptoBulkEntry x + uptoBulkEntries r
def uptoBulkEntry {H : Type} : Lit × DataW H → Nat
  | (.string bytes, d) => bytes.length + uptoBulk d + 1
  | (_, d) => uptoBulk d + 1
 end
def uptoSmall : (H : Type) → List (DataW H) → Bool := fun _ ds => decide (uptoBulkAll ds ≤ 1048576)
def OpenSpec.upto (s : _root_.Go.ChangeSpec) : _root_.Go.OpenSpec := { _root_.Go.OpenSpec.ofChange s with cond := some uptoSmall }

/-- 'univocallaw06.PatternDisjoint', WHERE WHAT IT READS IS OF BULK AT MOST 1048576: true; the input reads as it did. -/
def patternDisjointUptoRow : OpenClaim := { program := "ytilncahcpjlfnaagreatdoor", sum := "bb62e418e72e0f4bacf90998c6a6d07bfe347937818a3494403670615aa23307", func := "univocal/univocallaw06.PatternDisjoint", spec := "patternDisjoint", unfollowed := true, recurses := true, named := ["math/bits.deBruijn64tab"], plainKeys := false, apart := false, laid := [("math/bits.deBruijn64tab", laid_math_bits_deBruijn64tab)], narrowed := true }
def PatternDisjointUptoSaid : Prop := patternDisjointUptoRow.holds Tryz.pinned (OpenSpec.upto patternDisjointSpec)

/-- 'univocallaw06.PatternLanguages', WHERE WHAT IT READS IS OF BULK AT MOST 1048576: true; the input reads as it did. -/
def patternLanguagesUptoRow : OpenClaim := { program := "ytilncahcpjlfnaagreatdoor", sum := "bb62e418e72e0f4bacf90998c6a6d07bfe347937818a3494403670615aa23307", func := "univocal/univocallaw06.PatternLanguages", spec := "patternLanguages", unfollowed := true, recurses := true, named := ["math/bits.deBruijn64tab"], plainKeys := false, apart := false, laid := [("math/bits.deBruijn64tab", laid_math_bits_deBruijn64tab)], narrowed := true }
def PatternLanguagesUptoSaid : Prop := patternLanguagesUptoRow.holds Tryz.pinned (OpenSpec.upto patternLanguagesSpec)

/-- 'univocallaw06.PatternPriority', WHERE WHAT IT READS IS OF BULK AT MOST 1048576: true; the input reads as it did. -/
def patternPriorityUptoRow : OpenClaim := { program := "ytilncahcpjlfnaagreatdoor", sum := "bb62e418e72e0f4bacf90998c6a6d07bfe347937818a3494403670615aa23307", func := "univocal/univocallaw06.PatternPriority", spec := "patternPriority", unfollowed := true, recurses := true, named := ["math/bits.deBruijn64tab"], plainKeys := false, apart := false, laid := [("math/bits.deBruijn64tab", laid_math_bits_deBruijn64tab)], narrowed := true }
def PatternPriorityUptoSaid : Prop := patternPriorityUptoRow.holds Tryz.pinned (OpenSpec.upto patternPrioritySpec)

/-- 'univocallaw06.PatternCases', WHERE WHAT IT READS IS OF BULK AT MOST 1048576: true; the input reads as it did. -/
def patternCasesUptoRow : OpenClaim := { program := "ytilncahcpjlfnaagreatdoor", sum := "bb62e418e72e0f4bacf90998c6a6d07bfe347937818a3494403670615aa23307", func := "univocal/univocallaw06.PatternCases", spec := "patternCases", unfollowed := true, recurses := true, named := ["math/bits.deBruijn64tab"], plainKeys := false, apart := false, laid := [("math/bits.deBruijn64tab", laid_math_bits_deBruijn64tab)], narrowed := true }
def PatternCasesUptoSaid : Prop := patternCasesUptoRow.holds Tryz.pinned (OpenSpec.upto patternCasesSpec)

/-- 'univocallaw06.PatternUnique', WHERE WHAT IT READS IS OF BULK AT MOST 1048576: true; the input reads as it did. -/
def patternUniqueUptoRow : OpenClaim := { program := "ytilncahcpjlfnaagreatdoor", sum := "bb62e418e72e0f4bacf90998c6a6d07bfe347937818a3494403670615aa23307", func := "univocal/univocallaw06.PatternUnique", spec := "patternUnique", unfollowed := true, recurses := true, named := ["math/bits.deBruijn64tab"], plainKeys := false, apart := false, laid := [("math/bits.deBruijn64tab", laid_math_bits_deBruijn64tab)], narrowed := true }
def PatternUniqueUptoSaid : Prop := patternUniqueUptoRow.holds Tryz.pinned (OpenSpec.upto patternUniqueSpec)

/-- 'univocallaw06.PatternDivisions', WHERE WHAT IT READS IS OF BULK AT MOST 1048576: true; the input reads as it did. -/
def patternDivisionsUptoRow : OpenClaim := { program := "ytilncahcpjlfnaagreatdoor", sum := "bb62e418e72e0f4bacf90998c6a6d07bfe347937818a3494403670615aa23307", func := "univocal/univocallaw06.PatternDivisions", spec := "patternDivisions", unfollowed := true, recurses := true, named := ["math/bits.deBruijn64tab"], plainKeys := false, apart := false, laid := [("math/bits.deBruijn64tab", laid_math_bits_deBruijn64tab)], narrowed := true }
def PatternDivisionsUptoSaid : Prop := patternDivisionsUptoRow.holds Tryz.pinned (OpenSpec.upto patternDivisionsSpec)

end Rows
end Go.Proofs.YtilncahcpjlfnaaGreatDoor
