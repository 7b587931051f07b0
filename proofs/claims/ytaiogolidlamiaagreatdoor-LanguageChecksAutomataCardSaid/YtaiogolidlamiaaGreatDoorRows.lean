/-
  NARROWER THAN 'FOR EVERY INPUT', by the rows' own cells (each row's printed sentence says how): LanguageMatchesReference: laid · LanguageChecksAutomata: laid · LanguageQuotients: laid · LanguageReversal: laid · LanguageCounting: laid · LanguageCanonical: laid · LanguagePrefixes: laid · LanguageLists: laid · LanguageMeaning: laid.
  DERIVED. THE GIVEN ROWS OF THIS SEAT. 9 by the template 'for every input the law returns true; each argument reads behind the call as it read before'; 0 by the template 'total and deterministic' (their statements: YtaiogolidlamiaaGreatDoorTotals.lean).
  GIVEN WITH THE SEED: the statements are not yours to turn. If you find one false, say at which input.
  Laid BY PROGRAM, IN A SANDBOX (cutbox-rows.mjs): the forced cells as the released guide's own fill.sh prints them over the translation 02639dc6b523fc6d… (all of the seat's roots in one cut). By AI agents, Wed Nov 11 2026. No macro, syntax, notation, axiom, sorry.
-/
import Derived.Test.YtaiogolidlamiaaGreatDoorChecked
import GoSem.Claim
import GoSem.ClaimJoined
import GoSem.ClaimMapViews
import Derived.JoinedTies
import Derived.KernelRfl
namespace Go.Proofs.YtaiogolidlamiaaGreatDoor
/- THE CELL 'sum', in the pinned program and in every row, IS THE sha256 OF THE DUMP (.gsa) THAT YtaiogolidlamiaaGreatDoorProg.lean LOADS. Nothing in Lean hashes anything: it is a label: what it is worth is what the hold of that sum in a sandbox is worth. -/
noncomputable def Tryz.pinned : Pinned := { name := "ytaiogolidlamiaagreatdoor", sum := "02639dc6b523fc6dc354230934dcff917ffba217b22cdd98a876407c7ba682d5", checked := Tryz.checked }
namespace Rows
def none {H : Type} : Left H := { results := [], args := [] }

/- WHAT THE LISTED PACKAGE-LEVEL VARIABLES READ AS WHEN THE CALL BEGINS. Each datum BY PROGRAM (the guide's laid-datum.mjs) off the statement by which the dump's own 'gosem.cut.vars' lays the variable. In a bare row this is a premise. The card (YtaiogolidlamiaaGreatDoorCards.lean) ties it to the program's text. -/
def laid_math_bits_deBruijn64tab {H : Type} : DataW H := .agg [.lit (.int .u8 0), .lit (.int .u8 1), .lit (.int .u8 56), .lit (.int .u8 2), .lit (.int .u8 57), .lit (.int .u8 49), .lit (.int .u8 28), .lit (.int .u8 3), .lit (.int .u8 61), .lit (.int .u8 58), .lit (.int .u8 42), .lit (.int .u8 50), .lit (.int .u8 38), .lit (.int .u8 29), .lit (.int .u8 17), .lit (.int .u8 4), .lit (.int .u8 62), .lit (.int .u8 47), .lit (.int .u8 59), .lit (.int .u8 36), .lit (.int .u8 45), .lit (.int .u8 43), .lit (.int .u8 51), .lit (.int .u8 22), .lit (.int .u8 53), .lit (.int .u8 39), .lit (.int .u8 33), .lit (.int .u8 30), .lit (.int .u8 24), .lit (.int .u8 18), .lit (.int .u8 12), .lit (.int .u8 5), .lit (.int .u8 63), .lit (.int .u8 55), .lit (.int .u8 48), .lit (.int .u8 27), .lit (.int .u8 60), .lit (.int .u8 41), .lit (.int .u8 37), .lit (.int .u8 16), .lit (.int .u8 46), .lit (.int .u8 35), .lit (.int .u8 44), .lit (.int .u8 21), .lit (.int .u8 52), .lit (.int .u8 32), .lit (.int .u8 23), .lit (.int .u8 11), .lit (.int .u8 54), .lit (.int .u8 26), .lit (.int .u8 40), .lit (.int .u8 15), .lit (.int .u8 34), .lit (.int .u8 20), .lit (.int .u8 31), .lit (.int .u8 10), .lit (.int .u8 25), .lit (.int .u8 14), .lit (.int .u8 19), .lit (.int .u8 9), .lit (.int .u8 13), .lit (.int .u8 8), .lit (.int .u8 7), .lit (.int .u8 6)]

/-- 'univocallaw04.LanguageMatchesReference': WHATEVER THE INPUT: true; the input reads as it did. -/
def languageMatchesReferenceSpec : ChangeSpec := { name := "languageMatchesReference", fn := fun _ => fun
  | [d1, d2, d3] => { results := [.lit (.bool true)], args := [d1, d2, d3] }
  | _ => none }
def languageMatchesReferenceRow : OpenClaim := { program := "ytaiogolidlamiaagreatdoor", sum := "02639dc6b523fc6dc354230934dcff917ffba217b22cdd98a876407c7ba682d5", func := "univocal/univocallaw04.LanguageMatchesReference", spec := "languageMatchesReference", unfollowed := true, recurses := true, named := ["math/bits.deBruijn64tab"], plainKeys := false, apart := false, laid := [("math/bits.deBruijn64tab", laid_math_bits_deBruijn64tab)] }
def LanguageMatchesReferenceSaid : Prop := languageMatchesReferenceRow.holds Tryz.pinned (OpenSpec.ofChange languageMatchesReferenceSpec)

/-- ITS FALSE NEIGHBOUR: 'it returns false'. Refute it at one input. -/
def languageMatchesReferenceWrong : ChangeSpec := { name := "languageMatchesReference", fn := fun _ => fun
  | [d1, d2, d3] => { results := [.lit (.bool false)], args := [d1, d2, d3] }
  | _ => none }
def LanguageMatchesReferenceWrongFalsely : Prop := languageMatchesReferenceRow.holds Tryz.pinned (OpenSpec.ofChange languageMatchesReferenceWrong)

/-- 'univocallaw04.LanguageChecksAutomata': WHATEVER THE INPUT: true; the input reads as it did. -/
def languageChecksAutomataSpec : ChangeSpec := { name := "languageChecksAutomata", fn := fun _ => fun
  | [d1, d2] => { results := [.lit (.bool true)], args := [d1, d2] }
  | _ => none }
def languageChecksAutomataRow : OpenClaim := { program := "ytaiogolidlamiaagreatdoor", sum := "02639dc6b523fc6dc354230934dcff917ffba217b22cdd98a876407c7ba682d5", func := "univocal/univocallaw04.LanguageChecksAutomata", spec := "languageChecksAutomata", unfollowed := true, recurses := true, named := ["math/bits.deBruijn64tab"], plainKeys := false, apart := false, laid := [("math/bits.deBruijn64tab", laid_math_bits_deBruijn64tab)] }
def LanguageChecksAutomataSaid : Prop := languageChecksAutomataRow.holds Tryz.pinned (OpenSpec.ofChange languageChecksAutomataSpec)

/-- ITS FALSE NEIGHBOUR: 'it returns false'. Refute it at one input. -/
def languageChecksAutomataWrong : ChangeSpec := { name := "languageChecksAutomata", fn := fun _ => fun
  | [d1, d2] => { results := [.lit (.bool false)], args := [d1, d2] }
  | _ => none }
def LanguageChecksAutomataWrongFalsely : Prop := languageChecksAutomataRow.holds Tryz.pinned (OpenSpec.ofChange languageChecksAutomataWrong)

/-- 'univocallaw04.LanguageQuotients': WHATEVER THE INPUT: true; the input reads as it did. -/
def languageQuotientsSpec : ChangeSpec := { name := "languageQuotients", fn := fun _ => fun
  | [d1, d2, d3] => { results := [.lit (.bool true)], args := [d1, d2, d3] }
  | _ => none }
def languageQuotientsRow : OpenClaim := { program := "ytaiogolidlamiaagreatdoor", sum := "02639dc6b523fc6dc354230934dcff917ffba217b22cdd98a876407c7ba682d5", func := "univocal/univocallaw04.LanguageQuotients", spec := "languageQuotients", unfollowed := true, recurses := true, named := ["math/bits.deBruijn64tab"], plainKeys := false, apart := false, laid := [("math/bits.deBruijn64tab", laid_math_bits_deBruijn64tab)] }
def LanguageQuotientsSaid : Prop := languageQuotientsRow.holds Tryz.pinned (OpenSpec.ofChange languageQuotientsSpec)

/-- ITS FALSE NEIGHBOUR: 'it returns false'. Refute it at one input. -/
def languageQuotientsWrong : ChangeSpec := { name := "languageQuotients", fn := fun _ => fun
  | [d1, d2, d3] => { results := [.lit (.bool false)], args := [d1, d2, d3] }
  | _ => none }
def LanguageQuotientsWrongFalsely : Prop := languageQuotientsRow.holds Tryz.pinned (OpenSpec.ofChange languageQuotientsWrong)

/-- 'univocallaw04.LanguageReversal': WHATEVER THE INPUT: true; the input reads as it did. -/
def languageReversalSpec : ChangeSpec := { name := "languageReversal", fn := fun _ => fun
  | [d1, d2, d3] => { results := [.lit (.bool true)], args := [d1, d2, d3] }
  | _ => none }
def languageReversalRow : OpenClaim := { program := "ytaiogolidlamiaagreatdoor", sum := "02639dc6b523fc6dc354230934dcff917ffba217b22cdd98a876407c7ba682d5", func := "univocal/univocallaw04.LanguageReversal", spec := "languageReversal", unfollowed := true, recurses := true, named := ["math/bits.deBruijn64tab"], plainKeys := false, apart := false, laid := [("math/bits.deBruijn64tab", laid_math_bits_deBruijn64tab)] }
def LanguageReversalSaid : Prop := languageReversalRow.holds Tryz.pinned (OpenSpec.ofChange languageReversalSpec)

/-- ITS FALSE NEIGHBOUR: 'it returns false'. Refute it at one input. -/
def languageReversalWrong : ChangeSpec := { name := "languageReversal", fn := fun _ => fun
  | [d1, d2, d3] => { results := [.lit (.bool false)], args := [d1, d2, d3] }
  | _ => none }
def LanguageReversalWrongFalsely : Prop := languageReversalRow.holds Tryz.pinned (OpenSpec.ofChange languageReversalWrong)

/-- 'univocallaw04.LanguageCounting': WHATEVER THE INPUT: true; the input reads as it did. -/
def languageCountingSpec : ChangeSpec := { name := "languageCounting", fn := fun _ => fun
  | [d1, d2, d3] => { results := [.lit (.bool true)], args := [d1, d2, d3] }
  | _ => none }
def languageCountingRow : OpenClaim := { program := "ytaiogolidlamiaagreatdoor", sum := "02639dc6b523fc6dc354230934dcff917ffba217b22cdd98a876407c7ba682d5", func := "univocal/univocallaw04.LanguageCounting", spec := "languageCounting", unfollowed := true, recurses := true, named := ["math/bits.deBruijn64tab"], plainKeys := false, apart := false, laid := [("math/bits.deBruijn64tab", laid_math_bits_deBruijn64tab)] }
def LanguageCountingSaid : Prop := languageCountingRow.holds Tryz.pinned (OpenSpec.ofChange languageCountingSpec)

/-- ITS FALSE NEIGHBOUR: 'it returns false'. Refute it at one input. -/
def languageCountingWrong : ChangeSpec := { name := "languageCounting", fn := fun _ => fun
  | [d1, d2, d3] => { results := [.lit (.bool false)], args := [d1, d2, d3] }
  | _ => none }
def LanguageCountingWrongFalsely : Prop := languageCountingRow.holds Tryz.pinned (OpenSpec.ofChange languageCountingWrong)

/-- 'univocallaw04.LanguageCanonical': WHATEVER THE INPUT: true; the input reads as it did. -/
def languageCanonicalSpec : ChangeSpec := { name := "languageCanonical", fn := fun _ => fun
  | [d1, d2] => { results := [.lit (.bool true)], args := [d1, d2] }
  | _ => none }
def languageCanonicalRow : OpenClaim := { program := "ytaiogolidlamiaagreatdoor", sum := "02639dc6b523fc6dc354230934dcff917ffba217b22cdd98a876407c7ba682d5", func := "univocal/univocallaw04.LanguageCanonical", spec := "languageCanonical", unfollowed := true, recurses := true, named := ["math/bits.deBruijn64tab"], plainKeys := false, apart := false, laid := [("math/bits.deBruijn64tab", laid_math_bits_deBruijn64tab)] }
def LanguageCanonicalSaid : Prop := languageCanonicalRow.holds Tryz.pinned (OpenSpec.ofChange languageCanonicalSpec)

/-- ITS FALSE NEIGHBOUR: 'it returns false'. Refute it at one input. -/
def languageCanonicalWrong : ChangeSpec := { name := "languageCanonical", fn := fun _ => fun
  | [d1, d2] => { results := [.lit (.bool false)], args := [d1, d2] }
  | _ => none }
def LanguageCanonicalWrongFalsely : Prop := languageCanonicalRow.holds Tryz.pinned (OpenSpec.ofChange languageCanonicalWrong)

/-- 'univocallaw04.LanguagePrefixes': WHATEVER THE INPUT: true; the input reads as it did. -/
def languagePrefixesSpec : ChangeSpec := { name := "languagePrefixes", fn := fun _ => fun
  | [d1, d2] => { results := [.lit (.bool true)], args := [d1, d2] }
  | _ => none }
def languagePrefixesRow : OpenClaim := { program := "ytaiogolidlamiaagreatdoor", sum := "02639dc6b523fc6dc354230934dcff917ffba217b22cdd98a876407c7ba682d5", func := "univocal/univocallaw04.LanguagePrefixes", spec := "languagePrefixes", unfollowed := true, recurses := true, named := ["math/bits.deBruijn64tab"], plainKeys := false, apart := false, laid := [("math/bits.deBruijn64tab", laid_math_bits_deBruijn64tab)] }
def LanguagePrefixesSaid : Prop := languagePrefixesRow.holds Tryz.pinned (OpenSpec.ofChange languagePrefixesSpec)

/-- ITS FALSE NEIGHBOUR: 'it returns false'. Refute it at one input. -/
def languagePrefixesWrong : ChangeSpec := { name := "languagePrefixes", fn := fun _ => fun
  | [d1, d2] => { results := [.lit (.bool false)], args := [d1, d2] }
  | _ => none }
def LanguagePrefixesWrongFalsely : Prop := languagePrefixesRow.holds Tryz.pinned (OpenSpec.ofChange languagePrefixesWrong)

/-- 'univocallaw04.LanguageLists': WHATEVER THE INPUT: true; the input reads as it did. -/
def languageListsSpec : ChangeSpec := { name := "languageLists", fn := fun _ => fun
  | [d1, d2, d3] => { results := [.lit (.bool true)], args := [d1, d2, d3] }
  | _ => none }
def languageListsRow : OpenClaim := { program := "ytaiogolidlamiaagreatdoor", sum := "02639dc6b523fc6dc354230934dcff917ffba217b22cdd98a876407c7ba682d5", func := "univocal/univocallaw04.LanguageLists", spec := "languageLists", unfollowed := true, recurses := true, named := ["math/bits.deBruijn64tab"], plainKeys := false, apart := false, laid := [("math/bits.deBruijn64tab", laid_math_bits_deBruijn64tab)] }
def LanguageListsSaid : Prop := languageListsRow.holds Tryz.pinned (OpenSpec.ofChange languageListsSpec)

/-- ITS FALSE NEIGHBOUR: 'it returns false'. Refute it at one input. -/
def languageListsWrong : ChangeSpec := { name := "languageLists", fn := fun _ => fun
  | [d1, d2, d3] => { results := [.lit (.bool false)], args := [d1, d2, d3] }
  | _ => none }
def LanguageListsWrongFalsely : Prop := languageListsRow.holds Tryz.pinned (OpenSpec.ofChange languageListsWrong)

/-- 'univocallaw04.LanguageMeaning': WHATEVER THE INPUT: true; the input reads as it did. -/
def languageMeaningSpec : ChangeSpec := { name := "languageMeaning", fn := fun _ => fun
  | [d1, d2] => { results := [.lit (.bool true)], args := [d1, d2] }
  | _ => none }
def languageMeaningRow : OpenClaim := { program := "ytaiogolidlamiaagreatdoor", sum := "02639dc6b523fc6dc354230934dcff917ffba217b22cdd98a876407c7ba682d5", func := "univocal/univocallaw04.LanguageMeaning", spec := "languageMeaning", unfollowed := true, recurses := true, named := ["math/bits.deBruijn64tab"], plainKeys := false, apart := false, laid := [("math/bits.deBruijn64tab", laid_math_bits_deBruijn64tab)] }
def LanguageMeaningSaid : Prop := languageMeaningRow.holds Tryz.pinned (OpenSpec.ofChange languageMeaningSpec)

/-- ITS FALSE NEIGHBOUR: 'it returns false'. Refute it at one input. -/
def languageMeaningWrong : ChangeSpec := { name := "languageMeaning", fn := fun _ => fun
  | [d1, d2] => { results := [.lit (.bool false)], args := [d1, d2] }
  | _ => none }
def LanguageMeaningWrongFalsely : Prop := languageMeaningRow.holds Tryz.pinned (OpenSpec.ofChange languageMeaningWrong)

/- THE SECOND FORM. 'bulk': how many values and letters a reading holds, each counted each time it is reached (what is shared counts as often as it is met; a slice's spare places count too). A statement '..UptoSaid' is the law's where the arguments, and the package variables that the reading takes, are together of bulk at most 1048576: NARROWER than '..Said'. Prove '..Said' where nothing that the law and all that it calls make is longer than what came in: it says more and counts as full. Else prove '..UptoSaid'. A law counts once. -/
mutual
def uptoBulk {H : Type} : DataW H → Nat
  | .lit (.string bytes) => bytes.length + 1
  | .lit _ => 1
  | .nil => 1
  | .ptr d => uptoBulk d + 1
  | .slice elems spare => uptoBulkAll elems + uptoBulkAll spare + 1
  | .agg parts => uptoBulkAll parts + 1
  | .iface _ d => uptoBulk d + 1
  | .map entries => uptoBulkEntries entries + 1
  | .held _ => 1
def uptoBulkAll {H : Type} : List (DataW H) → Nat
  | [] => 0
  | d :: r => uptoBulk d + uptoBulkAll r
def uptoBulkEntries {H : Type} : List (Lit × DataW H) → Nat
  | [] => 0
  | x :: r => uptoBulkEntry x + uptoBulkEntries r
def uptoBulkEntry {H : Type} : Lit × DataW H → Nat
  | (.string bytes, d) => bytes.length + uptoBulk d + 1
  | (_, d) => uptoBulk d + 1
 end
def uptoSmall : (H : Type) → List (DataW H) → Bool := fun _ ds => decide (uptoBulkAll ds ≤ 1048576)
def OpenSpec.upto (s : _root_.Go.ChangeSpec) : _root_.Go.OpenSpec := { _root_.Go.OpenSpec.ofChange s with cond := some uptoSmall }

/-- 'univocallaw04.LanguageMatchesReference', WHERE WHAT IT READS IS OF BULK AT MOST 1048576: true; the input reads as it did. -/
def languageMatchesReferenceUptoRow : OpenClaim := { program := "ytaiogolidlamiaagreatdoor", sum := "02639dc6b523fc6dc354230934dcff917ffba217b22cdd98a876407c7ba682d5", func := "univocal/univocallaw04.LanguageMatchesReference", spec := "languageMatchesReference", unfollowed := true, recurses := true, named := ["math/bits.deBruijn64tab"], plainKeys := false, apart := false, laid := [("math/bits.deBruijn64tab", laid_math_bits_deBruijn64tab)], narrowed := true }
def LanguageMatchesReferenceUptoSaid : Prop := languageMatchesReferenceUptoRow.holds Tryz.pinned (OpenSpec.upto languageMatchesReferenceSpec)

/-- 'univocallaw04.LanguageChecksAutomata', WHERE WHAT IT READS IS OF BULK AT MOST 1048576: true; the input reads as it did. -/
def languageChecksAutomataUptoRow : OpenClaim := { program := "ytaiogolidlamiaagreatdoor", sum := "02639dc6b523fc6dc354230934dcff917ffba217b22cdd98a876407c7ba682d5", func := "univocal/univocallaw04.LanguageChecksAutomata", spec := "languageChecksAutomata", unfollowed := true, recurses := true, named := ["math/bits.deBruijn64tab"], plainKeys := false, apart := false, laid := [("math/bits.deBruijn64tab", laid_math_bits_deBruijn64tab)], narrowed := true }
def LanguageChecksAutomataUptoSaid : Prop := languageChecksAutomataUptoRow.holds Tryz.pinned (OpenSpec.upto languageChecksAutomataSpec)

/-- 'univocallaw04.LanguageQuotients', WHERE WHAT IT READS IS OF BULK AT MOST 1048576: true; the input reads as it did. -/
def languageQuotientsUptoRow : OpenClaim := { program := "ytaiogolidlamiaagreatdoor", sum := "02639dc6b523fc6dc354230934dcff917ffba217b22cdd98a876407c7ba682d5", func := "univocal/univocallaw04.LanguageQuotients", spec := "languageQuotients", unfollowed := true, recurses := true, named := ["math/bits.deBruijn64tab"], plainKeys := false, apart := false, laid := [("math/bits.deBruijn64tab", laid_math_bits_deBruijn64tab)], narrowed := true }
def LanguageQuotientsUptoSaid : Prop := languageQuotientsUptoRow.holds Tryz.pinned (OpenSpec.upto languageQuotientsSpec)

/-- 'univocallaw04.LanguageReversal', WHERE WHAT IT READS IS OF BULK AT MOST 1048576: true; the input reads as it did. -/
def languageReversalUptoRow : OpenClaim := { program := "ytaiogolidlamiaagreatdoor", sum := "02639dc6b523fc6dc354230934dcff917ffba217b22cdd98a876407c7ba682d5", func := "univocal/univocallaw04.LanguageReversal", spec := "languageReversal", unfollowed := true, recurses := true, named := ["math/bits.deBruijn64tab"], plainKeys := false, apart := false, laid := [("math/bits.deBruijn64tab", laid_math_bits_deBruijn64tab)], narrowed := true }
def LanguageReversalUptoSaid : Prop := languageReversalUptoRow.holds Tryz.pinned (OpenSpec.upto languageReversalSpec)

/-- 'univocallaw04.LanguageCounting', WHERE WHAT IT READS IS OF BULK AT MOST 1048576: true; the input reads as it did. -/
def languageCountingUptoRow : OpenClaim := { program := "ytaiogolidlamiaagreatdoor", sum := "02639dc6b523fc6dc354230934dcff917ffba217b22cdd98a876407c7ba682d5", func := "univocal/univocallaw04.LanguageCounting", spec := "languageCounting", unfollowed := true, recurses := true, named := ["math/bits.deBruijn64tab"], plainKeys := false, apart := false, laid := [("math/bits.deBruijn64tab", laid_math_bits_deBruijn64tab)], narrowed := true }
def LanguageCountingUptoSaid : Prop := languageCountingUptoRow.holds Tryz.pinned (OpenSpec.upto languageCountingSpec)

/-- 'univocallaw04.LanguageCanonical', WHERE WHAT IT READS IS OF BULK AT MOST 1048576: true; the input reads as it did. -/
def languageCanonicalUptoRow : OpenClaim := { program := "ytaiogolidlamiaagreatdoor", sum := "02639dc6b523fc6dc354230934dcff917ffba217b22cdd98a876407c7ba682d5", func := "univocal/univocallaw04.LanguageCanonical", spec := "languageCanonical", unfollowed := true, recurses := true, named := ["math/bits.deBruijn64tab"], plainKeys := false, apart := false, laid := [("math/bits.deBruijn64tab", laid_math_bits_deBruijn64tab)], narrowed := true }
def LanguageCanonicalUptoSaid : Prop := languageCanonicalUptoRow.holds Tryz.pinned (OpenSpec.upto languageCanonicalSpec)

/-- 'univocallaw04.LanguagePrefixes', WHERE WHAT IT READS IS OF BULK AT MOST 1048576: true; the input reads as it did. -/
def languagePrefixesUptoRow : OpenClaim := { program := "ytaiogolidlamiaagreatdoor", sum := "02639dc6b523fc6dc354230934dcff917ffba217b22cdd98a876407c7ba682d5", func := "univocal/univocallaw04.LanguagePrefixes", spec := "languagePrefixes", unfollowed := true, recurses := true, named := ["math/bits.deBruijn64tab"], plainKeys := false, apart := false, laid := [("math/bits.deBruijn64tab", laid_math_bits_deBruijn64tab)], narrowed := true }
def LanguagePrefixesUptoSaid : Prop := languagePrefixesUptoRow.holds Tryz.pinned (OpenSpec.upto languagePrefixesSpec)

/-- 'univocallaw04.LanguageLists', WHERE WHAT IT READS IS OF BULK AT MOST 1048576: true; the input reads as it did. -/
def languageListsUptoRow : OpenClaim := { program := "ytaiogolidlamiaagreatdoor", sum := "02639dc6b523fc6dc354230934dcff917ffba217b22cdd98a876407c7ba682d5", func := "univocal/univocallaw04.LanguageLists", spec := "languageLists", unfollowed := true, recurses := true, named := ["math/bits.deBruijn64tab"], plainKeys := false, apart := false, laid := [("math/bits.deBruijn64tab", laid_math_bits_deBruijn64tab)], narrowed := true }
def LanguageListsUptoSaid : Prop := languageListsUptoRow.holds Tryz.pinned (OpenSpec.upto languageListsSpec)

/-- 'univocallaw04.LanguageMeaning', WHERE WHAT IT READS IS OF BULK AT MOST 1048576: true; the input reads as it did. -/
def languageMeaningUptoRow : OpenClaim := { program := "ytaiogolidlamiaagreatdoor", sum := "02639dc6b523fc6dc354230934dcff917ffba217b22cdd98a876407c7ba682d5", func := "univocal/univocallaw04.LanguageMeaning", spec := "languageMeaning", unfollowed := true, recurses := true, named := ["math/bits.deBruijn64tab"], plainKeys := false, apart := false, laid := [("math/bits.deBruijn64tab", laid_math_bits_deBruijn64tab)], narrowed := true }
def LanguageMeaningUptoSaid : Prop := languageMeaningUptoRow.holds Tryz.pinned (OpenSpec.upto languageMeaningSpec)

end Rows
end Go.Proofs.YtaiogolidlamiaaGreatDoor
