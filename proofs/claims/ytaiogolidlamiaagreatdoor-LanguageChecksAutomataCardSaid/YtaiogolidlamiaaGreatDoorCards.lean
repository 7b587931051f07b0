/-
  DERIVED. GIVEN WITH THE SEED: THE CARDS: each row of YtaiogolidlamiaaGreatDoorRows.lean that lists a variable, with what it lists TIED to the program's text (the seventh form; the later family's looks); each row that meets fmt, with fmt's text TOLD by the authors' own Lean function (tested against real Go, not proved from fmt's source: count such statements apart). THE CARD IS WHAT COUNTS. Prove the row's statement (the work); the ties are given (YtaiogolidlamiaaGreatDoorTie.lean); close each card by the builder's one call (the guide's Derived/Test/ToyasCard.lean, 'card_holds'). Laid BY PROGRAM, IN A SANDBOX (cutbox-door.mjs). By AI agents, Wed Nov 11 2026. No macro, syntax, notation, axiom, sorry.
-/
import Derived.Test.YtaiogolidlamiaaGreatDoorRows
import GoSem.ClaimSeven
namespace Go.Proofs.YtaiogolidlamiaaGreatDoor
namespace Rows

/-- THE TIED CARD OF 'univocallaw04.LanguageMatchesReference'. -/
def languageMatchesReferenceCard : Claim7 := { stood := { row := languageMatchesReferenceRow, standIns := [], harness := (true, "a9f3c784514f067f926e840f5a96c85fb2d64baf465e3d84c2f06422f2855f3c"), looks := false }, kinds := [], alts := [], laidByText := true, laidKinds := [.data], laidTests := true, laidLooks := .later }
def LanguageMatchesReferenceCardSaid : Prop := Claim7.holds Tryz.pinned (.plain (OpenSpec.ofChange languageMatchesReferenceSpec)) languageMatchesReferenceCard

/-- THE TIED CARD OF 'univocallaw04.LanguageChecksAutomata'. -/
def languageChecksAutomataCard : Claim7 := { stood := { row := languageChecksAutomataRow, standIns := [], harness := (true, "a9f3c784514f067f926e840f5a96c85fb2d64baf465e3d84c2f06422f2855f3c"), looks := false }, kinds := [], alts := [], laidByText := true, laidKinds := [.data], laidTests := true, laidLooks := .later }
def LanguageChecksAutomataCardSaid : Prop := Claim7.holds Tryz.pinned (.plain (OpenSpec.ofChange languageChecksAutomataSpec)) languageChecksAutomataCard

/-- THE TIED CARD OF 'univocallaw04.LanguageQuotients'. -/
def languageQuotientsCard : Claim7 := { stood := { row := languageQuotientsRow, standIns := [], harness := (true, "a9f3c784514f067f926e840f5a96c85fb2d64baf465e3d84c2f06422f2855f3c"), looks := false }, kinds := [], alts := [], laidByText := true, laidKinds := [.data], laidTests := true, laidLooks := .later }
def LanguageQuotientsCardSaid : Prop := Claim7.holds Tryz.pinned (.plain (OpenSpec.ofChange languageQuotientsSpec)) languageQuotientsCard

/-- THE TIED CARD OF 'univocallaw04.LanguageReversal'. -/
def languageReversalCard : Claim7 := { stood := { row := languageReversalRow, standIns := [], harness := (true, "a9f3c784514f067f926e840f5a96c85fb2d64baf465e3d84c2f06422f2855f3c"), looks := false }, kinds := [], alts := [], laidByText := true, laidKinds := [.data], laidTests := true, laidLooks := .later }
def LanguageReversalCardSaid : Prop := Claim7.holds Tryz.pinned (.plain (OpenSpec.ofChange languageReversalSpec)) languageReversalCard

/-- THE TIED CARD OF 'univocallaw04.LanguageCounting'. -/
def languageCountingCard : Claim7 := { stood := { row := languageCountingRow, standIns := [], harness := (true, "a9f3c784514f067f926e840f5a96c85fb2d64baf465e3d84c2f06422f2855f3c"), looks := false }, kinds := [], alts := [], laidByText := true, laidKinds := [.data], laidTests := true, laidLooks := .later }
def LanguageCountingCardSaid : Prop := Claim7.holds Tryz.pinned (.plain (OpenSpec.ofChange languageCountingSpec)) languageCountingCard

/-- THE TIED CARD OF 'univocallaw04.LanguageCanonical'. -/
def languageCanonicalCard : Claim7 := { stood := { row := languageCanonicalRow, standIns := [], harness := (true, "a9f3c784514f067f926e840f5a96c85fb2d64baf465e3d84c2f06422f2855f3c"), looks := false }, kinds := [], alts := [], laidByText := true, laidKinds := [.data], laidTests := true, laidLooks := .later }
def LanguageCanonicalCardSaid : Prop := Claim7.holds Tryz.pinned (.plain (OpenSpec.ofChange languageCanonicalSpec)) languageCanonicalCard

/-- THE TIED CARD OF 'univocallaw04.LanguagePrefixes'. -/
def languagePrefixesCard : Claim7 := { stood := { row := languagePrefixesRow, standIns := [], harness := (true, "a9f3c784514f067f926e840f5a96c85fb2d64baf465e3d84c2f06422f2855f3c"), looks := false }, kinds := [], alts := [], laidByText := true, laidKinds := [.data], laidTests := true, laidLooks := .later }
def LanguagePrefixesCardSaid : Prop := Claim7.holds Tryz.pinned (.plain (OpenSpec.ofChange languagePrefixesSpec)) languagePrefixesCard

/-- THE TIED CARD OF 'univocallaw04.LanguageLists'. -/
def languageListsCard : Claim7 := { stood := { row := languageListsRow, standIns := [], harness := (true, "a9f3c784514f067f926e840f5a96c85fb2d64baf465e3d84c2f06422f2855f3c"), looks := false }, kinds := [], alts := [], laidByText := true, laidKinds := [.data], laidTests := true, laidLooks := .later }
def LanguageListsCardSaid : Prop := Claim7.holds Tryz.pinned (.plain (OpenSpec.ofChange languageListsSpec)) languageListsCard

/-- THE TIED CARD OF 'univocallaw04.LanguageMeaning'. -/
def languageMeaningCard : Claim7 := { stood := { row := languageMeaningRow, standIns := [], harness := (true, "a9f3c784514f067f926e840f5a96c85fb2d64baf465e3d84c2f06422f2855f3c"), looks := false }, kinds := [], alts := [], laidByText := true, laidKinds := [.data], laidTests := true, laidLooks := .later }
def LanguageMeaningCardSaid : Prop := Claim7.holds Tryz.pinned (.plain (OpenSpec.ofChange languageMeaningSpec)) languageMeaningCard

/-- THE SECOND FORM's CARD OF 'univocallaw04.LanguageMatchesReference'. -/
def languageMatchesReferenceUptoCard : Claim7 := { stood := { row := languageMatchesReferenceUptoRow, standIns := [], harness := (true, "a9f3c784514f067f926e840f5a96c85fb2d64baf465e3d84c2f06422f2855f3c"), looks := false }, kinds := [], alts := [], laidByText := true, laidKinds := [.data], laidTests := true, laidLooks := .later }
def LanguageMatchesReferenceUptoCardSaid : Prop := Claim7.holds Tryz.pinned (.plain (OpenSpec.upto languageMatchesReferenceSpec)) languageMatchesReferenceUptoCard

/-- THE SECOND FORM's CARD OF 'univocallaw04.LanguageChecksAutomata'. -/
def languageChecksAutomataUptoCard : Claim7 := { stood := { row := languageChecksAutomataUptoRow, standIns := [], harness := (true, "a9f3c784514f067f926e840f5a96c85fb2d64baf465e3d84c2f06422f2855f3c"), looks := false }, kinds := [], alts := [], laidByText := true, laidKinds := [.data], laidTests := true, laidLooks := .later }
def LanguageChecksAutomataUptoCardSaid : Prop := Claim7.holds Tryz.pinned (.plain (OpenSpec.upto languageChecksAutomataSpec)) languageChecksAutomataUptoCard

/-- THE SECOND FORM's CARD OF 'univocallaw04.LanguageQuotients'. -/
def languageQuotientsUptoCard : Claim7 := { stood := { row := languageQuotientsUptoRow, standIns := [], harness := (true, "a9f3c784514f067f926e840f5a96c85fb2d64baf465e3d84c2f06422f2855f3c"), looks := false }, kinds := [], alts := [], laidByText := true, laidKinds := [.data], laidTests := true, laidLooks := .later }
def LanguageQuotientsUptoCardSaid : Prop := Claim7.holds Tryz.pinned (.plain (OpenSpec.upto languageQuotientsSpec)) languageQuotientsUptoCard

/-- THE SECOND FORM's CARD OF 'univocallaw04.LanguageReversal'. -/
def languageReversalUptoCard : Claim7 := { stood := { row := languageReversalUptoRow, standIns := [], harness := (true, "a9f3c784514f067f926e840f5a96c85fb2d64baf465e3d84c2f06422f2855f3c"), looks := false }, kinds := [], alts := [], laidByText := true, laidKinds := [.data], laidTests := true, laidLooks := .later }
def LanguageReversalUptoCardSaid : Prop := Claim7.holds Tryz.pinned (.plain (OpenSpec.upto languageReversalSpec)) languageReversalUptoCard

/-- THE SECOND FORM's CARD OF 'univocallaw04.LanguageCounting'. -/
def languageCountingUptoCard : Claim7 := { stood := { row := languageCountingUptoRow, standIns := [], harness := (true, "a9f3c784514f067f926e840f5a96c85fb2d64baf465e3d84c2f06422f2855f3c"), looks := false }, kinds := [], alts := [], laidByText := true, laidKinds := [.data], laidTests := true, laidLooks := .later }
def LanguageCountingUptoCardSaid : Prop := Claim7.holds Tryz.pinned (.plain (OpenSpec.upto languageCountingSpec)) languageCountingUptoCard

/-- THE SECOND FORM's CARD OF 'univocallaw04.LanguageCanonical'. -/
def languageCanonicalUptoCard : Claim7 := { stood := { row := languageCanonicalUptoRow, standIns := [], harness := (true, "a9f3c784514f067f926e840f5a96c85fb2d64baf465e3d84c2f06422f2855f3c"), looks := false }, kinds := [], alts := [], laidByText := true, laidKinds := [.data], laidTests := true, laidLooks := .later }
def LanguageCanonicalUptoCardSaid : Prop := Claim7.holds Tryz.pinned (.plain (OpenSpec.upto languageCanonicalSpec)) languageCanonicalUptoCard

/-- THE SECOND FORM's CARD OF 'univocallaw04.LanguagePrefixes'. -/
def languagePrefixesUptoCard : Claim7 := { stood := { row := languagePrefixesUptoRow, standIns := [], harness := (true, "a9f3c784514f067f926e840f5a96c85fb2d64baf465e3d84c2f06422f2855f3c"), looks := false }, kinds := [], alts := [], laidByText := true, laidKinds := [.data], laidTests := true, laidLooks := .later }
def LanguagePrefixesUptoCardSaid : Prop := Claim7.holds Tryz.pinned (.plain (OpenSpec.upto languagePrefixesSpec)) languagePrefixesUptoCard

/-- THE SECOND FORM's CARD OF 'univocallaw04.LanguageLists'. -/
def languageListsUptoCard : Claim7 := { stood := { row := languageListsUptoRow, standIns := [], harness := (true, "a9f3c784514f067f926e840f5a96c85fb2d64baf465e3d84c2f06422f2855f3c"), looks := false }, kinds := [], alts := [], laidByText := true, laidKinds := [.data], laidTests := true, laidLooks := .later }
def LanguageListsUptoCardSaid : Prop := Claim7.holds Tryz.pinned (.plain (OpenSpec.upto languageListsSpec)) languageListsUptoCard

/-- THE SECOND FORM's CARD OF 'univocallaw04.LanguageMeaning'. -/
def languageMeaningUptoCard : Claim7 := { stood := { row := languageMeaningUptoRow, standIns := [], harness := (true, "a9f3c784514f067f926e840f5a96c85fb2d64baf465e3d84c2f06422f2855f3c"), looks := false }, kinds := [], alts := [], laidByText := true, laidKinds := [.data], laidTests := true, laidLooks := .later }
def LanguageMeaningUptoCardSaid : Prop := Claim7.holds Tryz.pinned (.plain (OpenSpec.upto languageMeaningSpec)) languageMeaningUptoCard
end Rows
end Go.Proofs.YtaiogolidlamiaaGreatDoor
