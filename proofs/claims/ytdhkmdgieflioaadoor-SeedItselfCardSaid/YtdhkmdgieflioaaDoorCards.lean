/-
  DERIVED. GIVEN WITH THE SEED: THE CARDS: each row of YtdhkmdgieflioaaDoorRows.lean that lists a variable, with what it lists TIED to the program's text (the seventh form; the later family's looks); each row that meets fmt, with fmt's text TOLD by the authors' own Lean function (tested against real Go, not proved from fmt's source: count such statements apart). THE CARD IS WHAT COUNTS. Prove the row's statement (the work); the ties are given (YtdhkmdgieflioaaDoorTie.lean); close each card by the builder's one call (the guide's Derived/Test/ToyasCard.lean, 'card_holds'). Laid BY PROGRAM, IN A SANDBOX (cutbox-door.mjs). By AI agents, Wed Nov 11 2026. No macro, syntax, notation, axiom, sorry.
-/
import Derived.Test.YtdhkmdgieflioaaDoorRows
import GoSem.ClaimSeven
namespace Go.Proofs.YtdhkmdgieflioaaDoor
namespace Rows

/-- THE TIED CARD OF 'seedcornlaw50.SeedLoads'. -/
def seedLoadsCard : Claim7 := { stood := { row := seedLoadsRow, standIns := [], harness := (true, "32f7f7aec7448378b47f94c14a021b7dc57130e43b4450819b795863dbcbff87"), looks := false }, kinds := [], alts := [], laidByText := true, laidKinds := [.data, .data], laidTests := true, laidLooks := .later }
def SeedLoadsCardSaid : Prop := Claim7.holds Tryd.pinned (.plain (OpenSpec.ofChange seedLoadsSpec)) seedLoadsCard

/-- THE TIED CARD OF 'seedcornlaw50.SeedSmall'. -/
def seedSmallCard : Claim7 := { stood := { row := seedSmallRow, standIns := [], harness := (true, "32f7f7aec7448378b47f94c14a021b7dc57130e43b4450819b795863dbcbff87"), looks := false }, kinds := [], alts := [], laidByText := true, laidKinds := [.data, .data], laidTests := true, laidLooks := .later }
def SeedSmallCardSaid : Prop := Claim7.holds Tryd.pinned (.plain (OpenSpec.ofChange seedSmallSpec)) seedSmallCard

/-- THE TIED CARD OF 'seedcornlaw50.SeedImages'. -/
def seedImagesCard : Claim7 := { stood := { row := seedImagesRow, standIns := [], harness := (true, "32f7f7aec7448378b47f94c14a021b7dc57130e43b4450819b795863dbcbff87"), looks := false }, kinds := [], alts := [], laidByText := true, laidKinds := [.data, .data], laidTests := true, laidLooks := .later }
def SeedImagesCardSaid : Prop := Claim7.holds Tryd.pinned (.plain (OpenSpec.ofChange seedImagesSpec)) seedImagesCard

/-- THE TIED CARD OF 'seedcornlaw50.SeedNotes'. -/
def seedNotesCard : Claim7 := { stood := { row := seedNotesRow, standIns := [], harness := (true, "32f7f7aec7448378b47f94c14a021b7dc57130e43b4450819b795863dbcbff87"), looks := false }, kinds := [], alts := [], laidByText := true, laidKinds := [.data, .data], laidTests := true, laidLooks := .later }
def SeedNotesCardSaid : Prop := Claim7.holds Tryd.pinned (.plain (OpenSpec.ofChange seedNotesSpec)) seedNotesCard

/-- THE TIED CARD OF 'seedcornlaw50.SeedTwo'. -/
def seedTwoCard : Claim7 := { stood := { row := seedTwoRow, standIns := [], harness := (true, "32f7f7aec7448378b47f94c14a021b7dc57130e43b4450819b795863dbcbff87"), looks := false }, kinds := [], alts := [], laidByText := true, laidKinds := [.data, .data], laidTests := true, laidLooks := .later }
def SeedTwoCardSaid : Prop := Claim7.holds Tryd.pinned (.plain (OpenSpec.ofChange seedTwoSpec)) seedTwoCard

/-- THE TIED CARD OF 'seedcornlaw11.ListingGoesOn'. -/
def listingGoesOnCard : Claim7 := { stood := { row := listingGoesOnRow, standIns := [], harness := (true, "32f7f7aec7448378b47f94c14a021b7dc57130e43b4450819b795863dbcbff87"), looks := false }, kinds := [], alts := [], laidByText := true, laidKinds := [.data, .data, .data, .data], laidTests := true, laidLooks := .later }
def ListingGoesOnCardSaid : Prop := Claim7.holds Tryd.pinned (.plain (OpenSpec.ofChange listingGoesOnSpec)) listingGoesOnCard

/-- THE TIED CARD OF 'seedcornlaw07.InstCodes'. -/
def instCodesCard : Claim7 := { stood := { row := instCodesRow, standIns := [], harness := (true, "32f7f7aec7448378b47f94c14a021b7dc57130e43b4450819b795863dbcbff87"), looks := false }, kinds := [], alts := [], laidByText := true, laidKinds := [.data, .data, .data, .data], laidTests := true, laidLooks := .later }
def InstCodesCardSaid : Prop := Claim7.holds Tryd.pinned (.plain (OpenSpec.ofChange instCodesSpec)) instCodesCard

/-- THE TIED CARD OF 'seedcornlaw11.ListingData'. -/
def listingDataCard : Claim7 := { stood := { row := listingDataRow, standIns := [], harness := (true, "32f7f7aec7448378b47f94c14a021b7dc57130e43b4450819b795863dbcbff87"), looks := false }, kinds := [], alts := [], laidByText := true, laidKinds := [.data, .data, .data, .data], laidTests := true, laidLooks := .later }
def ListingDataCardSaid : Prop := Claim7.holds Tryd.pinned (.plain (OpenSpec.ofChange listingDataSpec)) listingDataCard

/-- THE TIED CARD OF 'seedcornlaw07.InstReads'. -/
def instReadsCard : Claim7 := { stood := { row := instReadsRow, standIns := [], harness := (true, "32f7f7aec7448378b47f94c14a021b7dc57130e43b4450819b795863dbcbff87"), looks := false }, kinds := [], alts := [], laidByText := true, laidKinds := [.data, .data, .data, .data], laidTests := true, laidLooks := .later }
def InstReadsCardSaid : Prop := Claim7.holds Tryd.pinned (.plain (OpenSpec.ofChange instReadsSpec)) instReadsCard

/-- THE TIED CARD OF 'seedcornlaw07.InstApart'. -/
def instApartCard : Claim7 := { stood := { row := instApartRow, standIns := [], harness := (true, "32f7f7aec7448378b47f94c14a021b7dc57130e43b4450819b795863dbcbff87"), looks := false }, kinds := [], alts := [], laidByText := true, laidKinds := [.data, .data, .data, .data], laidTests := true, laidLooks := .later }
def InstApartCardSaid : Prop := Claim7.holds Tryd.pinned (.plain (OpenSpec.ofChange instApartSpec)) instApartCard

/-- THE TIED CARD OF 'seedcornlaw07.InstFields'. -/
def instFieldsCard : Claim7 := { stood := { row := instFieldsRow, standIns := [], harness := (true, "32f7f7aec7448378b47f94c14a021b7dc57130e43b4450819b795863dbcbff87"), looks := false }, kinds := [], alts := [], laidByText := true, laidKinds := [.data, .data, .data, .data], laidTests := true, laidLooks := .later }
def InstFieldsCardSaid : Prop := Claim7.holds Tryd.pinned (.plain (OpenSpec.ofChange instFieldsSpec)) instFieldsCard

/-- THE TIED CARD OF 'seedcornlaw07.InstCounts'. -/
def instCountsCard : Claim7 := { stood := { row := instCountsRow, standIns := [], harness := (true, "32f7f7aec7448378b47f94c14a021b7dc57130e43b4450819b795863dbcbff87"), looks := false }, kinds := [], alts := [], laidByText := true, laidKinds := [.data, .data, .data, .data], laidTests := true, laidLooks := .later }
def InstCountsCardSaid : Prop := Claim7.holds Tryd.pinned (.plain (OpenSpec.ofChange instCountsSpec)) instCountsCard

/-- THE TIED CARD OF 'seedcornlaw07.InstNames'. -/
def instNamesCard : Claim7 := { stood := { row := instNamesRow, standIns := [], harness := (true, "32f7f7aec7448378b47f94c14a021b7dc57130e43b4450819b795863dbcbff87"), looks := false }, kinds := [], alts := [], laidByText := true, laidKinds := [.data, .data, .data, .data], laidTests := true, laidLooks := .later }
def InstNamesCardSaid : Prop := Claim7.holds Tryd.pinned (.plain (OpenSpec.ofChange instNamesSpec)) instNamesCard

/-- THE TIED CARD OF 'seedcornlaw50.SeedItself'. -/
def seedItselfCard : Claim7 := { stood := { row := seedItselfRow, standIns := [], harness := (true, "32f7f7aec7448378b47f94c14a021b7dc57130e43b4450819b795863dbcbff87"), looks := false }, kinds := [], alts := [], laidByText := true, laidKinds := [.data, .data, .data, .data, .data], laidTests := true, laidLooks := .later }
def SeedItselfCardSaid : Prop := Claim7.holds Tryd.pinned (.plain (OpenSpec.ofChange seedItselfSpec)) seedItselfCard

/-- THE TIED CARD OF 'seedcornlaw11.ListingTargets'. -/
def listingTargetsCard : Claim7 := { stood := { row := listingTargetsRow, standIns := [], harness := (true, "32f7f7aec7448378b47f94c14a021b7dc57130e43b4450819b795863dbcbff87"), looks := false }, kinds := [], alts := [], laidByText := true, laidKinds := [.data, .data, .data, .data], laidTests := true, laidLooks := .later }
def ListingTargetsCardSaid : Prop := Claim7.holds Tryd.pinned (.plain (OpenSpec.ofChange listingTargetsSpec)) listingTargetsCard

/-- THE TIED CARD OF 'seedcornlaw11.ListingText'. -/
def listingTextCard : Claim7 := { stood := { row := listingTextRow, standIns := [], harness := (true, "32f7f7aec7448378b47f94c14a021b7dc57130e43b4450819b795863dbcbff87"), looks := false }, kinds := [], alts := [], laidByText := true, laidKinds := [.data, .data, .data, .data], laidTests := true, laidLooks := .later }
def ListingTextCardSaid : Prop := Claim7.holds Tryd.pinned (.plain (OpenSpec.ofChange listingTextSpec)) listingTextCard

/-- THE TIED CARD OF 'seedcornlaw11.ListingLines'. -/
def listingLinesCard : Claim7 := { stood := { row := listingLinesRow, standIns := [], harness := (true, "32f7f7aec7448378b47f94c14a021b7dc57130e43b4450819b795863dbcbff87"), looks := false }, kinds := [], alts := [], laidByText := true, laidKinds := [.data, .data, .data, .data], laidTests := true, laidLooks := .later }
def ListingLinesCardSaid : Prop := Claim7.holds Tryd.pinned (.plain (OpenSpec.ofChange listingLinesSpec)) listingLinesCard

/-- THE TIED CARD OF 'seedcornlaw11.ListingPlaces'. -/
def listingPlacesCard : Claim7 := { stood := { row := listingPlacesRow, standIns := [], harness := (true, "32f7f7aec7448378b47f94c14a021b7dc57130e43b4450819b795863dbcbff87"), looks := false }, kinds := [], alts := [], laidByText := true, laidKinds := [.data, .data, .data, .data], laidTests := true, laidLooks := .later }
def ListingPlacesCardSaid : Prop := Claim7.holds Tryd.pinned (.plain (OpenSpec.ofChange listingPlacesSpec)) listingPlacesCard

/-- THE TIED CARD OF 'seedcornlaw11.ListingApart'. -/
def listingApartCard : Claim7 := { stood := { row := listingApartRow, standIns := [], harness := (true, "32f7f7aec7448378b47f94c14a021b7dc57130e43b4450819b795863dbcbff87"), looks := false }, kinds := [], alts := [], laidByText := true, laidKinds := [.data, .data, .data, .data], laidTests := true, laidLooks := .later }
def ListingApartCardSaid : Prop := Claim7.holds Tryd.pinned (.plain (OpenSpec.ofChange listingApartSpec)) listingApartCard

/-- THE SECOND FORM's CARD OF 'seedcornlaw50.SeedLoads'. -/
def seedLoadsUptoCard : Claim7 := { stood := { row := seedLoadsUptoRow, standIns := [], harness := (true, "32f7f7aec7448378b47f94c14a021b7dc57130e43b4450819b795863dbcbff87"), looks := false }, kinds := [], alts := [], laidByText := true, laidKinds := [.data, .data], laidTests := true, laidLooks := .later }
def SeedLoadsUptoCardSaid : Prop := Claim7.holds Tryd.pinned (.plain (OpenSpec.upto seedLoadsSpec)) seedLoadsUptoCard

/-- THE SECOND FORM's CARD OF 'seedcornlaw50.SeedSmall'. -/
def seedSmallUptoCard : Claim7 := { stood := { row := seedSmallUptoRow, standIns := [], harness := (true, "32f7f7aec7448378b47f94c14a021b7dc57130e43b4450819b795863dbcbff87"), looks := false }, kinds := [], alts := [], laidByText := true, laidKinds := [.data, .data], laidTests := true, laidLooks := .later }
def SeedSmallUptoCardSaid : Prop := Claim7.holds Tryd.pinned (.plain (OpenSpec.upto seedSmallSpec)) seedSmallUptoCard

/-- THE SECOND FORM's CARD OF 'seedcornlaw50.SeedImages'. -/
def seedImagesUptoCard : Claim7 := { stood := { row := seedImagesUptoRow, standIns := [], harness := (true, "32f7f7aec7448378b47f94c14a021b7dc57130e43b4450819b795863dbcbff87"), looks := false }, kinds := [], alts := [], laidByText := true, laidKinds := [.data, .data], laidTests := true, laidLooks := .later }
def SeedImagesUptoCardSaid : Prop := Claim7.holds Tryd.pinned (.plain (OpenSpec.upto seedImagesSpec)) seedImagesUptoCard

/-- THE SECOND FORM's CARD OF 'seedcornlaw50.SeedNotes'. -/
def seedNotesUptoCard : Claim7 := { stood := { row := seedNotesUptoRow, standIns := [], harness := (true, "32f7f7aec7448378b47f94c14a021b7dc57130e43b4450819b795863dbcbff87"), looks := false }, kinds := [], alts := [], laidByText := true, laidKinds := [.data, .data], laidTests := true, laidLooks := .later }
def SeedNotesUptoCardSaid : Prop := Claim7.holds Tryd.pinned (.plain (OpenSpec.upto seedNotesSpec)) seedNotesUptoCard

/-- THE SECOND FORM's CARD OF 'seedcornlaw50.SeedTwo'. -/
def seedTwoUptoCard : Claim7 := { stood := { row := seedTwoUptoRow, standIns := [], harness := (true, "32f7f7aec7448378b47f94c14a021b7dc57130e43b4450819b795863dbcbff87"), looks := false }, kinds := [], alts := [], laidByText := true, laidKinds := [.data, .data], laidTests := true, laidLooks := .later }
def SeedTwoUptoCardSaid : Prop := Claim7.holds Tryd.pinned (.plain (OpenSpec.upto seedTwoSpec)) seedTwoUptoCard

/-- THE SECOND FORM's CARD OF 'seedcornlaw11.ListingGoesOn'. -/
def listingGoesOnUptoCard : Claim7 := { stood := { row := listingGoesOnUptoRow, standIns := [], harness := (true, "32f7f7aec7448378b47f94c14a021b7dc57130e43b4450819b795863dbcbff87"), looks := false }, kinds := [], alts := [], laidByText := true, laidKinds := [.data, .data, .data, .data], laidTests := true, laidLooks := .later }
def ListingGoesOnUptoCardSaid : Prop := Claim7.holds Tryd.pinned (.plain (OpenSpec.upto listingGoesOnSpec)) listingGoesOnUptoCard

/-- THE SECOND FORM's CARD OF 'seedcornlaw07.InstCodes'. -/
def instCodesUptoCard : Claim7 := { stood := { row := instCodesUptoRow, standIns := [], harness := (true, "32f7f7aec7448378b47f94c14a021b7dc57130e43b4450819b795863dbcbff87"), looks := false }, kinds := [], alts := [], laidByText := true, laidKinds := [.data, .data, .data, .data], laidTests := true, laidLooks := .later }
def InstCodesUptoCardSaid : Prop := Claim7.holds Tryd.pinned (.plain (OpenSpec.upto instCodesSpec)) instCodesUptoCard

/-- THE SECOND FORM's CARD OF 'seedcornlaw11.ListingData'. -/
def listingDataUptoCard : Claim7 := { stood := { row := listingDataUptoRow, standIns := [], harness := (true, "32f7f7aec7448378b47f94c14a021b7dc57130e43b4450819b795863dbcbff87"), looks := false }, kinds := [], alts := [], laidByText := true, laidKinds := [.data, .data, .data, .data], laidTests := true, laidLooks := .later }
def ListingDataUptoCardSaid : Prop := Claim7.holds Tryd.pinned (.plain (OpenSpec.upto listingDataSpec)) listingDataUptoCard

/-- THE SECOND FORM's CARD OF 'seedcornlaw07.InstReads'. -/
def instReadsUptoCard : Claim7 := { stood := { row := instReadsUptoRow, standIns := [], harness := (true, "32f7f7aec7448378b47f94c14a021b7dc57130e43b4450819b795863dbcbff87"), looks := false }, kinds := [], alts := [], laidByText := true, laidKinds := [.data, .data, .data, .data], laidTests := true, laidLooks := .later }
def InstReadsUptoCardSaid : Prop := Claim7.holds Tryd.pinned (.plain (OpenSpec.upto instReadsSpec)) instReadsUptoCard

/-- THE SECOND FORM's CARD OF 'seedcornlaw07.InstApart'. -/
def instApartUptoCard : Claim7 := { stood := { row := instApartUptoRow, standIns := [], harness := (true, "32f7f7aec7448378b47f94c14a021b7dc57130e43b4450819b795863dbcbff87"), looks := false }, kinds := [], alts := [], laidByText := true, laidKinds := [.data, .data, .data, .data], laidTests := true, laidLooks := .later }
def InstApartUptoCardSaid : Prop := Claim7.holds Tryd.pinned (.plain (OpenSpec.upto instApartSpec)) instApartUptoCard

/-- THE SECOND FORM's CARD OF 'seedcornlaw07.InstFields'. -/
def instFieldsUptoCard : Claim7 := { stood := { row := instFieldsUptoRow, standIns := [], harness := (true, "32f7f7aec7448378b47f94c14a021b7dc57130e43b4450819b795863dbcbff87"), looks := false }, kinds := [], alts := [], laidByText := true, laidKinds := [.data, .data, .data, .data], laidTests := true, laidLooks := .later }
def InstFieldsUptoCardSaid : Prop := Claim7.holds Tryd.pinned (.plain (OpenSpec.upto instFieldsSpec)) instFieldsUptoCard

/-- THE SECOND FORM's CARD OF 'seedcornlaw07.InstCounts'. -/
def instCountsUptoCard : Claim7 := { stood := { row := instCountsUptoRow, standIns := [], harness := (true, "32f7f7aec7448378b47f94c14a021b7dc57130e43b4450819b795863dbcbff87"), looks := false }, kinds := [], alts := [], laidByText := true, laidKinds := [.data, .data, .data, .data], laidTests := true, laidLooks := .later }
def InstCountsUptoCardSaid : Prop := Claim7.holds Tryd.pinned (.plain (OpenSpec.upto instCountsSpec)) instCountsUptoCard

/-- THE SECOND FORM's CARD OF 'seedcornlaw07.InstNames'. -/
def instNamesUptoCard : Claim7 := { stood := { row := instNamesUptoRow, standIns := [], harness := (true, "32f7f7aec7448378b47f94c14a021b7dc57130e43b4450819b795863dbcbff87"), looks := false }, kinds := [], alts := [], laidByText := true, laidKinds := [.data, .data, .data, .data], laidTests := true, laidLooks := .later }
def InstNamesUptoCardSaid : Prop := Claim7.holds Tryd.pinned (.plain (OpenSpec.upto instNamesSpec)) instNamesUptoCard

/-- THE SECOND FORM's CARD OF 'seedcornlaw50.SeedItself'. -/
def seedItselfUptoCard : Claim7 := { stood := { row := seedItselfUptoRow, standIns := [], harness := (true, "32f7f7aec7448378b47f94c14a021b7dc57130e43b4450819b795863dbcbff87"), looks := false }, kinds := [], alts := [], laidByText := true, laidKinds := [.data, .data, .data, .data, .data], laidTests := true, laidLooks := .later }
def SeedItselfUptoCardSaid : Prop := Claim7.holds Tryd.pinned (.plain (OpenSpec.upto seedItselfSpec)) seedItselfUptoCard

/-- THE SECOND FORM's CARD OF 'seedcornlaw11.ListingTargets'. -/
def listingTargetsUptoCard : Claim7 := { stood := { row := listingTargetsUptoRow, standIns := [], harness := (true, "32f7f7aec7448378b47f94c14a021b7dc57130e43b4450819b795863dbcbff87"), looks := false }, kinds := [], alts := [], laidByText := true, laidKinds := [.data, .data, .data, .data], laidTests := true, laidLooks := .later }
def ListingTargetsUptoCardSaid : Prop := Claim7.holds Tryd.pinned (.plain (OpenSpec.upto listingTargetsSpec)) listingTargetsUptoCard

/-- THE SECOND FORM's CARD OF 'seedcornlaw11.ListingText'. -/
def listingTextUptoCard : Claim7 := { stood := { row := listingTextUptoRow, standIns := [], harness := (true, "32f7f7aec7448378b47f94c14a021b7dc57130e43b4450819b795863dbcbff87"), looks := false }, kinds := [], alts := [], laidByText := true, laidKinds := [.data, .data, .data, .data], laidTests := true, laidLooks := .later }
def ListingTextUptoCardSaid : Prop := Claim7.holds Tryd.pinned (.plain (OpenSpec.upto listingTextSpec)) listingTextUptoCard

/-- THE SECOND FORM's CARD OF 'seedcornlaw11.ListingLines'. -/
def listingLinesUptoCard : Claim7 := { stood := { row := listingLinesUptoRow, standIns := [], harness := (true, "32f7f7aec7448378b47f94c14a021b7dc57130e43b4450819b795863dbcbff87"), looks := false }, kinds := [], alts := [], laidByText := true, laidKinds := [.data, .data, .data, .data], laidTests := true, laidLooks := .later }
def ListingLinesUptoCardSaid : Prop := Claim7.holds Tryd.pinned (.plain (OpenSpec.upto listingLinesSpec)) listingLinesUptoCard

/-- THE SECOND FORM's CARD OF 'seedcornlaw11.ListingPlaces'. -/
def listingPlacesUptoCard : Claim7 := { stood := { row := listingPlacesUptoRow, standIns := [], harness := (true, "32f7f7aec7448378b47f94c14a021b7dc57130e43b4450819b795863dbcbff87"), looks := false }, kinds := [], alts := [], laidByText := true, laidKinds := [.data, .data, .data, .data], laidTests := true, laidLooks := .later }
def ListingPlacesUptoCardSaid : Prop := Claim7.holds Tryd.pinned (.plain (OpenSpec.upto listingPlacesSpec)) listingPlacesUptoCard

/-- THE SECOND FORM's CARD OF 'seedcornlaw11.ListingApart'. -/
def listingApartUptoCard : Claim7 := { stood := { row := listingApartUptoRow, standIns := [], harness := (true, "32f7f7aec7448378b47f94c14a021b7dc57130e43b4450819b795863dbcbff87"), looks := false }, kinds := [], alts := [], laidByText := true, laidKinds := [.data, .data, .data, .data], laidTests := true, laidLooks := .later }
def ListingApartUptoCardSaid : Prop := Claim7.holds Tryd.pinned (.plain (OpenSpec.upto listingApartSpec)) listingApartUptoCard
end Rows
end Go.Proofs.YtdhkmdgieflioaaDoor
