/-
  DERIVED. GIVEN WITH THE SEED: THE CARDS: each row of YthkggcakedkboaaGreatDoorRows.lean that lists a variable, with what it lists TIED to the program's text (the seventh form; the later family's looks); each row that meets fmt, with fmt's text TOLD by the authors' own Lean function (tested against real Go, not proved from fmt's source: count such statements apart). THE CARD IS WHAT COUNTS. Prove the row's statement (the work); the ties are given (YthkggcakedkboaaGreatDoorTie.lean); close each card by the builder's one call (the guide's Derived/Test/ToyasCard.lean, 'card_holds'). Laid BY PROGRAM, IN A SANDBOX (cutbox-door.mjs). By AI agents, Wed Nov 11 2026. No macro, syntax, notation, axiom, sorry.
-/
import Derived.Test.YthkggcakedkboaaGreatDoorRows
import GoSem.ClaimSeven
namespace Go.Proofs.YthkggcakedkboaaGreatDoor
namespace Rows

/-- THE TIED CARD OF 'insolvencylaw19.ClearingFixpoints'. -/
def clearingFixpointsCard : Claim7 := { stood := { row := clearingFixpointsRow, standIns := [], harness := (true, "c33571cb9a176d925ba35829a9c07d987292f77a21394b96e561315dd44ad115"), looks := false }, kinds := [], alts := [], laidByText := true, laidKinds := [.data, .pinned], laidTests := true, laidLooks := .later }
def ClearingFixpointsCardSaid : Prop := Claim7.holds Tryz.pinned (.plain (OpenSpec.ofChange clearingFixpointsSpec)) clearingFixpointsCard

/-- THE TIED CARD OF 'insolvencylaw19.ClearingGreatest'. -/
def clearingGreatestCard : Claim7 := { stood := { row := clearingGreatestRow, standIns := [], harness := (true, "c33571cb9a176d925ba35829a9c07d987292f77a21394b96e561315dd44ad115"), looks := false }, kinds := [], alts := [], laidByText := true, laidKinds := [.data, .pinned], laidTests := true, laidLooks := .later }
def ClearingGreatestCardSaid : Prop := Claim7.holds Tryz.pinned (.plain (OpenSpec.ofChange clearingGreatestSpec)) clearingGreatestCard

/-- THE TIED CARD OF 'insolvencylaw19.ClearingIterates'. -/
def clearingIteratesCard : Claim7 := { stood := { row := clearingIteratesRow, standIns := [], harness := (true, "c33571cb9a176d925ba35829a9c07d987292f77a21394b96e561315dd44ad115"), looks := false }, kinds := [], alts := [], laidByText := true, laidKinds := [.data, .pinned], laidTests := true, laidLooks := .later }
def ClearingIteratesCardSaid : Prop := Claim7.holds Tryz.pinned (.plain (OpenSpec.ofChange clearingIteratesSpec)) clearingIteratesCard

/-- THE TIED CARD OF 'insolvencylaw19.ClearingConservation'. -/
def clearingConservationCard : Claim7 := { stood := { row := clearingConservationRow, standIns := [], harness := (true, "c33571cb9a176d925ba35829a9c07d987292f77a21394b96e561315dd44ad115"), looks := false }, kinds := [], alts := [], laidByText := true, laidKinds := [.data, .pinned], laidTests := true, laidLooks := .later }
def ClearingConservationCardSaid : Prop := Claim7.holds Tryz.pinned (.plain (OpenSpec.ofChange clearingConservationSpec)) clearingConservationCard

/-- THE TIED CARD OF 'insolvencylaw19.ClearingCash'. -/
def clearingCashCard : Claim7 := { stood := { row := clearingCashRow, standIns := [], harness := (true, "c33571cb9a176d925ba35829a9c07d987292f77a21394b96e561315dd44ad115"), looks := false }, kinds := [], alts := [], laidByText := true, laidKinds := [.data, .pinned], laidTests := true, laidLooks := .later }
def ClearingCashCardSaid : Prop := Claim7.holds Tryz.pinned (.plain (OpenSpec.ofChange clearingCashSpec)) clearingCashCard

/-- THE TIED CARD OF 'insolvencylaw19.ClearingOutside'. -/
def clearingOutsideCard : Claim7 := { stood := { row := clearingOutsideRow, standIns := [], harness := (true, "c33571cb9a176d925ba35829a9c07d987292f77a21394b96e561315dd44ad115"), looks := false }, kinds := [], alts := [], laidByText := true, laidKinds := [.data, .pinned], laidTests := true, laidLooks := .later }
def ClearingOutsideCardSaid : Prop := Claim7.holds Tryz.pinned (.plain (OpenSpec.ofChange clearingOutsideSpec)) clearingOutsideCard

/-- THE TIED CARD OF 'insolvencylaw19.ClearingOrder'. -/
def clearingOrderCard : Claim7 := { stood := { row := clearingOrderRow, standIns := [], harness := (true, "c33571cb9a176d925ba35829a9c07d987292f77a21394b96e561315dd44ad115"), looks := false }, kinds := [], alts := [], laidByText := true, laidKinds := [.data, .pinned], laidTests := true, laidLooks := .later }
def ClearingOrderCardSaid : Prop := Claim7.holds Tryz.pinned (.plain (OpenSpec.ofChange clearingOrderSpec)) clearingOrderCard

/-- THE TIED CARD OF 'insolvencylaw19.ClearingFair'. -/
def clearingFairCard : Claim7 := { stood := { row := clearingFairRow, standIns := [], harness := (true, "c33571cb9a176d925ba35829a9c07d987292f77a21394b96e561315dd44ad115"), looks := false }, kinds := [], alts := [], laidByText := true, laidKinds := [.data, .pinned], laidTests := true, laidLooks := .later }
def ClearingFairCardSaid : Prop := Claim7.holds Tryz.pinned (.plain (OpenSpec.ofChange clearingFairSpec)) clearingFairCard

/-- THE TIED CARD OF 'insolvencylaw19.ClearingRing'. -/
def clearingRingCard : Claim7 := { stood := { row := clearingRingRow, standIns := [], harness := (true, "c33571cb9a176d925ba35829a9c07d987292f77a21394b96e561315dd44ad115"), looks := false }, kinds := [], alts := [], laidByText := true, laidKinds := [.data, .pinned], laidTests := true, laidLooks := .later }
def ClearingRingCardSaid : Prop := Claim7.holds Tryz.pinned (.plain (OpenSpec.ofChange clearingRingSpec)) clearingRingCard

/-- THE SECOND FORM's CARD OF 'insolvencylaw19.ClearingFixpoints'. -/
def clearingFixpointsUptoCard : Claim7 := { stood := { row := clearingFixpointsUptoRow, standIns := [], harness := (true, "c33571cb9a176d925ba35829a9c07d987292f77a21394b96e561315dd44ad115"), looks := false }, kinds := [], alts := [], laidByText := true, laidKinds := [.data, .pinned], laidTests := true, laidLooks := .later }
def ClearingFixpointsUptoCardSaid : Prop := Claim7.holds Tryz.pinned (.plain (OpenSpec.upto clearingFixpointsSpec)) clearingFixpointsUptoCard

/-- THE SECOND FORM's CARD OF 'insolvencylaw19.ClearingGreatest'. -/
def clearingGreatestUptoCard : Claim7 := { stood := { row := clearingGreatestUptoRow, standIns := [], harness := (true, "c33571cb9a176d925ba35829a9c07d987292f77a21394b96e561315dd44ad115"), looks := false }, kinds := [], alts := [], laidByText := true, laidKinds := [.data, .pinned], laidTests := true, laidLooks := .later }
def ClearingGreatestUptoCardSaid : Prop := Claim7.holds Tryz.pinned (.plain (OpenSpec.upto clearingGreatestSpec)) clearingGreatestUptoCard

/-- THE SECOND FORM's CARD OF 'insolvencylaw19.ClearingIterates'. -/
def clearingIteratesUptoCard : Claim7 := { stood := { row := clearingIteratesUptoRow, standIns := [], harness := (true, "c33571cb9a176d925ba35829a9c07d987292f77a21394b96e561315dd44ad115"), looks := false }, kinds := [], alts := [], laidByText := true, laidKinds := [.data, .pinned], laidTests := true, laidLooks := .later }
def ClearingIteratesUptoCardSaid : Prop := Claim7.holds Tryz.pinned (.plain (OpenSpec.upto clearingIteratesSpec)) clearingIteratesUptoCard

/-- THE SECOND FORM's CARD OF 'insolvencylaw19.ClearingConservation'. -/
def clearingConservationUptoCard : Claim7 := { stood := { row := clearingConservationUptoRow, standIns := [], harness := (true, "c33571cb9a176d925ba35829a9c07d987292f77a21394b96e561315dd44ad115"), looks := false }, kinds := [], alts := [], laidByText := true, laidKinds := [.data, .pinned], laidTests := true, laidLooks := .later }
def ClearingConservationUptoCardSaid : Prop := Claim7.holds Tryz.pinned (.plain (OpenSpec.upto clearingConservationSpec)) clearingConservationUptoCard

/-- THE SECOND FORM's CARD OF 'insolvencylaw19.ClearingCash'. -/
def clearingCashUptoCard : Claim7 := { stood := { row := clearingCashUptoRow, standIns := [], harness := (true, "c33571cb9a176d925ba35829a9c07d987292f77a21394b96e561315dd44ad115"), looks := false }, kinds := [], alts := [], laidByText := true, laidKinds := [.data, .pinned], laidTests := true, laidLooks := .later }
def ClearingCashUptoCardSaid : Prop := Claim7.holds Tryz.pinned (.plain (OpenSpec.upto clearingCashSpec)) clearingCashUptoCard

/-- THE SECOND FORM's CARD OF 'insolvencylaw19.ClearingOutside'. -/
def clearingOutsideUptoCard : Claim7 := { stood := { row := clearingOutsideUptoRow, standIns := [], harness := (true, "c33571cb9a176d925ba35829a9c07d987292f77a21394b96e561315dd44ad115"), looks := false }, kinds := [], alts := [], laidByText := true, laidKinds := [.data, .pinned], laidTests := true, laidLooks := .later }
def ClearingOutsideUptoCardSaid : Prop := Claim7.holds Tryz.pinned (.plain (OpenSpec.upto clearingOutsideSpec)) clearingOutsideUptoCard

/-- THE SECOND FORM's CARD OF 'insolvencylaw19.ClearingOrder'. -/
def clearingOrderUptoCard : Claim7 := { stood := { row := clearingOrderUptoRow, standIns := [], harness := (true, "c33571cb9a176d925ba35829a9c07d987292f77a21394b96e561315dd44ad115"), looks := false }, kinds := [], alts := [], laidByText := true, laidKinds := [.data, .pinned], laidTests := true, laidLooks := .later }
def ClearingOrderUptoCardSaid : Prop := Claim7.holds Tryz.pinned (.plain (OpenSpec.upto clearingOrderSpec)) clearingOrderUptoCard

/-- THE SECOND FORM's CARD OF 'insolvencylaw19.ClearingFair'. -/
def clearingFairUptoCard : Claim7 := { stood := { row := clearingFairUptoRow, standIns := [], harness := (true, "c33571cb9a176d925ba35829a9c07d987292f77a21394b96e561315dd44ad115"), looks := false }, kinds := [], alts := [], laidByText := true, laidKinds := [.data, .pinned], laidTests := true, laidLooks := .later }
def ClearingFairUptoCardSaid : Prop := Claim7.holds Tryz.pinned (.plain (OpenSpec.upto clearingFairSpec)) clearingFairUptoCard

/-- THE SECOND FORM's CARD OF 'insolvencylaw19.ClearingRing'. -/
def clearingRingUptoCard : Claim7 := { stood := { row := clearingRingUptoRow, standIns := [], harness := (true, "c33571cb9a176d925ba35829a9c07d987292f77a21394b96e561315dd44ad115"), looks := false }, kinds := [], alts := [], laidByText := true, laidKinds := [.data, .pinned], laidTests := true, laidLooks := .later }
def ClearingRingUptoCardSaid : Prop := Claim7.holds Tryz.pinned (.plain (OpenSpec.upto clearingRingSpec)) clearingRingUptoCard
end Rows
end Go.Proofs.YthkggcakedkboaaGreatDoor
