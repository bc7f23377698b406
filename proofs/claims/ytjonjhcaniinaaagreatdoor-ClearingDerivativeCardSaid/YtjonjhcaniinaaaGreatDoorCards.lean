/-
  DERIVED. GIVEN WITH THE SEED: THE CARDS: each row of YtjonjhcaniinaaaGreatDoorRows.lean that lists a variable, with what it lists TIED to the program's text (the seventh form; the later family's looks); each row that meets fmt, with fmt's text TOLD by the authors' own Lean function (tested against real Go, not proved from fmt's source: count such statements apart). THE CARD IS WHAT COUNTS. Prove the row's statement (the work); the ties are given (YtjonjhcaniinaaaGreatDoorTie.lean); close each card by the builder's one call (the guide's Derived/Test/ToyasCard.lean, 'card_holds'). Laid BY PROGRAM, IN A SANDBOX (cutbox-door.mjs). By AI agents, Wed Nov 11 2026. No macro, syntax, notation, axiom, sorry.
-/
import Derived.Test.YtjonjhcaniinaaaGreatDoorRows
import GoSem.ClaimSeven
namespace Go.Proofs.YtjonjhcaniinaaaGreatDoor
namespace Rows

/-- THE TIED CARD OF 'insolvencylaw19.ClearingFixpoints'. -/
def clearingFixpointsCard : Claim7 := { stood := { row := clearingFixpointsRow, standIns := [], harness := (true, "f6c077e955ea02bc9dc3ad50e9c68042c20e70ade369de111ffe48fa1f34a45d"), looks := false }, kinds := [], alts := [], laidByText := true, laidKinds := [.data, .pinned], laidTests := true, laidLooks := .later }
def ClearingFixpointsCardSaid : Prop := Claim7.holds Tryz.pinned (.plain (OpenSpec.ofChange clearingFixpointsSpec)) clearingFixpointsCard

/-- THE TIED CARD OF 'insolvencylaw19.ClearingGreatest'. -/
def clearingGreatestCard : Claim7 := { stood := { row := clearingGreatestRow, standIns := [], harness := (true, "f6c077e955ea02bc9dc3ad50e9c68042c20e70ade369de111ffe48fa1f34a45d"), looks := false }, kinds := [], alts := [], laidByText := true, laidKinds := [.data, .pinned], laidTests := true, laidLooks := .later }
def ClearingGreatestCardSaid : Prop := Claim7.holds Tryz.pinned (.plain (OpenSpec.ofChange clearingGreatestSpec)) clearingGreatestCard

/-- THE TIED CARD OF 'insolvencylaw19.ClearingMonotone'. -/
def clearingMonotoneCard : Claim7 := { stood := { row := clearingMonotoneRow, standIns := [], harness := (true, "f6c077e955ea02bc9dc3ad50e9c68042c20e70ade369de111ffe48fa1f34a45d"), looks := false }, kinds := [], alts := [], laidByText := true, laidKinds := [.data, .pinned], laidTests := true, laidLooks := .later }
def ClearingMonotoneCardSaid : Prop := Claim7.holds Tryz.pinned (.plain (OpenSpec.ofChange clearingMonotoneSpec)) clearingMonotoneCard

/-- THE TIED CARD OF 'insolvencylaw19.ClearingDerivative'. -/
def clearingDerivativeCard : Claim7 := { stood := { row := clearingDerivativeRow, standIns := [], harness := (true, "f6c077e955ea02bc9dc3ad50e9c68042c20e70ade369de111ffe48fa1f34a45d"), looks := false }, kinds := [], alts := [], laidByText := true, laidKinds := [.data, .pinned], laidTests := true, laidLooks := .later }
def ClearingDerivativeCardSaid : Prop := Claim7.holds Tryz.pinned (.plain (OpenSpec.ofChange clearingDerivativeSpec)) clearingDerivativeCard

/-- THE SECOND FORM's CARD OF 'insolvencylaw19.ClearingFixpoints'. -/
def clearingFixpointsUptoCard : Claim7 := { stood := { row := clearingFixpointsUptoRow, standIns := [], harness := (true, "f6c077e955ea02bc9dc3ad50e9c68042c20e70ade369de111ffe48fa1f34a45d"), looks := false }, kinds := [], alts := [], laidByText := true, laidKinds := [.data, .pinned], laidTests := true, laidLooks := .later }
def ClearingFixpointsUptoCardSaid : Prop := Claim7.holds Tryz.pinned (.plain (OpenSpec.upto clearingFixpointsSpec)) clearingFixpointsUptoCard

/-- THE SECOND FORM's CARD OF 'insolvencylaw19.ClearingGreatest'. -/
def clearingGreatestUptoCard : Claim7 := { stood := { row := clearingGreatestUptoRow, standIns := [], harness := (true, "f6c077e955ea02bc9dc3ad50e9c68042c20e70ade369de111ffe48fa1f34a45d"), looks := false }, kinds := [], alts := [], laidByText := true, laidKinds := [.data, .pinned], laidTests := true, laidLooks := .later }
def ClearingGreatestUptoCardSaid : Prop := Claim7.holds Tryz.pinned (.plain (OpenSpec.upto clearingGreatestSpec)) clearingGreatestUptoCard

/-- THE SECOND FORM's CARD OF 'insolvencylaw19.ClearingMonotone'. -/
def clearingMonotoneUptoCard : Claim7 := { stood := { row := clearingMonotoneUptoRow, standIns := [], harness := (true, "f6c077e955ea02bc9dc3ad50e9c68042c20e70ade369de111ffe48fa1f34a45d"), looks := false }, kinds := [], alts := [], laidByText := true, laidKinds := [.data, .pinned], laidTests := true, laidLooks := .later }
def ClearingMonotoneUptoCardSaid : Prop := Claim7.holds Tryz.pinned (.plain (OpenSpec.upto clearingMonotoneSpec)) clearingMonotoneUptoCard

/-- THE SECOND FORM's CARD OF 'insolvencylaw19.ClearingDerivative'. -/
def clearingDerivativeUptoCard : Claim7 := { stood := { row := clearingDerivativeUptoRow, standIns := [], harness := (true, "f6c077e955ea02bc9dc3ad50e9c68042c20e70ade369de111ffe48fa1f34a45d"), looks := false }, kinds := [], alts := [], laidByText := true, laidKinds := [.data, .pinned], laidTests := true, laidLooks := .later }
def ClearingDerivativeUptoCardSaid : Prop := Claim7.holds Tryz.pinned (.plain (OpenSpec.upto clearingDerivativeSpec)) clearingDerivativeUptoCard
end Rows
end Go.Proofs.YtjonjhcaniinaaaGreatDoor
