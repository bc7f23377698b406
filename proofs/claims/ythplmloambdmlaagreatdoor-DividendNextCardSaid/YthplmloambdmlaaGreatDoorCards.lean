/-
  DERIVED. GIVEN WITH THE SEED: THE CARDS: each row of YthplmloambdmlaaGreatDoorRows.lean that lists a variable, with what it lists TIED to the program's text (the seventh form; the later family's looks); each row that meets fmt, with fmt's text TOLD by the authors' own Lean function (tested against real Go, not proved from fmt's source: count such statements apart). THE CARD IS WHAT COUNTS. Prove the row's statement (the work); the ties are given (YthplmloambdmlaaGreatDoorTie.lean); close each card by the builder's one call (the guide's Derived/Test/ToyasCard.lean, 'card_holds'). Laid BY PROGRAM, IN A SANDBOX (cutbox-door.mjs). By AI agents, Wed Nov 11 2026. No macro, syntax, notation, axiom, sorry.
-/
import Derived.Test.YthplmloambdmlaaGreatDoorRows
import GoSem.ClaimSeven
namespace Go.Proofs.YthplmloambdmlaaGreatDoor
namespace Rows

/-- THE TIED CARD OF 'insolvencylaw19.ClearingMonotone'. -/
def clearingMonotoneCard : Claim7 := { stood := { row := clearingMonotoneRow, standIns := [], harness := (true, "fe8e1757a52675207c9addc11127453629179eff506595e7c3cc17ca3faa9ed6"), looks := false }, kinds := [], alts := [], laidByText := true, laidKinds := [.data, .pinned], laidTests := true, laidLooks := .later }
def ClearingMonotoneCardSaid : Prop := Claim7.holds Tryz.pinned (.plain (OpenSpec.ofChange clearingMonotoneSpec)) clearingMonotoneCard

/-- THE TIED CARD OF 'insolvencylaw19.ClearingDerivative'. -/
def clearingDerivativeCard : Claim7 := { stood := { row := clearingDerivativeRow, standIns := [], harness := (true, "fe8e1757a52675207c9addc11127453629179eff506595e7c3cc17ca3faa9ed6"), looks := false }, kinds := [], alts := [], laidByText := true, laidKinds := [.data, .pinned], laidTests := true, laidLooks := .later }
def ClearingDerivativeCardSaid : Prop := Claim7.holds Tryz.pinned (.plain (OpenSpec.ofChange clearingDerivativeSpec)) clearingDerivativeCard

/-- THE TIED CARD OF 'insolvencylaw19.ClearingRaw'. -/
def clearingRawCard : Claim7 := { stood := { row := clearingRawRow, standIns := [], harness := (true, "fe8e1757a52675207c9addc11127453629179eff506595e7c3cc17ca3faa9ed6"), looks := false }, kinds := [], alts := [], laidByText := true, laidKinds := [.data, .pinned], laidTests := true, laidLooks := .later }
def ClearingRawCardSaid : Prop := Claim7.holds Tryz.pinned (.plain (OpenSpec.ofChange clearingRawSpec)) clearingRawCard

/-- THE TIED CARD OF 'insolvencylaw19.ClearingBuilt'. -/
def clearingBuiltCard : Claim7 := { stood := { row := clearingBuiltRow, standIns := [], harness := (true, "fe8e1757a52675207c9addc11127453629179eff506595e7c3cc17ca3faa9ed6"), looks := false }, kinds := [], alts := [], laidByText := true, laidKinds := [.data, .pinned], laidTests := true, laidLooks := .later }
def ClearingBuiltCardSaid : Prop := Claim7.holds Tryz.pinned (.plain (OpenSpec.ofChange clearingBuiltSpec)) clearingBuiltCard

/-- THE TIED CARD OF 'insolvencylaw21.DefaultcostShort'. -/
def defaultcostShortCard : Claim7 := { stood := { row := defaultcostShortRow, standIns := [], harness := (true, "fe8e1757a52675207c9addc11127453629179eff506595e7c3cc17ca3faa9ed6"), looks := false }, kinds := [], alts := [], laidByText := true, laidKinds := [.data, .pinned], laidTests := true, laidLooks := .later }
def DefaultcostShortCardSaid : Prop := Claim7.holds Tryz.pinned (.plain (OpenSpec.ofChange defaultcostShortSpec)) defaultcostShortCard

/-- THE TIED CARD OF 'insolvencylaw21.DefaultcostCharge'. -/
def defaultcostChargeCard : Claim7 := { stood := { row := defaultcostChargeRow, standIns := [], harness := (true, "fe8e1757a52675207c9addc11127453629179eff506595e7c3cc17ca3faa9ed6"), looks := false }, kinds := [], alts := [], laidByText := true, laidKinds := [.data, .pinned], laidTests := true, laidLooks := .later }
def DefaultcostChargeCardSaid : Prop := Claim7.holds Tryz.pinned (.plain (OpenSpec.ofChange defaultcostChargeSpec)) defaultcostChargeCard

/-- THE TIED CARD OF 'insolvencylaw20.CertificateRaw'. -/
def certificateRawCard : Claim7 := { stood := { row := certificateRawRow, standIns := [], harness := (true, "fe8e1757a52675207c9addc11127453629179eff506595e7c3cc17ca3faa9ed6"), looks := false }, kinds := [], alts := [], laidByText := true, laidKinds := [.data, .pinned], laidTests := true, laidLooks := .later }
def CertificateRawCardSaid : Prop := Claim7.holds Tryz.pinned (.plain (OpenSpec.ofChange certificateRawSpec)) certificateRawCard

/-- THE TIED CARD OF 'insolvencylaw23.DividendRights'. -/
def dividendRightsCard : Claim7 := { stood := { row := dividendRightsRow, standIns := [], harness := (true, "fe8e1757a52675207c9addc11127453629179eff506595e7c3cc17ca3faa9ed6"), looks := false }, kinds := [], alts := [], laidByText := true, laidKinds := [.data, .pinned], laidTests := true, laidLooks := .later }
def DividendRightsCardSaid : Prop := Claim7.holds Tryz.pinned (.plain (OpenSpec.ofChange dividendRightsSpec)) dividendRightsCard

/-- THE TIED CARD OF 'insolvencylaw23.DividendTotals'. -/
def dividendTotalsCard : Claim7 := { stood := { row := dividendTotalsRow, standIns := [], harness := (true, "fe8e1757a52675207c9addc11127453629179eff506595e7c3cc17ca3faa9ed6"), looks := false }, kinds := [], alts := [], laidByText := true, laidKinds := [.data, .pinned], laidTests := true, laidLooks := .later }
def DividendTotalsCardSaid : Prop := Claim7.holds Tryz.pinned (.plain (OpenSpec.ofChange dividendTotalsSpec)) dividendTotalsCard

/-- THE TIED CARD OF 'insolvencylaw23.DividendHold'. -/
def dividendHoldCard : Claim7 := { stood := { row := dividendHoldRow, standIns := [], harness := (true, "fe8e1757a52675207c9addc11127453629179eff506595e7c3cc17ca3faa9ed6"), looks := false }, kinds := [], alts := [], laidByText := true, laidKinds := [.data, .pinned], laidTests := true, laidLooks := .later }
def DividendHoldCardSaid : Prop := Claim7.holds Tryz.pinned (.plain (OpenSpec.ofChange dividendHoldSpec)) dividendHoldCard

/-- THE TIED CARD OF 'insolvencylaw23.DividendLong'. -/
def dividendLongCard : Claim7 := { stood := { row := dividendLongRow, standIns := [], harness := (true, "fe8e1757a52675207c9addc11127453629179eff506595e7c3cc17ca3faa9ed6"), looks := false }, kinds := [], alts := [], laidByText := true, laidKinds := [.data, .pinned], laidTests := true, laidLooks := .later }
def DividendLongCardSaid : Prop := Claim7.holds Tryz.pinned (.plain (OpenSpec.ofChange dividendLongSpec)) dividendLongCard

/-- THE TIED CARD OF 'insolvencylaw23.DividendNext'. -/
def dividendNextCard : Claim7 := { stood := { row := dividendNextRow, standIns := [], harness := (true, "fe8e1757a52675207c9addc11127453629179eff506595e7c3cc17ca3faa9ed6"), looks := false }, kinds := [], alts := [], laidByText := true, laidKinds := [.data, .pinned], laidTests := true, laidLooks := .later }
def DividendNextCardSaid : Prop := Claim7.holds Tryz.pinned (.plain (OpenSpec.ofChange dividendNextSpec)) dividendNextCard

/-- THE SECOND FORM's CARD OF 'insolvencylaw19.ClearingMonotone'. -/
def clearingMonotoneUptoCard : Claim7 := { stood := { row := clearingMonotoneUptoRow, standIns := [], harness := (true, "fe8e1757a52675207c9addc11127453629179eff506595e7c3cc17ca3faa9ed6"), looks := false }, kinds := [], alts := [], laidByText := true, laidKinds := [.data, .pinned], laidTests := true, laidLooks := .later }
def ClearingMonotoneUptoCardSaid : Prop := Claim7.holds Tryz.pinned (.plain (OpenSpec.upto clearingMonotoneSpec)) clearingMonotoneUptoCard

/-- THE SECOND FORM's CARD OF 'insolvencylaw19.ClearingDerivative'. -/
def clearingDerivativeUptoCard : Claim7 := { stood := { row := clearingDerivativeUptoRow, standIns := [], harness := (true, "fe8e1757a52675207c9addc11127453629179eff506595e7c3cc17ca3faa9ed6"), looks := false }, kinds := [], alts := [], laidByText := true, laidKinds := [.data, .pinned], laidTests := true, laidLooks := .later }
def ClearingDerivativeUptoCardSaid : Prop := Claim7.holds Tryz.pinned (.plain (OpenSpec.upto clearingDerivativeSpec)) clearingDerivativeUptoCard

/-- THE SECOND FORM's CARD OF 'insolvencylaw19.ClearingRaw'. -/
def clearingRawUptoCard : Claim7 := { stood := { row := clearingRawUptoRow, standIns := [], harness := (true, "fe8e1757a52675207c9addc11127453629179eff506595e7c3cc17ca3faa9ed6"), looks := false }, kinds := [], alts := [], laidByText := true, laidKinds := [.data, .pinned], laidTests := true, laidLooks := .later }
def ClearingRawUptoCardSaid : Prop := Claim7.holds Tryz.pinned (.plain (OpenSpec.upto clearingRawSpec)) clearingRawUptoCard

/-- THE SECOND FORM's CARD OF 'insolvencylaw19.ClearingBuilt'. -/
def clearingBuiltUptoCard : Claim7 := { stood := { row := clearingBuiltUptoRow, standIns := [], harness := (true, "fe8e1757a52675207c9addc11127453629179eff506595e7c3cc17ca3faa9ed6"), looks := false }, kinds := [], alts := [], laidByText := true, laidKinds := [.data, .pinned], laidTests := true, laidLooks := .later }
def ClearingBuiltUptoCardSaid : Prop := Claim7.holds Tryz.pinned (.plain (OpenSpec.upto clearingBuiltSpec)) clearingBuiltUptoCard

/-- THE SECOND FORM's CARD OF 'insolvencylaw21.DefaultcostShort'. -/
def defaultcostShortUptoCard : Claim7 := { stood := { row := defaultcostShortUptoRow, standIns := [], harness := (true, "fe8e1757a52675207c9addc11127453629179eff506595e7c3cc17ca3faa9ed6"), looks := false }, kinds := [], alts := [], laidByText := true, laidKinds := [.data, .pinned], laidTests := true, laidLooks := .later }
def DefaultcostShortUptoCardSaid : Prop := Claim7.holds Tryz.pinned (.plain (OpenSpec.upto defaultcostShortSpec)) defaultcostShortUptoCard

/-- THE SECOND FORM's CARD OF 'insolvencylaw21.DefaultcostCharge'. -/
def defaultcostChargeUptoCard : Claim7 := { stood := { row := defaultcostChargeUptoRow, standIns := [], harness := (true, "fe8e1757a52675207c9addc11127453629179eff506595e7c3cc17ca3faa9ed6"), looks := false }, kinds := [], alts := [], laidByText := true, laidKinds := [.data, .pinned], laidTests := true, laidLooks := .later }
def DefaultcostChargeUptoCardSaid : Prop := Claim7.holds Tryz.pinned (.plain (OpenSpec.upto defaultcostChargeSpec)) defaultcostChargeUptoCard

/-- THE SECOND FORM's CARD OF 'insolvencylaw20.CertificateRaw'. -/
def certificateRawUptoCard : Claim7 := { stood := { row := certificateRawUptoRow, standIns := [], harness := (true, "fe8e1757a52675207c9addc11127453629179eff506595e7c3cc17ca3faa9ed6"), looks := false }, kinds := [], alts := [], laidByText := true, laidKinds := [.data, .pinned], laidTests := true, laidLooks := .later }
def CertificateRawUptoCardSaid : Prop := Claim7.holds Tryz.pinned (.plain (OpenSpec.upto certificateRawSpec)) certificateRawUptoCard

/-- THE SECOND FORM's CARD OF 'insolvencylaw23.DividendRights'. -/
def dividendRightsUptoCard : Claim7 := { stood := { row := dividendRightsUptoRow, standIns := [], harness := (true, "fe8e1757a52675207c9addc11127453629179eff506595e7c3cc17ca3faa9ed6"), looks := false }, kinds := [], alts := [], laidByText := true, laidKinds := [.data, .pinned], laidTests := true, laidLooks := .later }
def DividendRightsUptoCardSaid : Prop := Claim7.holds Tryz.pinned (.plain (OpenSpec.upto dividendRightsSpec)) dividendRightsUptoCard

/-- THE SECOND FORM's CARD OF 'insolvencylaw23.DividendTotals'. -/
def dividendTotalsUptoCard : Claim7 := { stood := { row := dividendTotalsUptoRow, standIns := [], harness := (true, "fe8e1757a52675207c9addc11127453629179eff506595e7c3cc17ca3faa9ed6"), looks := false }, kinds := [], alts := [], laidByText := true, laidKinds := [.data, .pinned], laidTests := true, laidLooks := .later }
def DividendTotalsUptoCardSaid : Prop := Claim7.holds Tryz.pinned (.plain (OpenSpec.upto dividendTotalsSpec)) dividendTotalsUptoCard

/-- THE SECOND FORM's CARD OF 'insolvencylaw23.DividendHold'. -/
def dividendHoldUptoCard : Claim7 := { stood := { row := dividendHoldUptoRow, standIns := [], harness := (true, "fe8e1757a52675207c9addc11127453629179eff506595e7c3cc17ca3faa9ed6"), looks := false }, kinds := [], alts := [], laidByText := true, laidKinds := [.data, .pinned], laidTests := true, laidLooks := .later }
def DividendHoldUptoCardSaid : Prop := Claim7.holds Tryz.pinned (.plain (OpenSpec.upto dividendHoldSpec)) dividendHoldUptoCard

/-- THE SECOND FORM's CARD OF 'insolvencylaw23.DividendLong'. -/
def dividendLongUptoCard : Claim7 := { stood := { row := dividendLongUptoRow, standIns := [], harness := (true, "fe8e1757a52675207c9addc11127453629179eff506595e7c3cc17ca3faa9ed6"), looks := false }, kinds := [], alts := [], laidByText := true, laidKinds := [.data, .pinned], laidTests := true, laidLooks := .later }
def DividendLongUptoCardSaid : Prop := Claim7.holds Tryz.pinned (.plain (OpenSpec.upto dividendLongSpec)) dividendLongUptoCard

/-- THE SECOND FORM's CARD OF 'insolvencylaw23.DividendNext'. -/
def dividendNextUptoCard : Claim7 := { stood := { row := dividendNextUptoRow, standIns := [], harness := (true, "fe8e1757a52675207c9addc11127453629179eff506595e7c3cc17ca3faa9ed6"), looks := false }, kinds := [], alts := [], laidByText := true, laidKinds := [.data, .pinned], laidTests := true, laidLooks := .later }
def DividendNextUptoCardSaid : Prop := Claim7.holds Tryz.pinned (.plain (OpenSpec.upto dividendNextSpec)) dividendNextUptoCard
end Rows
end Go.Proofs.YthplmloambdmlaaGreatDoor
