/-
  DERIVED. GIVEN WITH THE SEED: THE CARDS: each row of YtchhojplceoifaaGreatDoorRows.lean that lists a variable, with what it lists TIED to the program's text (the seventh form; the later family's looks); each row that meets fmt, with fmt's text TOLD by the authors' own Lean function (tested against real Go, not proved from fmt's source: count such statements apart). THE CARD IS WHAT COUNTS. Prove the row's statement (the work); the ties are given (YtchhojplceoifaaGreatDoorTie.lean); close each card by the builder's one call (the guide's Derived/Test/ToyasCard.lean, 'card_holds'). Laid BY PROGRAM, IN A SANDBOX (cutbox-door.mjs). By AI agents, Wed Nov 11 2026. No macro, syntax, notation, axiom, sorry.
-/
import Derived.Test.YtchhojplceoifaaGreatDoorRows
import GoSem.ClaimSeven
namespace Go.Proofs.YtchhojplceoifaaGreatDoor
namespace Rows

/-- THE TIED CARD OF 'insolvencylaw20.CertificateAccept'. -/
def certificateAcceptCard : Claim7 := { stood := { row := certificateAcceptRow, standIns := [], harness := (true, "8cca2c351206d027a355f84a4b77faf94631803787bddacd6b274197ca191a2a"), looks := false }, kinds := [], alts := [], laidByText := true, laidKinds := [.data, .pinned], laidTests := true, laidLooks := .later }
def CertificateAcceptCardSaid : Prop := Claim7.holds Tryz.pinned (.plain (OpenSpec.ofChange certificateAcceptSpec)) certificateAcceptCard

/-- THE TIED CARD OF 'insolvencylaw20.CertificatePaths'. -/
def certificatePathsCard : Claim7 := { stood := { row := certificatePathsRow, standIns := [], harness := (true, "8cca2c351206d027a355f84a4b77faf94631803787bddacd6b274197ca191a2a"), looks := false }, kinds := [], alts := [], laidByText := true, laidKinds := [.data, .pinned], laidTests := true, laidLooks := .later }
def CertificatePathsCardSaid : Prop := Claim7.holds Tryz.pinned (.plain (OpenSpec.ofChange certificatePathsSpec)) certificatePathsCard

/-- THE TIED CARD OF 'insolvencylaw20.CertificateUnder'. -/
def certificateUnderCard : Claim7 := { stood := { row := certificateUnderRow, standIns := [], harness := (true, "8cca2c351206d027a355f84a4b77faf94631803787bddacd6b274197ca191a2a"), looks := false }, kinds := [], alts := [], laidByText := true, laidKinds := [.data, .pinned], laidTests := true, laidLooks := .later }
def CertificateUnderCardSaid : Prop := Claim7.holds Tryz.pinned (.plain (OpenSpec.ofChange certificateUnderSpec)) certificateUnderCard

/-- THE TIED CARD OF 'insolvencylaw20.CertificateOnly'. -/
def certificateOnlyCard : Claim7 := { stood := { row := certificateOnlyRow, standIns := [], harness := (true, "8cca2c351206d027a355f84a4b77faf94631803787bddacd6b274197ca191a2a"), looks := false }, kinds := [], alts := [], laidByText := true, laidKinds := [.data, .pinned], laidTests := true, laidLooks := .later }
def CertificateOnlyCardSaid : Prop := Claim7.holds Tryz.pinned (.plain (OpenSpec.ofChange certificateOnlySpec)) certificateOnlyCard

/-- THE TIED CARD OF 'insolvencylaw21.DefaultcostFree'. -/
def defaultcostFreeCard : Claim7 := { stood := { row := defaultcostFreeRow, standIns := [], harness := (true, "8cca2c351206d027a355f84a4b77faf94631803787bddacd6b274197ca191a2a"), looks := false }, kinds := [], alts := [], laidByText := true, laidKinds := [.data, .pinned], laidTests := true, laidLooks := .later }
def DefaultcostFreeCardSaid : Prop := Claim7.holds Tryz.pinned (.plain (OpenSpec.ofChange defaultcostFreeSpec)) defaultcostFreeCard

/-- THE TIED CARD OF 'insolvencylaw21.DefaultcostExtremes'. -/
def defaultcostExtremesCard : Claim7 := { stood := { row := defaultcostExtremesRow, standIns := [], harness := (true, "8cca2c351206d027a355f84a4b77faf94631803787bddacd6b274197ca191a2a"), looks := false }, kinds := [], alts := [], laidByText := true, laidKinds := [.data, .pinned], laidTests := true, laidLooks := .later }
def DefaultcostExtremesCardSaid : Prop := Claim7.holds Tryz.pinned (.plain (OpenSpec.ofChange defaultcostExtremesSpec)) defaultcostExtremesCard

/-- THE TIED CARD OF 'insolvencylaw21.DefaultcostCash'. -/
def defaultcostCashCard : Claim7 := { stood := { row := defaultcostCashRow, standIns := [], harness := (true, "8cca2c351206d027a355f84a4b77faf94631803787bddacd6b274197ca191a2a"), looks := false }, kinds := [], alts := [], laidByText := true, laidKinds := [.data, .pinned], laidTests := true, laidLooks := .later }
def DefaultcostCashCardSaid : Prop := Claim7.holds Tryz.pinned (.plain (OpenSpec.ofChange defaultcostCashSpec)) defaultcostCashCard

/-- THE SECOND FORM's CARD OF 'insolvencylaw20.CertificateAccept'. -/
def certificateAcceptUptoCard : Claim7 := { stood := { row := certificateAcceptUptoRow, standIns := [], harness := (true, "8cca2c351206d027a355f84a4b77faf94631803787bddacd6b274197ca191a2a"), looks := false }, kinds := [], alts := [], laidByText := true, laidKinds := [.data, .pinned], laidTests := true, laidLooks := .later }
def CertificateAcceptUptoCardSaid : Prop := Claim7.holds Tryz.pinned (.plain (OpenSpec.upto certificateAcceptSpec)) certificateAcceptUptoCard

/-- THE SECOND FORM's CARD OF 'insolvencylaw20.CertificatePaths'. -/
def certificatePathsUptoCard : Claim7 := { stood := { row := certificatePathsUptoRow, standIns := [], harness := (true, "8cca2c351206d027a355f84a4b77faf94631803787bddacd6b274197ca191a2a"), looks := false }, kinds := [], alts := [], laidByText := true, laidKinds := [.data, .pinned], laidTests := true, laidLooks := .later }
def CertificatePathsUptoCardSaid : Prop := Claim7.holds Tryz.pinned (.plain (OpenSpec.upto certificatePathsSpec)) certificatePathsUptoCard

/-- THE SECOND FORM's CARD OF 'insolvencylaw20.CertificateUnder'. -/
def certificateUnderUptoCard : Claim7 := { stood := { row := certificateUnderUptoRow, standIns := [], harness := (true, "8cca2c351206d027a355f84a4b77faf94631803787bddacd6b274197ca191a2a"), looks := false }, kinds := [], alts := [], laidByText := true, laidKinds := [.data, .pinned], laidTests := true, laidLooks := .later }
def CertificateUnderUptoCardSaid : Prop := Claim7.holds Tryz.pinned (.plain (OpenSpec.upto certificateUnderSpec)) certificateUnderUptoCard

/-- THE SECOND FORM's CARD OF 'insolvencylaw20.CertificateOnly'. -/
def certificateOnlyUptoCard : Claim7 := { stood := { row := certificateOnlyUptoRow, standIns := [], harness := (true, "8cca2c351206d027a355f84a4b77faf94631803787bddacd6b274197ca191a2a"), looks := false }, kinds := [], alts := [], laidByText := true, laidKinds := [.data, .pinned], laidTests := true, laidLooks := .later }
def CertificateOnlyUptoCardSaid : Prop := Claim7.holds Tryz.pinned (.plain (OpenSpec.upto certificateOnlySpec)) certificateOnlyUptoCard

/-- THE SECOND FORM's CARD OF 'insolvencylaw21.DefaultcostFree'. -/
def defaultcostFreeUptoCard : Claim7 := { stood := { row := defaultcostFreeUptoRow, standIns := [], harness := (true, "8cca2c351206d027a355f84a4b77faf94631803787bddacd6b274197ca191a2a"), looks := false }, kinds := [], alts := [], laidByText := true, laidKinds := [.data, .pinned], laidTests := true, laidLooks := .later }
def DefaultcostFreeUptoCardSaid : Prop := Claim7.holds Tryz.pinned (.plain (OpenSpec.upto defaultcostFreeSpec)) defaultcostFreeUptoCard

/-- THE SECOND FORM's CARD OF 'insolvencylaw21.DefaultcostExtremes'. -/
def defaultcostExtremesUptoCard : Claim7 := { stood := { row := defaultcostExtremesUptoRow, standIns := [], harness := (true, "8cca2c351206d027a355f84a4b77faf94631803787bddacd6b274197ca191a2a"), looks := false }, kinds := [], alts := [], laidByText := true, laidKinds := [.data, .pinned], laidTests := true, laidLooks := .later }
def DefaultcostExtremesUptoCardSaid : Prop := Claim7.holds Tryz.pinned (.plain (OpenSpec.upto defaultcostExtremesSpec)) defaultcostExtremesUptoCard

/-- THE SECOND FORM's CARD OF 'insolvencylaw21.DefaultcostCash'. -/
def defaultcostCashUptoCard : Claim7 := { stood := { row := defaultcostCashUptoRow, standIns := [], harness := (true, "8cca2c351206d027a355f84a4b77faf94631803787bddacd6b274197ca191a2a"), looks := false }, kinds := [], alts := [], laidByText := true, laidKinds := [.data, .pinned], laidTests := true, laidLooks := .later }
def DefaultcostCashUptoCardSaid : Prop := Claim7.holds Tryz.pinned (.plain (OpenSpec.upto defaultcostCashSpec)) defaultcostCashUptoCard
end Rows
end Go.Proofs.YtchhojplceoifaaGreatDoor
