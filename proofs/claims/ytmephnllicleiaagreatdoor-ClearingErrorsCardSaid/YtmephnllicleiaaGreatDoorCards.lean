/-
  DERIVED. GIVEN WITH THE SEED: THE CARDS: each row of YtmephnllicleiaaGreatDoorRows.lean that lists a variable, with what it lists TIED to the program's text (the seventh form; the later family's looks); each row that meets fmt, with fmt's text TOLD by the authors' own Lean function (tested against real Go, not proved from fmt's source: count such statements apart). THE CARD IS WHAT COUNTS. Prove the row's statement (the work); the ties are given (YtmephnllicleiaaGreatDoorTie.lean); close each card by the builder's one call (the guide's Derived/Test/ToyasCard.lean, 'card_holds'). Laid BY PROGRAM, IN A SANDBOX (cutbox-door.mjs). By AI agents, Wed Nov 11 2026. No macro, syntax, notation, axiom, sorry.
-/
import Derived.Test.YtmephnllicleiaaGreatDoorRows
import GoSem.ClaimSeven
namespace Go.Proofs.YtmephnllicleiaaGreatDoor
namespace Rows

/-- THE TIED CARD OF 'insolvencylaw19.ClearingErrors'. -/
def clearingErrorsCard : Claim7 := { stood := { row := clearingErrorsRow, standIns := [], harness := (true, "9d45dbfc563e3594f2e1a0325d92ebcb1778cf2198edc4c2558413848c6fd1da"), looks := false }, kinds := [], alts := [], laidByText := true, laidKinds := [.data, .pinned], laidTests := true, laidLooks := .later }
def ClearingErrorsCardSaid : Prop := Claim7.holds Tryz.pinned (.plain (OpenSpec.ofChange clearingErrorsSpec)) clearingErrorsCard

/-- THE TIED CARD OF 'insolvencylaw23.DividendNext'. -/
def dividendNextCard : Claim7 := { stood := { row := dividendNextRow, standIns := [], harness := (true, "9d45dbfc563e3594f2e1a0325d92ebcb1778cf2198edc4c2558413848c6fd1da"), looks := false }, kinds := [], alts := [], laidByText := true, laidKinds := [.data, .pinned], laidTests := true, laidLooks := .later }
def DividendNextCardSaid : Prop := Claim7.holds Tryz.pinned (.plain (OpenSpec.ofChange dividendNextSpec)) dividendNextCard

/-- THE SECOND FORM's CARD OF 'insolvencylaw19.ClearingErrors'. -/
def clearingErrorsUptoCard : Claim7 := { stood := { row := clearingErrorsUptoRow, standIns := [], harness := (true, "9d45dbfc563e3594f2e1a0325d92ebcb1778cf2198edc4c2558413848c6fd1da"), looks := false }, kinds := [], alts := [], laidByText := true, laidKinds := [.data, .pinned], laidTests := true, laidLooks := .later }
def ClearingErrorsUptoCardSaid : Prop := Claim7.holds Tryz.pinned (.plain (OpenSpec.upto clearingErrorsSpec)) clearingErrorsUptoCard

/-- THE SECOND FORM's CARD OF 'insolvencylaw23.DividendNext'. -/
def dividendNextUptoCard : Claim7 := { stood := { row := dividendNextUptoRow, standIns := [], harness := (true, "9d45dbfc563e3594f2e1a0325d92ebcb1778cf2198edc4c2558413848c6fd1da"), looks := false }, kinds := [], alts := [], laidByText := true, laidKinds := [.data, .pinned], laidTests := true, laidLooks := .later }
def DividendNextUptoCardSaid : Prop := Claim7.holds Tryz.pinned (.plain (OpenSpec.upto dividendNextSpec)) dividendNextUptoCard
end Rows
end Go.Proofs.YtmephnllicleiaaGreatDoor
