/-
  DERIVED. GIVEN WITH THE SEED: THE CARDS: each row of YtiaefgffeekfkaaGreatDoorRows.lean that lists a variable, with what it lists TIED to the program's text (the seventh form; the later family's looks); each row that meets fmt, with fmt's text TOLD by the authors' own Lean function (tested against real Go, not proved from fmt's source: count such statements apart). THE CARD IS WHAT COUNTS. Prove the row's statement (the work); the ties are given (YtiaefgffeekfkaaGreatDoorTie.lean); close each card by the builder's one call (the guide's Derived/Test/ToyasCard.lean, 'card_holds'). Laid BY PROGRAM, IN A SANDBOX (cutbox-door.mjs). By AI agents, Wed Nov 11 2026. No macro, syntax, notation, axiom, sorry.
-/
import Derived.Test.YtiaefgffeekfkaaGreatDoorRows
import GoSem.ClaimSeven
namespace Go.Proofs.YtiaefgffeekfkaaGreatDoor
namespace Rows

/-- THE TIED CARD OF 'insolvencylaw21.DefaultcostShort'. -/
def defaultcostShortCard : Claim7 := { stood := { row := defaultcostShortRow, standIns := [], harness := (true, "a8941af366c8028c5a0e538adf3d9ea304c1965b694454c51b6edfa7dd2be2ec"), looks := false }, kinds := [], alts := [], laidByText := true, laidKinds := [.data, .pinned], laidTests := true, laidLooks := .later }
def DefaultcostShortCardSaid : Prop := Claim7.holds Tryz.pinned (.plain (OpenSpec.ofChange defaultcostShortSpec)) defaultcostShortCard

/-- THE TIED CARD OF 'insolvencylaw21.DefaultcostCharge'. -/
def defaultcostChargeCard : Claim7 := { stood := { row := defaultcostChargeRow, standIns := [], harness := (true, "a8941af366c8028c5a0e538adf3d9ea304c1965b694454c51b6edfa7dd2be2ec"), looks := false }, kinds := [], alts := [], laidByText := true, laidKinds := [.data, .pinned], laidTests := true, laidLooks := .later }
def DefaultcostChargeCardSaid : Prop := Claim7.holds Tryz.pinned (.plain (OpenSpec.ofChange defaultcostChargeSpec)) defaultcostChargeCard

/-- THE TIED CARD OF 'insolvencylaw23.DividendRights'. -/
def dividendRightsCard : Claim7 := { stood := { row := dividendRightsRow, standIns := [], harness := (true, "a8941af366c8028c5a0e538adf3d9ea304c1965b694454c51b6edfa7dd2be2ec"), looks := false }, kinds := [], alts := [], laidByText := true, laidKinds := [.data, .pinned], laidTests := true, laidLooks := .later }
def DividendRightsCardSaid : Prop := Claim7.holds Tryz.pinned (.plain (OpenSpec.ofChange dividendRightsSpec)) dividendRightsCard

/-- THE TIED CARD OF 'insolvencylaw23.DividendTotals'. -/
def dividendTotalsCard : Claim7 := { stood := { row := dividendTotalsRow, standIns := [], harness := (true, "a8941af366c8028c5a0e538adf3d9ea304c1965b694454c51b6edfa7dd2be2ec"), looks := false }, kinds := [], alts := [], laidByText := true, laidKinds := [.data, .pinned], laidTests := true, laidLooks := .later }
def DividendTotalsCardSaid : Prop := Claim7.holds Tryz.pinned (.plain (OpenSpec.ofChange dividendTotalsSpec)) dividendTotalsCard

/-- THE TIED CARD OF 'insolvencylaw23.DividendHold'. -/
def dividendHoldCard : Claim7 := { stood := { row := dividendHoldRow, standIns := [], harness := (true, "a8941af366c8028c5a0e538adf3d9ea304c1965b694454c51b6edfa7dd2be2ec"), looks := false }, kinds := [], alts := [], laidByText := true, laidKinds := [.data, .pinned], laidTests := true, laidLooks := .later }
def DividendHoldCardSaid : Prop := Claim7.holds Tryz.pinned (.plain (OpenSpec.ofChange dividendHoldSpec)) dividendHoldCard

/-- THE TIED CARD OF 'insolvencylaw23.DividendLong'. -/
def dividendLongCard : Claim7 := { stood := { row := dividendLongRow, standIns := [], harness := (true, "a8941af366c8028c5a0e538adf3d9ea304c1965b694454c51b6edfa7dd2be2ec"), looks := false }, kinds := [], alts := [], laidByText := true, laidKinds := [.data, .pinned], laidTests := true, laidLooks := .later }
def DividendLongCardSaid : Prop := Claim7.holds Tryz.pinned (.plain (OpenSpec.ofChange dividendLongSpec)) dividendLongCard

/-- THE SECOND FORM's CARD OF 'insolvencylaw21.DefaultcostShort'. -/
def defaultcostShortUptoCard : Claim7 := { stood := { row := defaultcostShortUptoRow, standIns := [], harness := (true, "a8941af366c8028c5a0e538adf3d9ea304c1965b694454c51b6edfa7dd2be2ec"), looks := false }, kinds := [], alts := [], laidByText := true, laidKinds := [.data, .pinned], laidTests := true, laidLooks := .later }
def DefaultcostShortUptoCardSaid : Prop := Claim7.holds Tryz.pinned (.plain (OpenSpec.upto defaultcostShortSpec)) defaultcostShortUptoCard

/-- THE SECOND FORM's CARD OF 'insolvencylaw21.DefaultcostCharge'. -/
def defaultcostChargeUptoCard : Claim7 := { stood := { row := defaultcostChargeUptoRow, standIns := [], harness := (true, "a8941af366c8028c5a0e538adf3d9ea304c1965b694454c51b6edfa7dd2be2ec"), looks := false }, kinds := [], alts := [], laidByText := true, laidKinds := [.data, .pinned], laidTests := true, laidLooks := .later }
def DefaultcostChargeUptoCardSaid : Prop := Claim7.holds Tryz.pinned (.plain (OpenSpec.upto defaultcostChargeSpec)) defaultcostChargeUptoCard

/-- THE SECOND FORM's CARD OF 'insolvencylaw23.DividendRights'. -/
def dividendRightsUptoCard : Claim7 := { stood := { row := dividendRightsUptoRow, standIns := [], harness := (true, "a8941af366c8028c5a0e538adf3d9ea304c1965b694454c51b6edfa7dd2be2ec"), looks := false }, kinds := [], alts := [], laidByText := true, laidKinds := [.data, .pinned], laidTests := true, laidLooks := .later }
def DividendRightsUptoCardSaid : Prop := Claim7.holds Tryz.pinned (.plain (OpenSpec.upto dividendRightsSpec)) dividendRightsUptoCard

/-- THE SECOND FORM's CARD OF 'insolvencylaw23.DividendTotals'. -/
def dividendTotalsUptoCard : Claim7 := { stood := { row := dividendTotalsUptoRow, standIns := [], harness := (true, "a8941af366c8028c5a0e538adf3d9ea304c1965b694454c51b6edfa7dd2be2ec"), looks := false }, kinds := [], alts := [], laidByText := true, laidKinds := [.data, .pinned], laidTests := true, laidLooks := .later }
def DividendTotalsUptoCardSaid : Prop := Claim7.holds Tryz.pinned (.plain (OpenSpec.upto dividendTotalsSpec)) dividendTotalsUptoCard

/-- THE SECOND FORM's CARD OF 'insolvencylaw23.DividendHold'. -/
def dividendHoldUptoCard : Claim7 := { stood := { row := dividendHoldUptoRow, standIns := [], harness := (true, "a8941af366c8028c5a0e538adf3d9ea304c1965b694454c51b6edfa7dd2be2ec"), looks := false }, kinds := [], alts := [], laidByText := true, laidKinds := [.data, .pinned], laidTests := true, laidLooks := .later }
def DividendHoldUptoCardSaid : Prop := Claim7.holds Tryz.pinned (.plain (OpenSpec.upto dividendHoldSpec)) dividendHoldUptoCard

/-- THE SECOND FORM's CARD OF 'insolvencylaw23.DividendLong'. -/
def dividendLongUptoCard : Claim7 := { stood := { row := dividendLongUptoRow, standIns := [], harness := (true, "a8941af366c8028c5a0e538adf3d9ea304c1965b694454c51b6edfa7dd2be2ec"), looks := false }, kinds := [], alts := [], laidByText := true, laidKinds := [.data, .pinned], laidTests := true, laidLooks := .later }
def DividendLongUptoCardSaid : Prop := Claim7.holds Tryz.pinned (.plain (OpenSpec.upto dividendLongSpec)) dividendLongUptoCard
end Rows
end Go.Proofs.YtiaefgffeekfkaaGreatDoor
