/-
  DERIVED. GIVEN WITH THE SEED: THE CARDS: each row of YtobbllakdjampaaGreatDoorRows.lean that lists a variable, with what it lists TIED to the program's text (the seventh form; the later family's looks); each row that meets fmt, with fmt's text TOLD by the authors' own Lean function (tested against real Go, not proved from fmt's source: count such statements apart). THE CARD IS WHAT COUNTS. Prove the row's statement (the work); the ties are given (YtobbllakdjampaaGreatDoorTie.lean); close each card by the builder's one call (the guide's Derived/Test/ToyasCard.lean, 'card_holds'). Laid BY PROGRAM, IN A SANDBOX (cutbox-door.mjs). By AI agents, Wed Nov 11 2026. No macro, syntax, notation, axiom, sorry.
-/
import Derived.Test.YtobbllakdjampaaGreatDoorRows
import GoSem.ClaimSeven
namespace Go.Proofs.YtobbllakdjampaaGreatDoor
namespace Rows

/-- THE TIED CARD OF 'insolvencylaw31.LiquidationFloor'. -/
def liquidationFloorCard : Claim7 := { stood := { row := liquidationFloorRow, standIns := [], harness := (true, "282358144a85be71355ec4042cce875e25f6984de2200131c13afdb76eac9842"), looks := false }, kinds := [], alts := [], laidByText := true, laidKinds := [.data, .pinned], laidTests := true, laidLooks := .later }
def LiquidationFloorCardSaid : Prop := Claim7.holds Tryz.pinned (.plain (OpenSpec.ofChange liquidationFloorSpec)) liquidationFloorCard

/-- THE TIED CARD OF 'insolvencylaw31.LiquidationWorse'. -/
def liquidationWorseCard : Claim7 := { stood := { row := liquidationWorseRow, standIns := [], harness := (true, "282358144a85be71355ec4042cce875e25f6984de2200131c13afdb76eac9842"), looks := false }, kinds := [], alts := [], laidByText := true, laidKinds := [.data, .pinned], laidTests := true, laidLooks := .later }
def LiquidationWorseCardSaid : Prop := Claim7.holds Tryz.pinned (.plain (OpenSpec.ofChange liquidationWorseSpec)) liquidationWorseCard

/-- THE TIED CARD OF 'insolvencylaw31.LiquidationLeast'. -/
def liquidationLeastCard : Claim7 := { stood := { row := liquidationLeastRow, standIns := [], harness := (true, "282358144a85be71355ec4042cce875e25f6984de2200131c13afdb76eac9842"), looks := false }, kinds := [], alts := [], laidByText := true, laidKinds := [.data, .pinned], laidTests := true, laidLooks := .later }
def LiquidationLeastCardSaid : Prop := Claim7.holds Tryz.pinned (.plain (OpenSpec.ofChange liquidationLeastSpec)) liquidationLeastCard

/-- THE TIED CARD OF 'insolvencylaw31.LiquidationMore'. -/
def liquidationMoreCard : Claim7 := { stood := { row := liquidationMoreRow, standIns := [], harness := (true, "282358144a85be71355ec4042cce875e25f6984de2200131c13afdb76eac9842"), looks := false }, kinds := [], alts := [], laidByText := true, laidKinds := [.data, .pinned], laidTests := true, laidLooks := .later }
def LiquidationMoreCardSaid : Prop := Claim7.holds Tryz.pinned (.plain (OpenSpec.ofChange liquidationMoreSpec)) liquidationMoreCard

/-- THE TIED CARD OF 'insolvencylaw31.LiquidationForced'. -/
def liquidationForcedCard : Claim7 := { stood := { row := liquidationForcedRow, standIns := [], harness := (true, "282358144a85be71355ec4042cce875e25f6984de2200131c13afdb76eac9842"), looks := false }, kinds := [], alts := [], laidByText := true, laidKinds := [.data, .pinned], laidTests := true, laidLooks := .later }
def LiquidationForcedCardSaid : Prop := Claim7.holds Tryz.pinned (.plain (OpenSpec.ofChange liquidationForcedSpec)) liquidationForcedCard

/-- THE SECOND FORM's CARD OF 'insolvencylaw31.LiquidationFloor'. -/
def liquidationFloorUptoCard : Claim7 := { stood := { row := liquidationFloorUptoRow, standIns := [], harness := (true, "282358144a85be71355ec4042cce875e25f6984de2200131c13afdb76eac9842"), looks := false }, kinds := [], alts := [], laidByText := true, laidKinds := [.data, .pinned], laidTests := true, laidLooks := .later }
def LiquidationFloorUptoCardSaid : Prop := Claim7.holds Tryz.pinned (.plain (OpenSpec.upto liquidationFloorSpec)) liquidationFloorUptoCard

/-- THE SECOND FORM's CARD OF 'insolvencylaw31.LiquidationWorse'. -/
def liquidationWorseUptoCard : Claim7 := { stood := { row := liquidationWorseUptoRow, standIns := [], harness := (true, "282358144a85be71355ec4042cce875e25f6984de2200131c13afdb76eac9842"), looks := false }, kinds := [], alts := [], laidByText := true, laidKinds := [.data, .pinned], laidTests := true, laidLooks := .later }
def LiquidationWorseUptoCardSaid : Prop := Claim7.holds Tryz.pinned (.plain (OpenSpec.upto liquidationWorseSpec)) liquidationWorseUptoCard

/-- THE SECOND FORM's CARD OF 'insolvencylaw31.LiquidationLeast'. -/
def liquidationLeastUptoCard : Claim7 := { stood := { row := liquidationLeastUptoRow, standIns := [], harness := (true, "282358144a85be71355ec4042cce875e25f6984de2200131c13afdb76eac9842"), looks := false }, kinds := [], alts := [], laidByText := true, laidKinds := [.data, .pinned], laidTests := true, laidLooks := .later }
def LiquidationLeastUptoCardSaid : Prop := Claim7.holds Tryz.pinned (.plain (OpenSpec.upto liquidationLeastSpec)) liquidationLeastUptoCard

/-- THE SECOND FORM's CARD OF 'insolvencylaw31.LiquidationMore'. -/
def liquidationMoreUptoCard : Claim7 := { stood := { row := liquidationMoreUptoRow, standIns := [], harness := (true, "282358144a85be71355ec4042cce875e25f6984de2200131c13afdb76eac9842"), looks := false }, kinds := [], alts := [], laidByText := true, laidKinds := [.data, .pinned], laidTests := true, laidLooks := .later }
def LiquidationMoreUptoCardSaid : Prop := Claim7.holds Tryz.pinned (.plain (OpenSpec.upto liquidationMoreSpec)) liquidationMoreUptoCard

/-- THE SECOND FORM's CARD OF 'insolvencylaw31.LiquidationForced'. -/
def liquidationForcedUptoCard : Claim7 := { stood := { row := liquidationForcedUptoRow, standIns := [], harness := (true, "282358144a85be71355ec4042cce875e25f6984de2200131c13afdb76eac9842"), looks := false }, kinds := [], alts := [], laidByText := true, laidKinds := [.data, .pinned], laidTests := true, laidLooks := .later }
def LiquidationForcedUptoCardSaid : Prop := Claim7.holds Tryz.pinned (.plain (OpenSpec.upto liquidationForcedSpec)) liquidationForcedUptoCard
end Rows
end Go.Proofs.YtobbllakdjampaaGreatDoor
