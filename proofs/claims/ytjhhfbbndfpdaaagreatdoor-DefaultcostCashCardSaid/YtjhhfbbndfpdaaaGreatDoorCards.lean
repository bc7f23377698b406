/-
  DERIVED. GIVEN WITH THE SEED: THE CARDS: each row of YtjhhfbbndfpdaaaGreatDoorRows.lean that lists a variable, with what it lists TIED to the program's text (the seventh form; the later family's looks); each row that meets fmt, with fmt's text TOLD by the authors' own Lean function (tested against real Go, not proved from fmt's source: count such statements apart). THE CARD IS WHAT COUNTS. Prove the row's statement (the work); the ties are given (YtjhhfbbndfpdaaaGreatDoorTie.lean); close each card by the builder's one call (the guide's Derived/Test/ToyasCard.lean, 'card_holds'). Laid BY PROGRAM, IN A SANDBOX (cutbox-door.mjs). By AI agents, Wed Nov 11 2026. No macro, syntax, notation, axiom, sorry.
-/
import Derived.Test.YtjhhfbbndfpdaaaGreatDoorRows
import GoSem.ClaimSeven
namespace Go.Proofs.YtjhhfbbndfpdaaaGreatDoor
namespace Rows

/-- THE TIED CARD OF 'insolvencylaw21.DefaultcostCash'. -/
def defaultcostCashCard : Claim7 := { stood := { row := defaultcostCashRow, standIns := [], harness := (true, "debf36cface32caf9934437ba6e685f0911932736f59523848523c31910e22cd"), looks := false }, kinds := [], alts := [], laidByText := true, laidKinds := [.data, .pinned], laidTests := true, laidLooks := .later }
def DefaultcostCashCardSaid : Prop := Claim7.holds Tryz.pinned (.plain (OpenSpec.ofChange defaultcostCashSpec)) defaultcostCashCard

/-- THE SECOND FORM's CARD OF 'insolvencylaw21.DefaultcostCash'. -/
def defaultcostCashUptoCard : Claim7 := { stood := { row := defaultcostCashUptoRow, standIns := [], harness := (true, "debf36cface32caf9934437ba6e685f0911932736f59523848523c31910e22cd"), looks := false }, kinds := [], alts := [], laidByText := true, laidKinds := [.data, .pinned], laidTests := true, laidLooks := .later }
def DefaultcostCashUptoCardSaid : Prop := Claim7.holds Tryz.pinned (.plain (OpenSpec.upto defaultcostCashSpec)) defaultcostCashUptoCard
end Rows
end Go.Proofs.YtjhhfbbndfpdaaaGreatDoor
