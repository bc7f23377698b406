/-
  DERIVED. GIVEN WITH THE SEED: THE CARDS: each row of YtodnohicahohdaaGreatDoorRows.lean that lists a variable, with what it lists TIED to the program's text (the seventh form; the later family's looks); each row that meets fmt, with fmt's text TOLD by the authors' own Lean function (tested against real Go, not proved from fmt's source: count such statements apart). THE CARD IS WHAT COUNTS. Prove the row's statement (the work); the ties are given (YtodnohicahohdaaGreatDoorTie.lean); close each card by the builder's one call (the guide's Derived/Test/ToyasCard.lean, 'card_holds'). Laid BY PROGRAM, IN A SANDBOX (cutbox-door.mjs). By AI agents, Wed Nov 11 2026. No macro, syntax, notation, axiom, sorry.
-/
import Derived.Test.YtodnohicahohdaaGreatDoorRows
import GoSem.ClaimSeven
namespace Go.Proofs.YtodnohicahohdaaGreatDoor
namespace Rows

/-- THE TIED CARD OF 'insolvencylaw19.ClearingSolve'. -/
def clearingSolveCard : Claim7 := { stood := { row := clearingSolveRow, standIns := [], harness := (true, "b8f1f56793568bef6be16ba64d2f8dcc303349c542b1d92ebbe5afd60c82186e"), looks := false }, kinds := [], alts := [], laidByText := true, laidKinds := [.data, .pinned], laidTests := true, laidLooks := .later }
def ClearingSolveCardSaid : Prop := Claim7.holds Tryz.pinned (.plain (OpenSpec.ofChange clearingSolveSpec)) clearingSolveCard

/-- THE TIED CARD OF 'insolvencylaw19.ClearingLeast'. -/
def clearingLeastCard : Claim7 := { stood := { row := clearingLeastRow, standIns := [], harness := (true, "b8f1f56793568bef6be16ba64d2f8dcc303349c542b1d92ebbe5afd60c82186e"), looks := false }, kinds := [], alts := [], laidByText := true, laidKinds := [.data, .pinned], laidTests := true, laidLooks := .later }
def ClearingLeastCardSaid : Prop := Claim7.holds Tryz.pinned (.plain (OpenSpec.ofChange clearingLeastSpec)) clearingLeastCard

/-- THE TIED CARD OF 'insolvencylaw19.ClearingBuilt'. -/
def clearingBuiltCard : Claim7 := { stood := { row := clearingBuiltRow, standIns := [], harness := (true, "b8f1f56793568bef6be16ba64d2f8dcc303349c542b1d92ebbe5afd60c82186e"), looks := false }, kinds := [], alts := [], laidByText := true, laidKinds := [.data, .pinned], laidTests := true, laidLooks := .later }
def ClearingBuiltCardSaid : Prop := Claim7.holds Tryz.pinned (.plain (OpenSpec.ofChange clearingBuiltSpec)) clearingBuiltCard

/-- THE TIED CARD OF 'insolvencylaw23.DividendPlain'. -/
def dividendPlainCard : Claim7 := { stood := { row := dividendPlainRow, standIns := [], harness := (true, "b8f1f56793568bef6be16ba64d2f8dcc303349c542b1d92ebbe5afd60c82186e"), looks := false }, kinds := [], alts := [], laidByText := true, laidKinds := [.data, .pinned], laidTests := true, laidLooks := .later }
def DividendPlainCardSaid : Prop := Claim7.holds Tryz.pinned (.plain (OpenSpec.ofChange dividendPlainSpec)) dividendPlainCard

/-- THE TIED CARD OF 'insolvencylaw21.DefaultcostBest'. -/
def defaultcostBestCard : Claim7 := { stood := { row := defaultcostBestRow, standIns := [], harness := (true, "b8f1f56793568bef6be16ba64d2f8dcc303349c542b1d92ebbe5afd60c82186e"), looks := false }, kinds := [], alts := [], laidByText := true, laidKinds := [.data, .pinned], laidTests := true, laidLooks := .later }
def DefaultcostBestCardSaid : Prop := Claim7.holds Tryz.pinned (.plain (OpenSpec.ofChange defaultcostBestSpec)) defaultcostBestCard

/-- THE TIED CARD OF 'insolvencylaw20.CertificateMake'. -/
def certificateMakeCard : Claim7 := { stood := { row := certificateMakeRow, standIns := [], harness := (true, "b8f1f56793568bef6be16ba64d2f8dcc303349c542b1d92ebbe5afd60c82186e"), looks := false }, kinds := [], alts := [], laidByText := true, laidKinds := [.data, .pinned], laidTests := true, laidLooks := .later }
def CertificateMakeCardSaid : Prop := Claim7.holds Tryz.pinned (.plain (OpenSpec.ofChange certificateMakeSpec)) certificateMakeCard

/-- THE SECOND FORM's CARD OF 'insolvencylaw19.ClearingSolve'. -/
def clearingSolveUptoCard : Claim7 := { stood := { row := clearingSolveUptoRow, standIns := [], harness := (true, "b8f1f56793568bef6be16ba64d2f8dcc303349c542b1d92ebbe5afd60c82186e"), looks := false }, kinds := [], alts := [], laidByText := true, laidKinds := [.data, .pinned], laidTests := true, laidLooks := .later }
def ClearingSolveUptoCardSaid : Prop := Claim7.holds Tryz.pinned (.plain (OpenSpec.upto clearingSolveSpec)) clearingSolveUptoCard

/-- THE SECOND FORM's CARD OF 'insolvencylaw19.ClearingLeast'. -/
def clearingLeastUptoCard : Claim7 := { stood := { row := clearingLeastUptoRow, standIns := [], harness := (true, "b8f1f56793568bef6be16ba64d2f8dcc303349c542b1d92ebbe5afd60c82186e"), looks := false }, kinds := [], alts := [], laidByText := true, laidKinds := [.data, .pinned], laidTests := true, laidLooks := .later }
def ClearingLeastUptoCardSaid : Prop := Claim7.holds Tryz.pinned (.plain (OpenSpec.upto clearingLeastSpec)) clearingLeastUptoCard

/-- THE SECOND FORM's CARD OF 'insolvencylaw19.ClearingBuilt'. -/
def clearingBuiltUptoCard : Claim7 := { stood := { row := clearingBuiltUptoRow, standIns := [], harness := (true, "b8f1f56793568bef6be16ba64d2f8dcc303349c542b1d92ebbe5afd60c82186e"), looks := false }, kinds := [], alts := [], laidByText := true, laidKinds := [.data, .pinned], laidTests := true, laidLooks := .later }
def ClearingBuiltUptoCardSaid : Prop := Claim7.holds Tryz.pinned (.plain (OpenSpec.upto clearingBuiltSpec)) clearingBuiltUptoCard

/-- THE SECOND FORM's CARD OF 'insolvencylaw23.DividendPlain'. -/
def dividendPlainUptoCard : Claim7 := { stood := { row := dividendPlainUptoRow, standIns := [], harness := (true, "b8f1f56793568bef6be16ba64d2f8dcc303349c542b1d92ebbe5afd60c82186e"), looks := false }, kinds := [], alts := [], laidByText := true, laidKinds := [.data, .pinned], laidTests := true, laidLooks := .later }
def DividendPlainUptoCardSaid : Prop := Claim7.holds Tryz.pinned (.plain (OpenSpec.upto dividendPlainSpec)) dividendPlainUptoCard

/-- THE SECOND FORM's CARD OF 'insolvencylaw21.DefaultcostBest'. -/
def defaultcostBestUptoCard : Claim7 := { stood := { row := defaultcostBestUptoRow, standIns := [], harness := (true, "b8f1f56793568bef6be16ba64d2f8dcc303349c542b1d92ebbe5afd60c82186e"), looks := false }, kinds := [], alts := [], laidByText := true, laidKinds := [.data, .pinned], laidTests := true, laidLooks := .later }
def DefaultcostBestUptoCardSaid : Prop := Claim7.holds Tryz.pinned (.plain (OpenSpec.upto defaultcostBestSpec)) defaultcostBestUptoCard

/-- THE SECOND FORM's CARD OF 'insolvencylaw20.CertificateMake'. -/
def certificateMakeUptoCard : Claim7 := { stood := { row := certificateMakeUptoRow, standIns := [], harness := (true, "b8f1f56793568bef6be16ba64d2f8dcc303349c542b1d92ebbe5afd60c82186e"), looks := false }, kinds := [], alts := [], laidByText := true, laidKinds := [.data, .pinned], laidTests := true, laidLooks := .later }
def CertificateMakeUptoCardSaid : Prop := Claim7.holds Tryz.pinned (.plain (OpenSpec.upto certificateMakeSpec)) certificateMakeUptoCard
end Rows
end Go.Proofs.YtodnohicahohdaaGreatDoor
