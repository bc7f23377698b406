/-
  NARROWER THAN 'FOR EVERY INPUT', by the rows' own cells (each row's printed sentence says how): DefaultcostShort: laid · DefaultcostCharge: laid · DividendRights: laid · DividendTotals: laid · DividendHold: laid · DividendLong: laid.
  DERIVED. THE GIVEN ROWS OF THIS SEAT. 6 by the template 'for every input the law returns true; each argument reads behind the call as it read before'; 0 by the template 'total and deterministic' (their statements: YtiaefgffeekfkaaGreatDoorTotals.lean).
  GIVEN WITH THE SEED: the statements are not yours to turn. If you find one false, say at which input.
  Laid BY PROGRAM, IN A SANDBOX (cutbox-rows.mjs): the forced cells as the released guide's own fill.sh prints them over the translation 09b6a6a84815610e… (all of the seat's roots in one cut). By AI agents, Wed Nov 11 2026. No macro, syntax, notation, axiom, sorry.
-/
import Derived.Test.YtiaefgffeekfkaaGreatDoorChecked
import GoSem.PinnedTables
import GoSem.Claim
import GoSem.ClaimJoined
import GoSem.ClaimMapViews
import Derived.JoinedTies
import Derived.KernelRfl
namespace Go.Proofs.YtiaefgffeekfkaaGreatDoor
/- THE CELL 'sum', in the pinned program and in every row, IS THE sha256 OF THE DUMP (.gsa) THAT YtiaefgffeekfkaaGreatDoorProg.lean LOADS. Nothing in Lean hashes anything: it is a label: what it is worth is what the hold of that sum in a sandbox is worth. -/
noncomputable def Tryz.pinned : Pinned := { name := "ytiaefgffeekfkaagreatdoor", sum := "09b6a6a84815610e0fc555a480a745ebd5220e850d5ca6fe1cdce1ca0cba2909", checked := Tryz.checked }
namespace Rows
def none {H : Type} : Left H := { results := [], args := [] }

/- WHAT THE LISTED PACKAGE-LEVEL VARIABLES READ AS WHEN THE CALL BEGINS. Each datum BY PROGRAM (the guide's laid-datum.mjs) off the statement by which the dump's own 'gosem.cut.vars' lays the variable. In a bare row this is a premise. The card (YtiaefgffeekfkaaGreatDoorCards.lean) ties it to the program's text. -/
def laid_unicode_utf8_acceptRanges {H : Type} : DataW H := .agg [.agg [.lit (.int .u8 128), .lit (.int .u8 191)], .agg [.lit (.int .u8 160), .lit (.int .u8 191)], .agg [.lit (.int .u8 128), .lit (.int .u8 159)], .agg [.lit (.int .u8 144), .lit (.int .u8 191)], .agg [.lit (.int .u8 128), .lit (.int .u8 143)], .agg [.lit (.int .u8 0), .lit (.int .u8 0)], .agg [.lit (.int .u8 0), .lit (.int .u8 0)], .agg [.lit (.int .u8 0), .lit (.int .u8 0)], .agg [.lit (.int .u8 0), .lit (.int .u8 0)], .agg [.lit (.int .u8 0), .lit (.int .u8 0)], .agg [.lit (.int .u8 0), .lit (.int .u8 0)], .agg [.lit (.int .u8 0), .lit (.int .u8 0)], .agg [.lit (.int .u8 0), .lit (.int .u8 0)], .agg [.lit (.int .u8 0), .lit (.int .u8 0)], .agg [.lit (.int .u8 0), .lit (.int .u8 0)], .agg [.lit (.int .u8 0), .lit (.int .u8 0)]]
/-- One of Go's own tables, pinned by name: the form's constant. -/
def laid_unicode_utf8_first : DataW Unit := Go.Pinned.utf8First

/-- 'insolvencylaw21.DefaultcostShort': WHATEVER THE INPUT: true; the input reads as it did. -/
def defaultcostShortSpec : ChangeSpec := { name := "defaultcostShort", fn := fun _ => fun
  | [d1, d2, d3, d4, d5] => { results := [.lit (.bool true)], args := [d1, d2, d3, d4, d5] }
  | _ => none }
def defaultcostShortRow : OpenClaim := { program := "ytiaefgffeekfkaagreatdoor", sum := "09b6a6a84815610e0fc555a480a745ebd5220e850d5ca6fe1cdce1ca0cba2909", func := "insolvency/insolvencylaw21.DefaultcostShort", spec := "defaultcostShort", inPlace := ["internal/bytealg.IndexByteString", "internal/bytealg.IndexString", "internal/bytealg.abigen_runtime_cmpstring"], unfollowed := true, recurses := true, named := ["unicode/utf8.first", "unicode/utf8.acceptRanges", "internal/bytealg.MaxLen"], plainKeys := false, apart := false, laid := [("unicode/utf8.acceptRanges", laid_unicode_utf8_acceptRanges), ("unicode/utf8.first", laid_unicode_utf8_first)] }
def DefaultcostShortSaid : Prop := defaultcostShortRow.holds Tryz.pinned (OpenSpec.ofChange defaultcostShortSpec)

/-- ITS FALSE NEIGHBOUR: 'it returns false'. Refute it at one input. -/
def defaultcostShortWrong : ChangeSpec := { name := "defaultcostShort", fn := fun _ => fun
  | [d1, d2, d3, d4, d5] => { results := [.lit (.bool false)], args := [d1, d2, d3, d4, d5] }
  | _ => none }
def DefaultcostShortWrongFalsely : Prop := defaultcostShortRow.holds Tryz.pinned (OpenSpec.ofChange defaultcostShortWrong)

/-- 'insolvencylaw21.DefaultcostCharge': WHATEVER THE INPUT: true; the input reads as it did. -/
def defaultcostChargeSpec : ChangeSpec := { name := "defaultcostCharge", fn := fun _ => fun
  | [d1, d2, d3, d4, d5, d6, d7] => { results := [.lit (.bool true)], args := [d1, d2, d3, d4, d5, d6, d7] }
  | _ => none }
def defaultcostChargeRow : OpenClaim := { program := "ytiaefgffeekfkaagreatdoor", sum := "09b6a6a84815610e0fc555a480a745ebd5220e850d5ca6fe1cdce1ca0cba2909", func := "insolvency/insolvencylaw21.DefaultcostCharge", spec := "defaultcostCharge", inPlace := ["internal/bytealg.IndexByteString", "internal/bytealg.IndexString", "internal/bytealg.abigen_runtime_cmpstring"], unfollowed := true, recurses := true, named := ["unicode/utf8.first", "unicode/utf8.acceptRanges", "internal/bytealg.MaxLen"], plainKeys := false, apart := false, laid := [("unicode/utf8.acceptRanges", laid_unicode_utf8_acceptRanges), ("unicode/utf8.first", laid_unicode_utf8_first)] }
def DefaultcostChargeSaid : Prop := defaultcostChargeRow.holds Tryz.pinned (OpenSpec.ofChange defaultcostChargeSpec)

/-- ITS FALSE NEIGHBOUR: 'it returns false'. Refute it at one input. -/
def defaultcostChargeWrong : ChangeSpec := { name := "defaultcostCharge", fn := fun _ => fun
  | [d1, d2, d3, d4, d5, d6, d7] => { results := [.lit (.bool false)], args := [d1, d2, d3, d4, d5, d6, d7] }
  | _ => none }
def DefaultcostChargeWrongFalsely : Prop := defaultcostChargeRow.holds Tryz.pinned (OpenSpec.ofChange defaultcostChargeWrong)

/-- 'insolvencylaw23.DividendRights': WHATEVER THE INPUT: true; the input reads as it did. -/
def dividendRightsSpec : ChangeSpec := { name := "dividendRights", fn := fun _ => fun
  | [d1, d2, d3, d4, d5] => { results := [.lit (.bool true)], args := [d1, d2, d3, d4, d5] }
  | _ => none }
def dividendRightsRow : OpenClaim := { program := "ytiaefgffeekfkaagreatdoor", sum := "09b6a6a84815610e0fc555a480a745ebd5220e850d5ca6fe1cdce1ca0cba2909", func := "insolvency/insolvencylaw23.DividendRights", spec := "dividendRights", inPlace := ["internal/bytealg.IndexByteString", "internal/bytealg.IndexString", "internal/bytealg.abigen_runtime_cmpstring"], unfollowed := true, recurses := true, named := ["unicode/utf8.first", "unicode/utf8.acceptRanges", "internal/bytealg.MaxLen"], plainKeys := false, apart := false, laid := [("unicode/utf8.acceptRanges", laid_unicode_utf8_acceptRanges), ("unicode/utf8.first", laid_unicode_utf8_first)] }
def DividendRightsSaid : Prop := dividendRightsRow.holds Tryz.pinned (OpenSpec.ofChange dividendRightsSpec)

/-- ITS FALSE NEIGHBOUR: 'it returns false'. Refute it at one input. -/
def dividendRightsWrong : ChangeSpec := { name := "dividendRights", fn := fun _ => fun
  | [d1, d2, d3, d4, d5] => { results := [.lit (.bool false)], args := [d1, d2, d3, d4, d5] }
  | _ => none }
def DividendRightsWrongFalsely : Prop := dividendRightsRow.holds Tryz.pinned (OpenSpec.ofChange dividendRightsWrong)

/-- 'insolvencylaw23.DividendTotals': WHATEVER THE INPUT: true; the input reads as it did. -/
def dividendTotalsSpec : ChangeSpec := { name := "dividendTotals", fn := fun _ => fun
  | [d1, d2, d3, d4, d5] => { results := [.lit (.bool true)], args := [d1, d2, d3, d4, d5] }
  | _ => none }
def dividendTotalsRow : OpenClaim := { program := "ytiaefgffeekfkaagreatdoor", sum := "09b6a6a84815610e0fc555a480a745ebd5220e850d5ca6fe1cdce1ca0cba2909", func := "insolvency/insolvencylaw23.DividendTotals", spec := "dividendTotals", inPlace := ["internal/bytealg.IndexByteString", "internal/bytealg.IndexString", "internal/bytealg.abigen_runtime_cmpstring"], unfollowed := true, recurses := true, named := ["unicode/utf8.first", "unicode/utf8.acceptRanges", "internal/bytealg.MaxLen"], plainKeys := false, apart := false, laid := [("unicode/utf8.acceptRanges", laid_unicode_utf8_acceptRanges), ("unicode/utf8.first", laid_unicode_utf8_first)] }
def DividendTotalsSaid : Prop := dividendTotalsRow.holds Tryz.pinned (OpenSpec.ofChange dividendTotalsSpec)

/-- ITS FALSE NEIGHBOUR: 'it returns false'. Refute it at one input. -/
def dividendTotalsWrong : ChangeSpec := { name := "dividendTotals", fn := fun _ => fun
  | [d1, d2, d3, d4, d5] => { results := [.lit (.bool false)], args := [d1, d2, d3, d4, d5] }
  | _ => none }
def DividendTotalsWrongFalsely : Prop := dividendTotalsRow.holds Tryz.pinned (OpenSpec.ofChange dividendTotalsWrong)

/-- 'insolvencylaw23.DividendHold': WHATEVER THE INPUT: true; the input reads as it did. -/
def dividendHoldSpec : ChangeSpec := { name := "dividendHold", fn := fun _ => fun
  | [d1, d2, d3, d4, d5, d6] => { results := [.lit (.bool true)], args := [d1, d2, d3, d4, d5, d6] }
  | _ => none }
def dividendHoldRow : OpenClaim := { program := "ytiaefgffeekfkaagreatdoor", sum := "09b6a6a84815610e0fc555a480a745ebd5220e850d5ca6fe1cdce1ca0cba2909", func := "insolvency/insolvencylaw23.DividendHold", spec := "dividendHold", inPlace := ["internal/bytealg.IndexByteString", "internal/bytealg.IndexString", "internal/bytealg.abigen_runtime_cmpstring"], unfollowed := true, recurses := true, named := ["unicode/utf8.first", "unicode/utf8.acceptRanges", "internal/bytealg.MaxLen"], plainKeys := false, apart := false, laid := [("unicode/utf8.acceptRanges", laid_unicode_utf8_acceptRanges), ("unicode/utf8.first", laid_unicode_utf8_first)] }
def DividendHoldSaid : Prop := dividendHoldRow.holds Tryz.pinned (OpenSpec.ofChange dividendHoldSpec)

/-- ITS FALSE NEIGHBOUR: 'it returns false'. Refute it at one input. -/
def dividendHoldWrong : ChangeSpec := { name := "dividendHold", fn := fun _ => fun
  | [d1, d2, d3, d4, d5, d6] => { results := [.lit (.bool false)], args := [d1, d2, d3, d4, d5, d6] }
  | _ => none }
def DividendHoldWrongFalsely : Prop := dividendHoldRow.holds Tryz.pinned (OpenSpec.ofChange dividendHoldWrong)

/-- 'insolvencylaw23.DividendLong': WHATEVER THE INPUT: true; the input reads as it did. -/
def dividendLongSpec : ChangeSpec := { name := "dividendLong", fn := fun _ => fun
  | [d1, d2, d3, d4] => { results := [.lit (.bool true)], args := [d1, d2, d3, d4] }
  | _ => none }
def dividendLongRow : OpenClaim := { program := "ytiaefgffeekfkaagreatdoor", sum := "09b6a6a84815610e0fc555a480a745ebd5220e850d5ca6fe1cdce1ca0cba2909", func := "insolvency/insolvencylaw23.DividendLong", spec := "dividendLong", inPlace := ["internal/bytealg.IndexByteString", "internal/bytealg.IndexString", "internal/bytealg.abigen_runtime_cmpstring"], unfollowed := true, recurses := true, named := ["unicode/utf8.first", "unicode/utf8.acceptRanges", "internal/bytealg.MaxLen"], plainKeys := false, apart := false, laid := [("unicode/utf8.acceptRanges", laid_unicode_utf8_acceptRanges), ("unicode/utf8.first", laid_unicode_utf8_first)] }
def DividendLongSaid : Prop := dividendLongRow.holds Tryz.pinned (OpenSpec.ofChange dividendLongSpec)

/-- ITS FALSE NEIGHBOUR: 'it returns false'. Refute it at one input. -/
def dividendLongWrong : ChangeSpec := { name := "dividendLong", fn := fun _ => fun
  | [d1, d2, d3, d4] => { results := [.lit (.bool false)], args := [d1, d2, d3, d4] }
  | _ => none }
def DividendLongWrongFalsely : Prop := dividendLongRow.holds Tryz.pinned (OpenSpec.ofChange dividendLongWrong)

/- THE SECOND FORM. 'bulk': how many values and letters a reading holds, each counted each time it is reached (what is shared counts as often as it is met; a slice's spare places count too). A statement '..UptoSaid' is the law's where the arguments, and the package variables that the reading takes, are together of bulk at most 1048576: NARROWER than '..Said'. Prove '..Said' where nothing that the law and all that it calls make is longer than what came in: it says more and counts as full. Else prove '..UptoSaid'. A law counts once. -/
mutual
def uptoBulk {H : Type} : DataW H → Nat
  | .lit (.string bytes) => bytes.length + 1
  | .lit _ => 1
  | .nil => 1
  | .ptr d => uptoBulk d + 1
  | .slice elems spare => uptoBulkAll elems + uptoBulkAll spare + 1
  | .agg parts => uptoBulkAll parts + 1
  | .iface _ d => uptoBulk d + 1
  | .map entries => uptoBulkEntries entries + 1
  | .held _ => 1
def uptoBulkAll {H : Type} : List (DataW H) → Nat
  | [] => 0
  | d :: r => uptoBulk d + uptoBulkAll r
def uptoBulkEntries {H : Type} : List (Lit × DataW H) → Nat
  | [] => 0
  | x :: r => uptoBulkEntry x + uptoBulkEntries r
def uptoBulkEntry {H : Type} : Lit × DataW H → Nat
  | (.string bytes, d) => bytes.length + uptoBulk d + 1
  | (_, d) => uptoBulk d + 1
 end
def uptoSmall : (H : Type) → List (DataW H) → Bool := fun _ ds => decide (uptoBulkAll ds ≤ 1048576)
def OpenSpec.upto (s : _root_.Go.ChangeSpec) : _root_.Go.OpenSpec := { _root_.Go.OpenSpec.ofChange s with cond := some uptoSmall }

/-- 'insolvencylaw21.DefaultcostShort', WHERE WHAT IT READS IS OF BULK AT MOST 1048576: true; the input reads as it did. -/
def defaultcostShortUptoRow : OpenClaim := { program := "ytiaefgffeekfkaagreatdoor", sum := "09b6a6a84815610e0fc555a480a745ebd5220e850d5ca6fe1cdce1ca0cba2909", func := "insolvency/insolvencylaw21.DefaultcostShort", spec := "defaultcostShort", inPlace := ["internal/bytealg.IndexByteString", "internal/bytealg.IndexString", "internal/bytealg.abigen_runtime_cmpstring"], unfollowed := true, recurses := true, named := ["unicode/utf8.first", "unicode/utf8.acceptRanges", "internal/bytealg.MaxLen"], plainKeys := false, apart := false, laid := [("unicode/utf8.acceptRanges", laid_unicode_utf8_acceptRanges), ("unicode/utf8.first", laid_unicode_utf8_first)], narrowed := true }
def DefaultcostShortUptoSaid : Prop := defaultcostShortUptoRow.holds Tryz.pinned (OpenSpec.upto defaultcostShortSpec)

/-- 'insolvencylaw21.DefaultcostCharge', WHERE WHAT IT READS IS OF BULK AT MOST 1048576: true; the input reads as it did. -/
def defaultcostChargeUptoRow : OpenClaim := { program := "ytiaefgffeekfkaagreatdoor", sum := "09b6a6a84815610e0fc555a480a745ebd5220e850d5ca6fe1cdce1ca0cba2909", func := "insolvency/insolvencylaw21.DefaultcostCharge", spec := "defaultcostCharge", inPlace := ["internal/bytealg.IndexByteString", "internal/bytealg.IndexString", "internal/bytealg.abigen_runtime_cmpstring"], unfollowed := true, recurses := true, named := ["unicode/utf8.first", "unicode/utf8.acceptRanges", "internal/bytealg.MaxLen"], plainKeys := false, apart := false, laid := [("unicode/utf8.acceptRanges", laid_unicode_utf8_acceptRanges), ("unicode/utf8.first", laid_unicode_utf8_first)], narrowed := true }
def DefaultcostChargeUptoSaid : Prop := defaultcostChargeUptoRow.holds Tryz.pinned (OpenSpec.upto defaultcostChargeSpec)

/-- 'insolvencylaw23.DividendRights', WHERE WHAT IT READS IS OF BULK AT MOST 1048576: true; the input reads as it did. -/
def dividendRightsUptoRow : OpenClaim := { program := "ytiaefgffeekfkaagreatdoor", sum := "09b6a6a84815610e0fc555a480a745ebd5220e850d5ca6fe1cdce1ca0cba2909", func := "insolvency/insolvencylaw23.DividendRights", spec := "dividendRights", inPlace := ["internal/bytealg.IndexByteString", "internal/bytealg.IndexString", "internal/bytealg.abigen_runtime_cmpstring"], unfollowed := true, recurses := true, named := ["unicode/utf8.first", "unicode/utf8.acceptRanges", "internal/bytealg.MaxLen"], plainKeys := false, apart := false, laid := [("unicode/utf8.acceptRanges", laid_unicode_utf8_acceptRanges), ("unicode/utf8.first", laid_unicode_utf8_first)], narrowed := true }
def DividendRightsUptoSaid : Prop := dividendRightsUptoRow.holds Tryz.pinned (OpenSpec.upto dividendRightsSpec)

/-- 'insolvencylaw23.DividendTotals', WHERE WHAT IT READS IS OF BULK AT MOST 1048576: true; the input reads as it did. -/
def dividendTotalsUptoRow : OpenClaim := { program := "ytiaefgffeekfkaagreatdoor", sum := "09b6a6a84815610e0fc555a480a745ebd5220e850d5ca6fe1cdce1ca0cba2909", func := "insolvency/insolvencylaw23.DividendTotals", spec := "dividendTotals", inPlace := ["internal/bytealg.IndexByteString", "internal/bytealg.IndexString", "internal/bytealg.abigen_runtime_cmpstring"], unfollowed := true, recurses := true, named := ["unicode/utf8.first", "unicode/utf8.acceptRanges", "internal/bytealg.MaxLen"], plainKeys := false, apart := false, laid := [("unicode/utf8.acceptRanges", laid_unicode_utf8_acceptRanges), ("unicode/utf8.first", laid_unicode_utf8_first)], narrowed := true }
def DividendTotalsUptoSaid : Prop := dividendTotalsUptoRow.holds Tryz.pinned (OpenSpec.upto dividendTotalsSpec)

/-- 'insolvencylaw23.DividendHold', WHERE WHAT IT READS IS OF BULK AT MOST 1048576: true; the input reads as it did. -/
def dividendHoldUptoRow : OpenClaim := { program := "ytiaefgffeekfkaagreatdoor", sum := "09b6a6a84815610e0fc555a480a745ebd5220e850d5ca6fe1cdce1ca0cba2909", func := "insolvency/insolvencylaw23.DividendHold", spec := "dividendHold", inPlace := ["internal/bytealg.IndexByteString", "internal/bytealg.IndexString", "internal/bytealg.abigen_runtime_cmpstring"], unfollowed := true, recurses := true, named := ["unicode/utf8.first", "unicode/utf8.acceptRanges", "internal/bytealg.MaxLen"], plainKeys := false, apart := false, laid := [("unicode/utf8.acceptRanges", laid_unicode_utf8_acceptRanges), ("unicode/utf8.first", laid_unicode_utf8_first)], narrowed := true }
def DividendHoldUptoSaid : Prop := dividendHoldUptoRow.holds Tryz.pinned (OpenSpec.upto dividendHoldSpec)

/-- 'insolvencylaw23.DividendLong', WHERE WHAT IT READS IS OF BULK AT MOST 1048576: true; the input reads as it did. -/
def dividendLongUptoRow : OpenClaim := { program := "ytiaefgffeekfkaagreatdoor", sum := "09b6a6a84815610e0fc555a480a745ebd5220e850d5ca6fe1cdce1ca0cba2909", func := "insolvency/insolvencylaw23.DividendLong", spec := "dividendLong", inPlace := ["internal/bytealg.IndexByteString", "internal/bytealg.IndexString", "internal/bytealg.abigen_runtime_cmpstring"], unfollowed := true, recurses := true, named := ["unicode/utf8.first", "unicode/utf8.acceptRanges", "internal/bytealg.MaxLen"], plainKeys := false, apart := false, laid := [("unicode/utf8.acceptRanges", laid_unicode_utf8_acceptRanges), ("unicode/utf8.first", laid_unicode_utf8_first)], narrowed := true }
def DividendLongUptoSaid : Prop := dividendLongUptoRow.holds Tryz.pinned (OpenSpec.upto dividendLongSpec)

end Rows
end Go.Proofs.YtiaefgffeekfkaaGreatDoor
