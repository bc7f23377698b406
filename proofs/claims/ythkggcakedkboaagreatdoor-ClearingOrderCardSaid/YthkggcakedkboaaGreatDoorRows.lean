/-
  NARROWER THAN 'FOR EVERY INPUT', by the rows' own cells (each row's printed sentence says how): ClearingFixpoints: laid · ClearingGreatest: laid · ClearingIterates: laid · ClearingConservation: laid · ClearingCash: laid · ClearingOutside: laid · ClearingOrder: laid · ClearingFair: laid · ClearingRing: laid.
  DERIVED. THE GIVEN ROWS OF THIS SEAT. 9 by the template 'for every input the law returns true; each argument reads behind the call as it read before'; 0 by the template 'total and deterministic' (their statements: YthkggcakedkboaaGreatDoorTotals.lean).
  GIVEN WITH THE SEED: the statements are not yours to turn. If you find one false, say at which input.
  Laid BY PROGRAM, IN A SANDBOX (cutbox-rows.mjs): the forced cells as the released guide's own fill.sh prints them over the translation 9fe4c7f12e771828… (all of the seat's roots in one cut). By AI agents, Wed Nov 11 2026. No macro, syntax, notation, axiom, sorry.
-/
import Derived.Test.YthkggcakedkboaaGreatDoorChecked
import GoSem.PinnedTables
import GoSem.Claim
import GoSem.ClaimJoined
import GoSem.ClaimMapViews
import Derived.JoinedTies
import Derived.KernelRfl
namespace Go.Proofs.YthkggcakedkboaaGreatDoor
/- THE CELL 'sum', in the pinned program and in every row, IS THE sha256 OF THE DUMP (.gsa) THAT YthkggcakedkboaaGreatDoorProg.lean LOADS. Nothing in Lean hashes anything: it is a label: what it is worth is what the hold of that sum in a sandbox is worth. -/
noncomputable def Tryz.pinned : Pinned := { name := "ythkggcakedkboaagreatdoor", sum := "9fe4c7f12e7718280600acca00315b3cafd972883c3e6627beb9764c401f62be", checked := Tryz.checked }
namespace Rows
def none {H : Type} : Left H := { results := [], args := [] }

/- WHAT THE LISTED PACKAGE-LEVEL VARIABLES READ AS WHEN THE CALL BEGINS. Each datum BY PROGRAM (the guide's laid-datum.mjs) off the statement by which the dump's own 'gosem.cut.vars' lays the variable. In a bare row this is a premise. The card (YthkggcakedkboaaGreatDoorCards.lean) ties it to the program's text. -/
def laid_unicode_utf8_acceptRanges {H : Type} : DataW H := .agg [.agg [.lit (.int .u8 128), .lit (.int .u8 191)], .agg [.lit (.int .u8 160), .lit (.int .u8 191)], .agg [.lit (.int .u8 128), .lit (.int .u8 159)], .agg [.lit (.int .u8 144), .lit (.int .u8 191)], .agg [.lit (.int .u8 128), .lit (.int .u8 143)], .agg [.lit (.int .u8 0), .lit (.int .u8 0)], .agg [.lit (.int .u8 0), .lit (.int .u8 0)], .agg [.lit (.int .u8 0), .lit (.int .u8 0)], .agg [.lit (.int .u8 0), .lit (.int .u8 0)], .agg [.lit (.int .u8 0), .lit (.int .u8 0)], .agg [.lit (.int .u8 0), .lit (.int .u8 0)], .agg [.lit (.int .u8 0), .lit (.int .u8 0)], .agg [.lit (.int .u8 0), .lit (.int .u8 0)], .agg [.lit (.int .u8 0), .lit (.int .u8 0)], .agg [.lit (.int .u8 0), .lit (.int .u8 0)], .agg [.lit (.int .u8 0), .lit (.int .u8 0)]]
/-- One of Go's own tables, pinned by name: the form's constant. -/
def laid_unicode_utf8_first : DataW Unit := Go.Pinned.utf8First

/-- 'insolvencylaw19.ClearingFixpoints': WHATEVER THE INPUT: true; the input reads as it did. -/
def clearingFixpointsSpec : ChangeSpec := { name := "clearingFixpoints", fn := fun _ => fun
  | [d1, d2, d3, d4, d5] => { results := [.lit (.bool true)], args := [d1, d2, d3, d4, d5] }
  | _ => none }
def clearingFixpointsRow : OpenClaim := { program := "ythkggcakedkboaagreatdoor", sum := "9fe4c7f12e7718280600acca00315b3cafd972883c3e6627beb9764c401f62be", func := "insolvency/insolvencylaw19.ClearingFixpoints", spec := "clearingFixpoints", inPlace := ["internal/bytealg.IndexByteString", "internal/bytealg.IndexString", "internal/bytealg.abigen_runtime_cmpstring"], unfollowed := true, recurses := true, named := ["unicode/utf8.first", "unicode/utf8.acceptRanges", "internal/bytealg.MaxLen"], plainKeys := false, apart := false, laid := [("unicode/utf8.acceptRanges", laid_unicode_utf8_acceptRanges), ("unicode/utf8.first", laid_unicode_utf8_first)] }
def ClearingFixpointsSaid : Prop := clearingFixpointsRow.holds Tryz.pinned (OpenSpec.ofChange clearingFixpointsSpec)

/-- ITS FALSE NEIGHBOUR: 'it returns false'. Refute it at one input. -/
def clearingFixpointsWrong : ChangeSpec := { name := "clearingFixpoints", fn := fun _ => fun
  | [d1, d2, d3, d4, d5] => { results := [.lit (.bool false)], args := [d1, d2, d3, d4, d5] }
  | _ => none }
def ClearingFixpointsWrongFalsely : Prop := clearingFixpointsRow.holds Tryz.pinned (OpenSpec.ofChange clearingFixpointsWrong)

/-- 'insolvencylaw19.ClearingGreatest': WHATEVER THE INPUT: true; the input reads as it did. -/
def clearingGreatestSpec : ChangeSpec := { name := "clearingGreatest", fn := fun _ => fun
  | [d1, d2, d3, d4, d5, d6] => { results := [.lit (.bool true)], args := [d1, d2, d3, d4, d5, d6] }
  | _ => none }
def clearingGreatestRow : OpenClaim := { program := "ythkggcakedkboaagreatdoor", sum := "9fe4c7f12e7718280600acca00315b3cafd972883c3e6627beb9764c401f62be", func := "insolvency/insolvencylaw19.ClearingGreatest", spec := "clearingGreatest", inPlace := ["internal/bytealg.IndexByteString", "internal/bytealg.IndexString", "internal/bytealg.abigen_runtime_cmpstring"], unfollowed := true, recurses := true, named := ["unicode/utf8.first", "unicode/utf8.acceptRanges", "internal/bytealg.MaxLen"], plainKeys := false, apart := false, laid := [("unicode/utf8.acceptRanges", laid_unicode_utf8_acceptRanges), ("unicode/utf8.first", laid_unicode_utf8_first)] }
def ClearingGreatestSaid : Prop := clearingGreatestRow.holds Tryz.pinned (OpenSpec.ofChange clearingGreatestSpec)

/-- ITS FALSE NEIGHBOUR: 'it returns false'. Refute it at one input. -/
def clearingGreatestWrong : ChangeSpec := { name := "clearingGreatest", fn := fun _ => fun
  | [d1, d2, d3, d4, d5, d6] => { results := [.lit (.bool false)], args := [d1, d2, d3, d4, d5, d6] }
  | _ => none }
def ClearingGreatestWrongFalsely : Prop := clearingGreatestRow.holds Tryz.pinned (OpenSpec.ofChange clearingGreatestWrong)

/-- 'insolvencylaw19.ClearingIterates': WHATEVER THE INPUT: true; the input reads as it did. -/
def clearingIteratesSpec : ChangeSpec := { name := "clearingIterates", fn := fun _ => fun
  | [d1, d2, d3, d4, d5, d6] => { results := [.lit (.bool true)], args := [d1, d2, d3, d4, d5, d6] }
  | _ => none }
def clearingIteratesRow : OpenClaim := { program := "ythkggcakedkboaagreatdoor", sum := "9fe4c7f12e7718280600acca00315b3cafd972883c3e6627beb9764c401f62be", func := "insolvency/insolvencylaw19.ClearingIterates", spec := "clearingIterates", inPlace := ["internal/bytealg.IndexByteString", "internal/bytealg.IndexString", "internal/bytealg.abigen_runtime_cmpstring"], unfollowed := true, recurses := true, named := ["unicode/utf8.first", "unicode/utf8.acceptRanges", "internal/bytealg.MaxLen"], plainKeys := false, apart := false, laid := [("unicode/utf8.acceptRanges", laid_unicode_utf8_acceptRanges), ("unicode/utf8.first", laid_unicode_utf8_first)] }
def ClearingIteratesSaid : Prop := clearingIteratesRow.holds Tryz.pinned (OpenSpec.ofChange clearingIteratesSpec)

/-- ITS FALSE NEIGHBOUR: 'it returns false'. Refute it at one input. -/
def clearingIteratesWrong : ChangeSpec := { name := "clearingIterates", fn := fun _ => fun
  | [d1, d2, d3, d4, d5, d6] => { results := [.lit (.bool false)], args := [d1, d2, d3, d4, d5, d6] }
  | _ => none }
def ClearingIteratesWrongFalsely : Prop := clearingIteratesRow.holds Tryz.pinned (OpenSpec.ofChange clearingIteratesWrong)

/-- 'insolvencylaw19.ClearingConservation': WHATEVER THE INPUT: true; the input reads as it did. -/
def clearingConservationSpec : ChangeSpec := { name := "clearingConservation", fn := fun _ => fun
  | [d1, d2, d3, d4, d5] => { results := [.lit (.bool true)], args := [d1, d2, d3, d4, d5] }
  | _ => none }
def clearingConservationRow : OpenClaim := { program := "ythkggcakedkboaagreatdoor", sum := "9fe4c7f12e7718280600acca00315b3cafd972883c3e6627beb9764c401f62be", func := "insolvency/insolvencylaw19.ClearingConservation", spec := "clearingConservation", inPlace := ["internal/bytealg.IndexByteString", "internal/bytealg.IndexString", "internal/bytealg.abigen_runtime_cmpstring"], unfollowed := true, recurses := true, named := ["unicode/utf8.first", "unicode/utf8.acceptRanges", "internal/bytealg.MaxLen"], plainKeys := false, apart := false, laid := [("unicode/utf8.acceptRanges", laid_unicode_utf8_acceptRanges), ("unicode/utf8.first", laid_unicode_utf8_first)] }
def ClearingConservationSaid : Prop := clearingConservationRow.holds Tryz.pinned (OpenSpec.ofChange clearingConservationSpec)

/-- ITS FALSE NEIGHBOUR: 'it returns false'. Refute it at one input. -/
def clearingConservationWrong : ChangeSpec := { name := "clearingConservation", fn := fun _ => fun
  | [d1, d2, d3, d4, d5] => { results := [.lit (.bool false)], args := [d1, d2, d3, d4, d5] }
  | _ => none }
def ClearingConservationWrongFalsely : Prop := clearingConservationRow.holds Tryz.pinned (OpenSpec.ofChange clearingConservationWrong)

/-- 'insolvencylaw19.ClearingCash': WHATEVER THE INPUT: true; the input reads as it did. -/
def clearingCashSpec : ChangeSpec := { name := "clearingCash", fn := fun _ => fun
  | [d1, d2, d3, d4, d5, d6, d7] => { results := [.lit (.bool true)], args := [d1, d2, d3, d4, d5, d6, d7] }
  | _ => none }
def clearingCashRow : OpenClaim := { program := "ythkggcakedkboaagreatdoor", sum := "9fe4c7f12e7718280600acca00315b3cafd972883c3e6627beb9764c401f62be", func := "insolvency/insolvencylaw19.ClearingCash", spec := "clearingCash", inPlace := ["internal/bytealg.IndexByteString", "internal/bytealg.IndexString", "internal/bytealg.abigen_runtime_cmpstring"], unfollowed := true, recurses := true, named := ["unicode/utf8.first", "unicode/utf8.acceptRanges", "internal/bytealg.MaxLen"], plainKeys := false, apart := false, laid := [("unicode/utf8.acceptRanges", laid_unicode_utf8_acceptRanges), ("unicode/utf8.first", laid_unicode_utf8_first)] }
def ClearingCashSaid : Prop := clearingCashRow.holds Tryz.pinned (OpenSpec.ofChange clearingCashSpec)

/-- ITS FALSE NEIGHBOUR: 'it returns false'. Refute it at one input. -/
def clearingCashWrong : ChangeSpec := { name := "clearingCash", fn := fun _ => fun
  | [d1, d2, d3, d4, d5, d6, d7] => { results := [.lit (.bool false)], args := [d1, d2, d3, d4, d5, d6, d7] }
  | _ => none }
def ClearingCashWrongFalsely : Prop := clearingCashRow.holds Tryz.pinned (OpenSpec.ofChange clearingCashWrong)

/-- 'insolvencylaw19.ClearingOutside': WHATEVER THE INPUT: true; the input reads as it did. -/
def clearingOutsideSpec : ChangeSpec := { name := "clearingOutside", fn := fun _ => fun
  | [d1, d2, d3, d4, d5] => { results := [.lit (.bool true)], args := [d1, d2, d3, d4, d5] }
  | _ => none }
def clearingOutsideRow : OpenClaim := { program := "ythkggcakedkboaagreatdoor", sum := "9fe4c7f12e7718280600acca00315b3cafd972883c3e6627beb9764c401f62be", func := "insolvency/insolvencylaw19.ClearingOutside", spec := "clearingOutside", inPlace := ["internal/bytealg.IndexByteString", "internal/bytealg.IndexString", "internal/bytealg.abigen_runtime_cmpstring"], unfollowed := true, recurses := true, named := ["unicode/utf8.first", "unicode/utf8.acceptRanges", "internal/bytealg.MaxLen"], plainKeys := false, apart := false, laid := [("unicode/utf8.acceptRanges", laid_unicode_utf8_acceptRanges), ("unicode/utf8.first", laid_unicode_utf8_first)] }
def ClearingOutsideSaid : Prop := clearingOutsideRow.holds Tryz.pinned (OpenSpec.ofChange clearingOutsideSpec)

/-- ITS FALSE NEIGHBOUR: 'it returns false'. Refute it at one input. -/
def clearingOutsideWrong : ChangeSpec := { name := "clearingOutside", fn := fun _ => fun
  | [d1, d2, d3, d4, d5] => { results := [.lit (.bool false)], args := [d1, d2, d3, d4, d5] }
  | _ => none }
def ClearingOutsideWrongFalsely : Prop := clearingOutsideRow.holds Tryz.pinned (OpenSpec.ofChange clearingOutsideWrong)

/-- 'insolvencylaw19.ClearingOrder': WHATEVER THE INPUT: true; the input reads as it did. -/
def clearingOrderSpec : ChangeSpec := { name := "clearingOrder", fn := fun _ => fun
  | [d1, d2, d3, d4, d5, d6] => { results := [.lit (.bool true)], args := [d1, d2, d3, d4, d5, d6] }
  | _ => none }
def clearingOrderRow : OpenClaim := { program := "ythkggcakedkboaagreatdoor", sum := "9fe4c7f12e7718280600acca00315b3cafd972883c3e6627beb9764c401f62be", func := "insolvency/insolvencylaw19.ClearingOrder", spec := "clearingOrder", inPlace := ["internal/bytealg.IndexByteString", "internal/bytealg.IndexString", "internal/bytealg.abigen_runtime_cmpstring"], unfollowed := true, recurses := true, named := ["unicode/utf8.first", "unicode/utf8.acceptRanges", "internal/bytealg.MaxLen"], plainKeys := false, apart := false, laid := [("unicode/utf8.acceptRanges", laid_unicode_utf8_acceptRanges), ("unicode/utf8.first", laid_unicode_utf8_first)] }
def ClearingOrderSaid : Prop := clearingOrderRow.holds Tryz.pinned (OpenSpec.ofChange clearingOrderSpec)

/-- ITS FALSE NEIGHBOUR: 'it returns false'. Refute it at one input. -/
def clearingOrderWrong : ChangeSpec := { name := "clearingOrder", fn := fun _ => fun
  | [d1, d2, d3, d4, d5, d6] => { results := [.lit (.bool false)], args := [d1, d2, d3, d4, d5, d6] }
  | _ => none }
def ClearingOrderWrongFalsely : Prop := clearingOrderRow.holds Tryz.pinned (OpenSpec.ofChange clearingOrderWrong)

/-- 'insolvencylaw19.ClearingFair': WHATEVER THE INPUT: true; the input reads as it did. -/
def clearingFairSpec : ChangeSpec := { name := "clearingFair", fn := fun _ => fun
  | [d1, d2, d3, d4, d5] => { results := [.lit (.bool true)], args := [d1, d2, d3, d4, d5] }
  | _ => none }
def clearingFairRow : OpenClaim := { program := "ythkggcakedkboaagreatdoor", sum := "9fe4c7f12e7718280600acca00315b3cafd972883c3e6627beb9764c401f62be", func := "insolvency/insolvencylaw19.ClearingFair", spec := "clearingFair", inPlace := ["internal/bytealg.IndexByteString", "internal/bytealg.IndexString", "internal/bytealg.abigen_runtime_cmpstring"], unfollowed := true, recurses := true, named := ["unicode/utf8.first", "unicode/utf8.acceptRanges", "internal/bytealg.MaxLen"], plainKeys := false, apart := false, laid := [("unicode/utf8.acceptRanges", laid_unicode_utf8_acceptRanges), ("unicode/utf8.first", laid_unicode_utf8_first)] }
def ClearingFairSaid : Prop := clearingFairRow.holds Tryz.pinned (OpenSpec.ofChange clearingFairSpec)

/-- ITS FALSE NEIGHBOUR: 'it returns false'. Refute it at one input. -/
def clearingFairWrong : ChangeSpec := { name := "clearingFair", fn := fun _ => fun
  | [d1, d2, d3, d4, d5] => { results := [.lit (.bool false)], args := [d1, d2, d3, d4, d5] }
  | _ => none }
def ClearingFairWrongFalsely : Prop := clearingFairRow.holds Tryz.pinned (OpenSpec.ofChange clearingFairWrong)

/-- 'insolvencylaw19.ClearingRing': WHATEVER THE INPUT: true; the input reads as it did. -/
def clearingRingSpec : ChangeSpec := { name := "clearingRing", fn := fun _ => fun
  | [d1, d2, d3] => { results := [.lit (.bool true)], args := [d1, d2, d3] }
  | _ => none }
def clearingRingRow : OpenClaim := { program := "ythkggcakedkboaagreatdoor", sum := "9fe4c7f12e7718280600acca00315b3cafd972883c3e6627beb9764c401f62be", func := "insolvency/insolvencylaw19.ClearingRing", spec := "clearingRing", inPlace := ["internal/bytealg.IndexByteString", "internal/bytealg.IndexString", "internal/bytealg.abigen_runtime_cmpstring"], unfollowed := true, recurses := true, named := ["unicode/utf8.first", "unicode/utf8.acceptRanges", "internal/bytealg.MaxLen"], plainKeys := false, apart := false, laid := [("unicode/utf8.acceptRanges", laid_unicode_utf8_acceptRanges), ("unicode/utf8.first", laid_unicode_utf8_first)] }
def ClearingRingSaid : Prop := clearingRingRow.holds Tryz.pinned (OpenSpec.ofChange clearingRingSpec)

/-- ITS FALSE NEIGHBOUR: 'it returns false'. Refute it at one input. -/
def clearingRingWrong : ChangeSpec := { name := "clearingRing", fn := fun _ => fun
  | [d1, d2, d3] => { results := [.lit (.bool false)], args := [d1, d2, d3] }
  | _ => none }
def ClearingRingWrongFalsely : Prop := clearingRingRow.holds Tryz.pinned (OpenSpec.ofChange clearingRingWrong)

/- THE SECOND FORM. 'bulk': how many values and letters a reading holds, each counted each time it is reached (what is shared counts as often as it is met; a slice's spare places count too). A statement '..UptoSaid' is the law's where the arguments, and the package variables that the reading takes, are together of bulk at most 1048576: NARROWER than '..Said'. Prove '..Said' where nothing that the law and all that it calls make is longer than what came in: it says more and counts as full. Else prove '..UptoSaid'. A law counts once. -/
mutual
def uptoBulk {H : Type} : DataW H → Nat
  | .lit (.string bytes) => bytes.length + 1
  | .lit _ => 1
  | .nil => 1
  | .ptr d => uptoBulk d + 1
  | .slice elems spare => uptoBulkAll elems + uptoBulkAll spare + 1
  | .agg parts => uptoBulkAll parts + 1
  | .iface _ d => uptoBulk d + 1
  | .map entries => uptoBulkEntries entries + 1
  | .held _ => 1
def uptoBulkAll {H : Type} : List (DataW H) → Nat
  | [] => 0
  | d :: r => uptoBulk d + uptoBulkAll r
def uptoBulkEntries {H : Type} : List (Lit × DataW H) → Nat
  | [] => 0
  | x :: r => uptoBulkEntry x + uptoBulkEntries r
def uptoBulkEntry {H : Type} : Lit × DataW H → Nat
  | (.string bytes, d) => bytes.length + uptoBulk d + 1
  | (_, d) => uptoBulk d + 1
 end
def uptoSmall : (H : Type) → List (DataW H) → Bool := fun _ ds => decide (uptoBulkAll ds ≤ 1048576)
def OpenSpec.upto (s : _root_.Go.ChangeSpec) : _root_.Go.OpenSpec := { _root_.Go.OpenSpec.ofChange s with cond := some uptoSmall }

/-- 'insolvencylaw19.ClearingFixpoints', WHERE WHAT IT READS IS OF BULK AT MOST 1048576: true; the input reads as it did. -/
def clearingFixpointsUptoRow : OpenClaim := { program := "ythkggcakedkboaagreatdoor", sum := "9fe4c7f12e7718280600acca00315b3cafd972883c3e6627beb9764c401f62be", func := "insolvency/insolvencylaw19.ClearingFixpoints", spec := "clearingFixpoints", inPlace := ["internal/bytealg.IndexByteString", "internal/bytealg.IndexString", "internal/bytealg.abigen_runtime_cmpstring"], unfollowed := true, recurses := true, named := ["unicode/utf8.first", "unicode/utf8.acceptRanges", "internal/bytealg.MaxLen"], plainKeys := false, apart := false, laid := [("unicode/utf8.acceptRanges", laid_unicode_utf8_acceptRanges), ("unicode/utf8.first", laid_unicode_utf8_first)], narrowed := true }
def ClearingFixpointsUptoSaid : Prop := clearingFixpointsUptoRow.holds Tryz.pinned (OpenSpec.upto clearingFixpointsSpec)

/-- 'insolvencylaw19.ClearingGreatest', WHERE WHAT IT READS IS OF BULK AT MOST 1048576: true; the input reads as it did. -/
def clearingGreatestUptoRow : OpenClaim := { program := "ythkggcakedkboaagreatdoor", sum := "9fe4c7f12e7718280600acca00315b3cafd972883c3e6627beb9764c401f62be", func := "insolvency/insolvencylaw19.ClearingGreatest", spec := "clearingGreatest", inPlace := ["internal/bytealg.IndexByteString", "internal/bytealg.IndexString", "internal/bytealg.abigen_runtime_cmpstring"], unfollowed := true, recurses := true, named := ["unicode/utf8.first", "unicode/utf8.acceptRanges", "internal/bytealg.MaxLen"], plainKeys := false, apart := false, laid := [("unicode/utf8.acceptRanges", laid_unicode_utf8_acceptRanges), ("unicode/utf8.first", laid_unicode_utf8_first)], narrowed := true }
def ClearingGreatestUptoSaid : Prop := clearingGreatestUptoRow.holds Tryz.pinned (OpenSpec.upto clearingGreatestSpec)

/-- 'insolvencylaw19.ClearingIterates', WHERE WHAT IT READS IS OF BULK AT MOST 1048576: true; the input reads as it did. -/
def clearingIteratesUptoRow : OpenClaim := { program := "ythkggcakedkboaagreatdoor", sum := "9fe4c7f12e7718280600acca00315b3cafd972883c3e6627beb9764c401f62be", func := "insolvency/insolvencylaw19.ClearingIterates", spec := "clearingIterates", inPlace := ["internal/bytealg.IndexByteString", "internal/bytealg.IndexString", "internal/bytealg.abigen_runtime_cmpstring"], unfollowed := true, recurses := true, named := ["unicode/utf8.first", "unicode/utf8.acceptRanges", "internal/bytealg.MaxLen"], plainKeys := false, apart := false, laid := [("unicode/utf8.acceptRanges", laid_unicode_utf8_acceptRanges), ("unicode/utf8.first", laid_unicode_utf8_first)], narrowed := true }
def ClearingIteratesUptoSaid : Prop := clearingIteratesUptoRow.holds Tryz.pinned (OpenSpec.upto clearingIteratesSpec)

/-- 'insolvencylaw19.ClearingConservation', WHERE WHAT IT READS IS OF BULK AT MOST 1048576: true; the input reads as it did. -/
def clearingConservationUptoRow : OpenClaim := { program := "ythkggcakedkboaagreatdoor", sum := "9fe4c7f12e7718280600acca00315b3cafd972883c3e6627beb9764c401f62be", func := "insolvency/insolvencylaw19.ClearingConservation", spec := "clearingConservation", inPlace := ["internal/bytealg.IndexByteString", "internal/bytealg.IndexString", "internal/bytealg.abigen_runtime_cmpstring"], unfollowed := true, recurses := true, named := ["unicode/utf8.first", "unicode/utf8.acceptRanges", "internal/bytealg.MaxLen"], plainKeys := false, apart := false, laid := [("unicode/utf8.acceptRanges", laid_unicode_utf8_acceptRanges), ("unicode/utf8.first", laid_unicode_utf8_first)], narrowed := true }
def ClearingConservationUptoSaid : Prop := clearingConservationUptoRow.holds Tryz.pinned (OpenSpec.upto clearingConservationSpec)

/-- 'insolvencylaw19.ClearingCash', WHERE WHAT IT READS IS OF BULK AT MOST 1048576: true; the input reads as it did. -/
def clearingCashUptoRow : OpenClaim := { program := "ythkggcakedkboaagreatdoor", sum := "9fe4c7f12e7718280600acca00315b3cafd972883c3e6627beb9764c401f62be", func := "insolvency/insolvencylaw19.ClearingCash", spec := "clearingCash", inPlace := ["internal/bytealg.IndexByteString", "internal/bytealg.IndexString", "internal/bytealg.abigen_runtime_cmpstring"], unfollowed := true, recurses := true, named := ["unicode/utf8.first", "unicode/utf8.acceptRanges", "internal/bytealg.MaxLen"], plainKeys := false, apart := false, laid := [("unicode/utf8.acceptRanges", laid_unicode_utf8_acceptRanges), ("unicode/utf8.first", laid_unicode_utf8_first)], narrowed := true }
def ClearingCashUptoSaid : Prop := clearingCashUptoRow.holds Tryz.pinned (OpenSpec.upto clearingCashSpec)

/-- 'insolvencylaw19.ClearingOutside', WHERE WHAT IT READS IS OF BULK AT MOST 1048576: true; the input reads as it did. -/
def clearingOutsideUptoRow : OpenClaim := { program := "ythkggcakedkboaagreatdoor", sum := "9fe4c7f12e7718280600acca00315b3cafd972883c3e6627beb9764c401f62be", func := "insolvency/insolvencylaw19.ClearingOutside", spec := "clearingOutside", inPlace := ["internal/bytealg.IndexByteString", "internal/bytealg.IndexString", "internal/bytealg.abigen_runtime_cmpstring"], unfollowed := true, recurses := true, named := ["unicode/utf8.first", "unicode/utf8.acceptRanges", "internal/bytealg.MaxLen"], plainKeys := false, apart := false, laid := [("unicode/utf8.acceptRanges", laid_unicode_utf8_acceptRanges), ("unicode/utf8.first", laid_unicode_utf8_first)], narrowed := true }
def ClearingOutsideUptoSaid : Prop := clearingOutsideUptoRow.holds Tryz.pinned (OpenSpec.upto clearingOutsideSpec)

/-- 'insolvencylaw19.ClearingOrder', WHERE WHAT IT READS IS OF BULK AT MOST 1048576: true; the input reads as it did. -/
def clearingOrderUptoRow : OpenClaim := { program := "ythkggcakedkboaagreatdoor", sum := "9fe4c7f12e7718280600acca00315b3cafd972883c3e6627beb9764c401f62be", func := "insolvency/insolvencylaw19.ClearingOrder", spec := "clearingOrder", inPlace := ["internal/bytealg.IndexByteString", "internal/bytealg.IndexString", "internal/bytealg.abigen_runtime_cmpstring"], unfollowed := true, recurses := true, named := ["unicode/utf8.first", "unicode/utf8.acceptRanges", "internal/bytealg.MaxLen"], plainKeys := false, apart := false, laid := [("unicode/utf8.acceptRanges", laid_unicode_utf8_acceptRanges), ("unicode/utf8.first", laid_unicode_utf8_first)], narrowed := true }
def ClearingOrderUptoSaid : Prop := clearingOrderUptoRow.holds Tryz.pinned (OpenSpec.upto clearingOrderSpec)

/-- 'insolvencylaw19.ClearingFair', WHERE WHAT IT READS IS OF BULK AT MOST 1048576: true; the input reads as it did. -/
def clearingFairUptoRow : OpenClaim := { program := "ythkggcakedkboaagreatdoor", sum := "9fe4c7f12e7718280600acca00315b3cafd972883c3e6627beb9764c401f62be", func := "insolvency/insolvencylaw19.ClearingFair", spec := "clearingFair", inPlace := ["internal/bytealg.IndexByteString", "internal/bytealg.IndexString", "internal/bytealg.abigen_runtime_cmpstring"], unfollowed := true, recurses := true, named := ["unicode/utf8.first", "unicode/utf8.acceptRanges", "internal/bytealg.MaxLen"], plainKeys := false, apart := false, laid := [("unicode/utf8.acceptRanges", laid_unicode_utf8_acceptRanges), ("unicode/utf8.first", laid_unicode_utf8_first)], narrowed := true }
def ClearingFairUptoSaid : Prop := clearingFairUptoRow.holds Tryz.pinned (OpenSpec.upto clearingFairSpec)

/-- 'insolvencylaw19.ClearingRing', WHERE WHAT IT READS IS OF BULK AT MOST 1048576: true; the input reads as it did. -/
def clearingRingUptoRow : OpenClaim := { program := "ythkggcakedkboaagreatdoor", sum := "9fe4c7f12e7718280600acca00315b3cafd972883c3e6627beb9764c401f62be", func := "insolvency/insolvencylaw19.ClearingRing", spec := "clearingRing", inPlace := ["internal/bytealg.IndexByteString", "internal/bytealg.IndexString", "internal/bytealg.abigen_runtime_cmpstring"], unfollowed := true, recurses := true, named := ["unicode/utf8.first", "unicode/utf8.acceptRanges", "internal/bytealg.MaxLen"], plainKeys := false, apart := false, laid := [("unicode/utf8.acceptRanges", laid_unicode_utf8_acceptRanges), ("unicode/utf8.first", laid_unicode_utf8_first)], narrowed := true }
def ClearingRingUptoSaid : Prop := clearingRingUptoRow.holds Tryz.pinned (OpenSpec.upto clearingRingSpec)

end Rows
end Go.Proofs.YthkggcakedkboaaGreatDoor
