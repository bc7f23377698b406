/-
  NARROWER THAN 'FOR EVERY INPUT', by the rows' own cells (each row's printed sentence says how): LiquidationFloor: laid · LiquidationWorse: laid · LiquidationLeast: laid · LiquidationMore: laid · LiquidationForced: laid.
  DERIVED. THE GIVEN ROWS OF THIS SEAT. 5 by the template 'for every input the law returns true; each argument reads behind the call as it read before'; 0 by the template 'total and deterministic' (their statements: YtobbllakdjampaaGreatDoorTotals.lean).
  GIVEN WITH THE SEED: the statements are not yours to turn. If you find one false, say at which input.
  Laid BY PROGRAM, IN A SANDBOX (cutbox-rows.mjs): the forced cells as the released guide's own fill.sh prints them over the translation 84f777d99ea75127… (all of the seat's roots in one cut). By AI agents, Wed Nov 11 2026. No macro, syntax, notation, axiom, sorry.
-/
import Derived.Test.YtobbllakdjampaaGreatDoorChecked
import GoSem.PinnedTables
import GoSem.Claim
import GoSem.ClaimJoined
import GoSem.ClaimMapViews
import Derived.JoinedTies
import Derived.KernelRfl
namespace Go.Proofs.YtobbllakdjampaaGreatDoor
/- THE CELL 'sum', in the pinned program and in every row, IS THE sha256 OF THE DUMP (.gsa) THAT YtobbllakdjampaaGreatDoorProg.lean LOADS. Nothing in Lean hashes anything: it is a label: what it is worth is what the hold of that sum in a sandbox is worth. -/
noncomputable def Tryz.pinned : Pinned := { name := "ytobbllakdjampaagreatdoor", sum := "84f777d99ea75127bcc6b33ca8abf4864f43e5feb0a74cd3e3cfefbb2e17fcf1", checked := Tryz.checked }
namespace Rows
def none {H : Type} : Left H := { results := [], args := [] }

/- WHAT THE LISTED PACKAGE-LEVEL VARIABLES READ AS WHEN THE CALL BEGINS. Each datum BY PROGRAM (the guide's laid-datum.mjs) off the statement by which the dump's own 'gosem.cut.vars' lays the variable. In a bare row this is a premise. The card (YtobbllakdjampaaGreatDoorCards.lean) ties it to the program's text. -/
def laid_unicode_utf8_acceptRanges {H : Type} : DataW H := .agg [.agg [.lit (.int .u8 128), .lit (.int .u8 191)], .agg [.lit (.int .u8 160), .lit (.int .u8 191)], .agg [.lit (.int .u8 128), .lit (.int .u8 159)], .agg [.lit (.int .u8 144), .lit (.int .u8 191)], .agg [.lit (.int .u8 128), .lit (.int .u8 143)], .agg [.lit (.int .u8 0), .lit (.int .u8 0)], .agg [.lit (.int .u8 0), .lit (.int .u8 0)], .agg [.lit (.int .u8 0), .lit (.int .u8 0)], .agg [.lit (.int .u8 0), .lit (.int .u8 0)], .agg [.lit (.int .u8 0), .lit (.int .u8 0)], .agg [.lit (.int .u8 0), .lit (.int .u8 0)], .agg [.lit (.int .u8 0), .lit (.int .u8 0)], .agg [.lit (.int .u8 0), .lit (.int .u8 0)], .agg [.lit (.int .u8 0), .lit (.int .u8 0)], .agg [.lit (.int .u8 0), .lit (.int .u8 0)], .agg [.lit (.int .u8 0), .lit (.int .u8 0)]]
/-- One of Go's own tables, pinned by name: the form's constant. -/
def laid_unicode_utf8_first : DataW Unit := Go.Pinned.utf8First

/-- 'insolvencylaw31.LiquidationFloor': WHATEVER THE INPUT: true; the input reads as it did. -/
def liquidationFloorSpec : ChangeSpec := { name := "liquidationFloor", fn := fun _ => fun
  | [d1, d2, d3, d4] => { results := [.lit (.bool true)], args := [d1, d2, d3, d4] }
  | _ => none }
def liquidationFloorRow : OpenClaim := { program := "ytobbllakdjampaagreatdoor", sum := "84f777d99ea75127bcc6b33ca8abf4864f43e5feb0a74cd3e3cfefbb2e17fcf1", func := "insolvency/insolvencylaw31.LiquidationFloor", spec := "liquidationFloor", inPlace := ["internal/bytealg.IndexByteString", "internal/bytealg.IndexString", "internal/bytealg.abigen_runtime_cmpstring"], unfollowed := true, recurses := true, named := ["unicode/utf8.first", "unicode/utf8.acceptRanges", "internal/bytealg.MaxLen"], plainKeys := false, apart := false, laid := [("unicode/utf8.acceptRanges", laid_unicode_utf8_acceptRanges), ("unicode/utf8.first", laid_unicode_utf8_first)] }
def LiquidationFloorSaid : Prop := liquidationFloorRow.holds Tryz.pinned (OpenSpec.ofChange liquidationFloorSpec)

/-- ITS FALSE NEIGHBOUR: 'it returns false'. Refute it at one input. -/
def liquidationFloorWrong : ChangeSpec := { name := "liquidationFloor", fn := fun _ => fun
  | [d1, d2, d3, d4] => { results := [.lit (.bool false)], args := [d1, d2, d3, d4] }
  | _ => none }
def LiquidationFloorWrongFalsely : Prop := liquidationFloorRow.holds Tryz.pinned (OpenSpec.ofChange liquidationFloorWrong)

/-- 'insolvencylaw31.LiquidationWorse': WHATEVER THE INPUT: true; the input reads as it did. -/
def liquidationWorseSpec : ChangeSpec := { name := "liquidationWorse", fn := fun _ => fun
  | [d1, d2, d3, d4, d5, d6] => { results := [.lit (.bool true)], args := [d1, d2, d3, d4, d5, d6] }
  | _ => none }
def liquidationWorseRow : OpenClaim := { program := "ytobbllakdjampaagreatdoor", sum := "84f777d99ea75127bcc6b33ca8abf4864f43e5feb0a74cd3e3cfefbb2e17fcf1", func := "insolvency/insolvencylaw31.LiquidationWorse", spec := "liquidationWorse", inPlace := ["internal/bytealg.IndexByteString", "internal/bytealg.IndexString", "internal/bytealg.abigen_runtime_cmpstring"], unfollowed := true, recurses := true, named := ["unicode/utf8.first", "unicode/utf8.acceptRanges", "internal/bytealg.MaxLen"], plainKeys := false, apart := false, laid := [("unicode/utf8.acceptRanges", laid_unicode_utf8_acceptRanges), ("unicode/utf8.first", laid_unicode_utf8_first)] }
def LiquidationWorseSaid : Prop := liquidationWorseRow.holds Tryz.pinned (OpenSpec.ofChange liquidationWorseSpec)

/-- ITS FALSE NEIGHBOUR: 'it returns false'. Refute it at one input. -/
def liquidationWorseWrong : ChangeSpec := { name := "liquidationWorse", fn := fun _ => fun
  | [d1, d2, d3, d4, d5, d6] => { results := [.lit (.bool false)], args := [d1, d2, d3, d4, d5, d6] }
  | _ => none }
def LiquidationWorseWrongFalsely : Prop := liquidationWorseRow.holds Tryz.pinned (OpenSpec.ofChange liquidationWorseWrong)

/-- 'insolvencylaw31.LiquidationLeast': WHATEVER THE INPUT: true; the input reads as it did. -/
def liquidationLeastSpec : ChangeSpec := { name := "liquidationLeast", fn := fun _ => fun
  | [d1, d2, d3] => { results := [.lit (.bool true)], args := [d1, d2, d3] }
  | _ => none }
def liquidationLeastRow : OpenClaim := { program := "ytobbllakdjampaagreatdoor", sum := "84f777d99ea75127bcc6b33ca8abf4864f43e5feb0a74cd3e3cfefbb2e17fcf1", func := "insolvency/insolvencylaw31.LiquidationLeast", spec := "liquidationLeast", inPlace := ["internal/bytealg.IndexByteString", "internal/bytealg.IndexString", "internal/bytealg.abigen_runtime_cmpstring"], unfollowed := true, recurses := true, named := ["unicode/utf8.first", "unicode/utf8.acceptRanges", "internal/bytealg.MaxLen"], plainKeys := false, apart := false, laid := [("unicode/utf8.acceptRanges", laid_unicode_utf8_acceptRanges), ("unicode/utf8.first", laid_unicode_utf8_first)] }
def LiquidationLeastSaid : Prop := liquidationLeastRow.holds Tryz.pinned (OpenSpec.ofChange liquidationLeastSpec)

/-- ITS FALSE NEIGHBOUR: 'it returns false'. Refute it at one input. -/
def liquidationLeastWrong : ChangeSpec := { name := "liquidationLeast", fn := fun _ => fun
  | [d1, d2, d3] => { results := [.lit (.bool false)], args := [d1, d2, d3] }
  | _ => none }
def LiquidationLeastWrongFalsely : Prop := liquidationLeastRow.holds Tryz.pinned (OpenSpec.ofChange liquidationLeastWrong)

/-- 'insolvencylaw31.LiquidationMore': WHATEVER THE INPUT: true; the input reads as it did. -/
def liquidationMoreSpec : ChangeSpec := { name := "liquidationMore", fn := fun _ => fun
  | [d1, d2, d3, d4] => { results := [.lit (.bool true)], args := [d1, d2, d3, d4] }
  | _ => none }
def liquidationMoreRow : OpenClaim := { program := "ytobbllakdjampaagreatdoor", sum := "84f777d99ea75127bcc6b33ca8abf4864f43e5feb0a74cd3e3cfefbb2e17fcf1", func := "insolvency/insolvencylaw31.LiquidationMore", spec := "liquidationMore", inPlace := ["internal/bytealg.IndexByteString", "internal/bytealg.IndexString", "internal/bytealg.abigen_runtime_cmpstring"], unfollowed := true, recurses := true, named := ["unicode/utf8.first", "unicode/utf8.acceptRanges", "internal/bytealg.MaxLen"], plainKeys := false, apart := false, laid := [("unicode/utf8.acceptRanges", laid_unicode_utf8_acceptRanges), ("unicode/utf8.first", laid_unicode_utf8_first)] }
def LiquidationMoreSaid : Prop := liquidationMoreRow.holds Tryz.pinned (OpenSpec.ofChange liquidationMoreSpec)

/-- ITS FALSE NEIGHBOUR: 'it returns false'. Refute it at one input. -/
def liquidationMoreWrong : ChangeSpec := { name := "liquidationMore", fn := fun _ => fun
  | [d1, d2, d3, d4] => { results := [.lit (.bool false)], args := [d1, d2, d3, d4] }
  | _ => none }
def LiquidationMoreWrongFalsely : Prop := liquidationMoreRow.holds Tryz.pinned (OpenSpec.ofChange liquidationMoreWrong)

/-- 'insolvencylaw31.LiquidationForced': WHATEVER THE INPUT: true; the input reads as it did. -/
def liquidationForcedSpec : ChangeSpec := { name := "liquidationForced", fn := fun _ => fun
  | [d1, d2, d3, d4, d5, d6, d7] => { results := [.lit (.bool true)], args := [d1, d2, d3, d4, d5, d6, d7] }
  | _ => none }
def liquidationForcedRow : OpenClaim := { program := "ytobbllakdjampaagreatdoor", sum := "84f777d99ea75127bcc6b33ca8abf4864f43e5feb0a74cd3e3cfefbb2e17fcf1", func := "insolvency/insolvencylaw31.LiquidationForced", spec := "liquidationForced", inPlace := ["internal/bytealg.IndexByteString", "internal/bytealg.IndexString", "internal/bytealg.abigen_runtime_cmpstring"], unfollowed := true, recurses := true, named := ["unicode/utf8.first", "unicode/utf8.acceptRanges", "internal/bytealg.MaxLen"], plainKeys := false, apart := false, laid := [("unicode/utf8.acceptRanges", laid_unicode_utf8_acceptRanges), ("unicode/utf8.first", laid_unicode_utf8_first)] }
def LiquidationForcedSaid : Prop := liquidationForcedRow.holds Tryz.pinned (OpenSpec.ofChange liquidationForcedSpec)

/-- ITS FALSE NEIGHBOUR: 'it returns false'. Refute it at one input. -/
def liquidationForcedWrong : ChangeSpec := { name := "liquidationForced", fn := fun _ => fun
  | [d1, d2, d3, d4, d5, d6, d7] => { results := [.lit (.bool false)], args := [d1, d2, d3, d4, d5, d6, d7] }
  | _ => none }
def LiquidationForcedWrongFalsely : Prop := liquidationForcedRow.holds Tryz.pinned (OpenSpec.ofChange liquidationForcedWrong)

/- THE SECOND FORM. 'bulk': how many values and letters a reading holds, each counted each time it is reached (what is shared counts as often as it is met; a slice's spare places count too). A statement '..UptoSaid' is the law's where the arguments, and the package variables that the reading takes, are together of bulk at most 1048576: NARROWER than '..Said'. Prove '..Said' where nothing that the law and all that it calls make is longer than what came in: it says more and counts as full. Else prove '..UptoSaid'. A law counts once. -/
mutual
def uptoBulk {H : Type} : DataW H → Nat
  | .lit (.string bytes) => bytes.length + 1
  | .lit _ => 1
  | .nil => 1
  | .ptr d => uptoBulk d + 1
  | .slice elems spare => uptoBulkAll elems + uptoBulkAll spare + 1
  | .agg parts => uptoBulkAll parts + 1
  | .iface _ d => uptoBulk d + 1
  | .map entries => uptoBulkEntries entries + 1
  | .held _ => 1
def uptoBulkAll {H : Type} : List (DataW H) → Nat
  | [] => 0
  | d :: r => uptoBulk d + uptoBulkAll r
def uptoBulkEntries {H : Type} : List (Lit × DataW H) → Nat
  | [] => 0
  | x :: r => uptoBulkEntry x + uptoBulkEntries r
def uptoBulkEntry {H : Type} : Lit × DataW H → Nat
  | (.string bytes, d) => bytes.length + uptoBulk d + 1
  | (_, d) => uptoBulk d + 1
 end
def uptoSmall : (H : Type) → List (DataW H) → Bool := fun _ ds => decide (uptoBulkAll ds ≤ 1048576)
def OpenSpec.upto (s : _root_.Go.ChangeSpec) : _root_.Go.OpenSpec := { _root_.Go.OpenSpec.ofChange s with cond := some uptoSmall }

/-- 'insolvencylaw31.LiquidationFloor', WHERE WHAT IT READS IS OF BULK AT MOST 1048576: true; the input reads as it did. -/
def liquidationFloorUptoRow : OpenClaim := { program := "ytobbllakdjampaagreatdoor", sum := "84f777d99ea75127bcc6b33ca8abf4864f43e5feb0a74cd3e3cfefbb2e17fcf1", func := "insolvency/insolvencylaw31.LiquidationFloor", spec := "liquidationFloor", inPlace := ["internal/bytealg.IndexByteString", "internal/bytealg.IndexString", "internal/bytealg.abigen_runtime_cmpstring"], unfollowed := true, recurses := true, named := ["unicode/utf8.first", "unicode/utf8.acceptRanges", "internal/bytealg.MaxLen"], plainKeys := false, apart := false, laid := [("unicode/utf8.acceptRanges", laid_unicode_utf8_acceptRanges), ("unicode/utf8.first", laid_unicode_utf8_first)], narrowed := true }
def LiquidationFloorUptoSaid : Prop := liquidationFloorUptoRow.holds Tryz.pinned (OpenSpec.upto liquidationFloorSpec)

/-- 'insolvencylaw31.LiquidationWorse', WHERE WHAT IT READS IS OF BULK AT MOST 1048576: true; the input reads as it did. -/
def liquidationWorseUptoRow : OpenClaim := { program := "ytobbllakdjampaagreatdoor", sum := "84f777d99ea75127bcc6b33ca8abf4864f43e5feb0a74cd3e3cfefbb2e17fcf1", func := "insolvency/insolvencylaw31.LiquidationWorse", spec := "liquidationWorse", inPlace := ["internal/bytealg.IndexByteString", "internal/bytealg.IndexString", "internal/bytealg.abigen_runtime_cmpstring"], unfollowed := true, recurses := true, named := ["unicode/utf8.first", "unicode/utf8.acceptRanges", "internal/bytealg.MaxLen"], plainKeys := false, apart := false, laid := [("unicode/utf8.acceptRanges", laid_unicode_utf8_acceptRanges), ("unicode/utf8.first", laid_unicode_utf8_first)], narrowed := true }
def LiquidationWorseUptoSaid : Prop := liquidationWorseUptoRow.holds Tryz.pinned (OpenSpec.upto liquidationWorseSpec)

/-- 'insolvencylaw31.LiquidationLeast', WHERE WHAT IT READS IS OF BULK AT MOST 1048576: true; the input reads as it did. -/
def liquidationLeastUptoRow : OpenClaim := { program := "ytobbllakdjampaagreatdoor", sum := "84f777d99ea75127bcc6b33ca8abf4864f43e5feb0a74cd3e3cfefbb2e17fcf1", func := "insolvency/insolvencylaw31.LiquidationLeast", spec := "liquidationLeast", inPlace := ["internal/bytealg.IndexByteString", "internal/bytealg.IndexString", "internal/bytealg.abigen_runtime_cmpstring"], unfollowed := true, recurses := true, named := ["unicode/utf8.first", "unicode/utf8.acceptRanges", "internal/bytealg.MaxLen"], plainKeys := false, apart := false, laid := [("unicode/utf8.acceptRanges", laid_unicode_utf8_acceptRanges), ("unicode/utf8.first", laid_unicode_utf8_first)], narrowed := true }
def LiquidationLeastUptoSaid : Prop := liquidationLeastUptoRow.holds Tryz.pinned (OpenSpec.upto liquidationLeastSpec)

/-- 'insolvencylaw31.LiquidationMore', WHERE WHAT IT READS IS OF BULK AT MOST 1048576: true; the input reads as it did. -/
def liquidationMoreUptoRow : OpenClaim := { program := "ytobbllakdjampaagreatdoor", sum := "84f777d99ea75127bcc6b33ca8abf4864f43e5feb0a74cd3e3cfefbb2e17fcf1", func := "insolvency/insolvencylaw31.LiquidationMore", spec := "liquidationMore", inPlace := ["internal/bytealg.IndexByteString", "internal/bytealg.IndexString", "internal/bytealg.abigen_runtime_cmpstring"], unfollowed := true, recurses := true, named := ["unicode/utf8.first", "unicode/utf8.acceptRanges", "internal/bytealg.MaxLen"], plainKeys := false, apart := false, laid := [("unicode/utf8.acceptRanges", laid_unicode_utf8_acceptRanges), ("unicode/utf8.first", laid_unicode_utf8_first)], narrowed := true }
def LiquidationMoreUptoSaid : Prop := liquidationMoreUptoRow.holds Tryz.pinned (OpenSpec.upto liquidationMoreSpec)

/-- 'insolvencylaw31.LiquidationForced', WHERE WHAT IT READS IS OF BULK AT MOST 1048576: true; the input reads as it did. -/
def liquidationForcedUptoRow : OpenClaim := { program := "ytobbllakdjampaagreatdoor", sum := "84f777d99ea75127bcc6b33ca8abf4864f43e5feb0a74cd3e3cfefbb2e17fcf1", func := "insolvency/insolvencylaw31.LiquidationForced", spec := "liquidationForced", inPlace := ["internal/bytealg.IndexByteString", "internal/bytealg.IndexString", "internal/bytealg.abigen_runtime_cmpstring"], unfollowed := true, recurses := true, named := ["unicode/utf8.first", "unicode/utf8.acceptRanges", "internal/bytealg.MaxLen"], plainKeys := false, apart := false, laid := [("unicode/utf8.acceptRanges", laid_unicode_utf8_acceptRanges), ("unicode/utf8.first", laid_unicode_utf8_first)], narrowed := true }
def LiquidationForcedUptoSaid : Prop := liquidationForcedUptoRow.holds Tryz.pinned (OpenSpec.upto liquidationForcedSpec)

end Rows
end Go.Proofs.YtobbllakdjampaaGreatDoor
