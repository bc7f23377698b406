/-
  NARROWER THAN 'FOR EVERY INPUT', by the rows' own cells (each row's printed sentence says how): ClearingSolve: laid · ClearingLeast: laid · ClearingBuilt: laid · DividendPlain: laid · DefaultcostBest: laid · CertificateMake: laid.
  DERIVED. THE GIVEN ROWS OF THIS SEAT. 6 by the template 'for every input the law returns true; each argument reads behind the call as it read before'; 0 by the template 'total and deterministic' (their statements: YtodnohicahohdaaGreatDoorTotals.lean).
  GIVEN WITH THE SEED: the statements are not yours to turn. If you find one false, say at which input.
  Laid BY PROGRAM, IN A SANDBOX (cutbox-rows.mjs): the forced cells as the released guide's own fill.sh prints them over the translation 2336f6df334f8a69… (all of the seat's roots in one cut). By AI agents, Wed Nov 11 2026. No macro, syntax, notation, axiom, sorry.
-/
import Derived.Test.YtodnohicahohdaaGreatDoorChecked
import GoSem.PinnedTables
import GoSem.Claim
import GoSem.ClaimJoined
import GoSem.ClaimMapViews
import Derived.JoinedTies
import Derived.KernelRfl
namespace Go.Proofs.YtodnohicahohdaaGreatDoor
/- THE CELL 'sum', in the pinned program and in every row, IS THE sha256 OF THE DUMP (.gsa) THAT YtodnohicahohdaaGreatDoorProg.lean LOADS. Nothing in Lean hashes anything: it is a label: what it is worth is what the hold of that sum in a sandbox is worth. -/
noncomputable def Tryz.pinned : Pinned := { name := "ytodnohicahohdaagreatdoor", sum := "2336f6df334f8a699c4b239dfe69b82dd1e71c2b009d83ac64b80f927fa72036", checked := Tryz.checked }
namespace Rows
def none {H : Type} : Left H := { results := [], args := [] }

/- WHAT THE LISTED PACKAGE-LEVEL VARIABLES READ AS WHEN THE CALL BEGINS. Each datum BY PROGRAM (the guide's laid-datum.mjs) off the statement by which the dump's own 'gosem.cut.vars' lays the variable. In a bare row this is a premise. The card (YtodnohicahohdaaGreatDoorCards.lean) ties it to the program's text. -/
def laid_unicode_utf8_acceptRanges {H : Type} : DataW H := .agg [.agg [.lit (.int .u8 128), .lit (.int .u8 191)], .agg [.lit (.int .u8 160), .lit (.int .u8 191)], .agg [.lit (.int .u8 128), .lit (.int .u8 159)], .agg [.lit (.int .u8 144), .lit (.int .u8 191)], .agg [.lit (.int .u8 128), .lit (.int .u8 143)], .agg [.lit (.int .u8 0), .lit (.int .u8 0)], .agg [.lit (.int .u8 0), .lit (.int .u8 0)], .agg [.lit (.int .u8 0), .lit (.int .u8 0)], .agg [.lit (.int .u8 0), .lit (.int .u8 0)], .agg [.lit (.int .u8 0), .lit (.int .u8 0)], .agg [.lit (.int .u8 0), .lit (.int .u8 0)], .agg [.lit (.int .u8 0), .lit (.int .u8 0)], .agg [.lit (.int .u8 0), .lit (.int .u8 0)], .agg [.lit (.int .u8 0), .lit (.int .u8 0)], .agg [.lit (.int .u8 0), .lit (.int .u8 0)], .agg [.lit (.int .u8 0), .lit (.int .u8 0)]]
/-- One of Go's own tables, pinned by name: the form's constant. -/
def laid_unicode_utf8_first : DataW Unit := Go.Pinned.utf8First

/-- 'insolvencylaw19.ClearingSolve': WHATEVER THE INPUT: true; the input reads as it did. -/
def clearingSolveSpec : ChangeSpec := { name := "clearingSolve", fn := fun _ => fun
  | [d1, d2, d3, d4, d5] => { results := [.lit (.bool true)], args := [d1, d2, d3, d4, d5] }
  | _ => none }
def clearingSolveRow : OpenClaim := { program := "ytodnohicahohdaagreatdoor", sum := "2336f6df334f8a699c4b239dfe69b82dd1e71c2b009d83ac64b80f927fa72036", func := "insolvency/insolvencylaw19.ClearingSolve", spec := "clearingSolve", inPlace := ["internal/bytealg.IndexByteString", "internal/bytealg.IndexString", "internal/bytealg.abigen_runtime_cmpstring"], unfollowed := true, recurses := true, named := ["unicode/utf8.first", "unicode/utf8.acceptRanges", "internal/bytealg.MaxLen"], plainKeys := false, apart := false, laid := [("unicode/utf8.acceptRanges", laid_unicode_utf8_acceptRanges), ("unicode/utf8.first", laid_unicode_utf8_first)] }
def ClearingSolveSaid : Prop := clearingSolveRow.holds Tryz.pinned (OpenSpec.ofChange clearingSolveSpec)

/-- ITS FALSE NEIGHBOUR: 'it returns false'. Refute it at one input. -/
def clearingSolveWrong : ChangeSpec := { name := "clearingSolve", fn := fun _ => fun
  | [d1, d2, d3, d4, d5] => { results := [.lit (.bool false)], args := [d1, d2, d3, d4, d5] }
  | _ => none }
def ClearingSolveWrongFalsely : Prop := clearingSolveRow.holds Tryz.pinned (OpenSpec.ofChange clearingSolveWrong)

/-- 'insolvencylaw19.ClearingLeast': WHATEVER THE INPUT: true; the input reads as it did. -/
def clearingLeastSpec : ChangeSpec := { name := "clearingLeast", fn := fun _ => fun
  | [d1, d2, d3, d4, d5] => { results := [.lit (.bool true)], args := [d1, d2, d3, d4, d5] }
  | _ => none }
def clearingLeastRow : OpenClaim := { program := "ytodnohicahohdaagreatdoor", sum := "2336f6df334f8a699c4b239dfe69b82dd1e71c2b009d83ac64b80f927fa72036", func := "insolvency/insolvencylaw19.ClearingLeast", spec := "clearingLeast", inPlace := ["internal/bytealg.IndexByteString", "internal/bytealg.IndexString", "internal/bytealg.abigen_runtime_cmpstring"], unfollowed := true, recurses := true, named := ["unicode/utf8.first", "unicode/utf8.acceptRanges", "internal/bytealg.MaxLen"], plainKeys := false, apart := false, laid := [("unicode/utf8.acceptRanges", laid_unicode_utf8_acceptRanges), ("unicode/utf8.first", laid_unicode_utf8_first)] }
def ClearingLeastSaid : Prop := clearingLeastRow.holds Tryz.pinned (OpenSpec.ofChange clearingLeastSpec)

/-- ITS FALSE NEIGHBOUR: 'it returns false'. Refute it at one input. -/
def clearingLeastWrong : ChangeSpec := { name := "clearingLeast", fn := fun _ => fun
  | [d1, d2, d3, d4, d5] => { results := [.lit (.bool false)], args := [d1, d2, d3, d4, d5] }
  | _ => none }
def ClearingLeastWrongFalsely : Prop := clearingLeastRow.holds Tryz.pinned (OpenSpec.ofChange clearingLeastWrong)

/-- 'insolvencylaw19.ClearingBuilt': WHATEVER THE INPUT: true; the input reads as it did. -/
def clearingBuiltSpec : ChangeSpec := { name := "clearingBuilt", fn := fun _ => fun
  | [d1, d2, d3, d4, d5, d6] => { results := [.lit (.bool true)], args := [d1, d2, d3, d4, d5, d6] }
  | _ => none }
def clearingBuiltRow : OpenClaim := { program := "ytodnohicahohdaagreatdoor", sum := "2336f6df334f8a699c4b239dfe69b82dd1e71c2b009d83ac64b80f927fa72036", func := "insolvency/insolvencylaw19.ClearingBuilt", spec := "clearingBuilt", inPlace := ["internal/bytealg.IndexByteString", "internal/bytealg.IndexString", "internal/bytealg.abigen_runtime_cmpstring"], unfollowed := true, recurses := true, named := ["unicode/utf8.first", "unicode/utf8.acceptRanges", "internal/bytealg.MaxLen"], plainKeys := false, apart := false, laid := [("unicode/utf8.acceptRanges", laid_unicode_utf8_acceptRanges), ("unicode/utf8.first", laid_unicode_utf8_first)] }
def ClearingBuiltSaid : Prop := clearingBuiltRow.holds Tryz.pinned (OpenSpec.ofChange clearingBuiltSpec)

/-- ITS FALSE NEIGHBOUR: 'it returns false'. Refute it at one input. -/
def clearingBuiltWrong : ChangeSpec := { name := "clearingBuilt", fn := fun _ => fun
  | [d1, d2, d3, d4, d5, d6] => { results := [.lit (.bool false)], args := [d1, d2, d3, d4, d5, d6] }
  | _ => none }
def ClearingBuiltWrongFalsely : Prop := clearingBuiltRow.holds Tryz.pinned (OpenSpec.ofChange clearingBuiltWrong)

/-- 'insolvencylaw23.DividendPlain': WHATEVER THE INPUT: true; the input reads as it did. -/
def dividendPlainSpec : ChangeSpec := { name := "dividendPlain", fn := fun _ => fun
  | [d1, d2, d3, d4, d5, d6] => { results := [.lit (.bool true)], args := [d1, d2, d3, d4, d5, d6] }
  | _ => none }
def dividendPlainRow : OpenClaim := { program := "ytodnohicahohdaagreatdoor", sum := "2336f6df334f8a699c4b239dfe69b82dd1e71c2b009d83ac64b80f927fa72036", func := "insolvency/insolvencylaw23.DividendPlain", spec := "dividendPlain", inPlace := ["internal/bytealg.IndexByteString", "internal/bytealg.IndexString", "internal/bytealg.abigen_runtime_cmpstring"], unfollowed := true, recurses := true, named := ["unicode/utf8.first", "unicode/utf8.acceptRanges", "internal/bytealg.MaxLen"], plainKeys := false, apart := false, laid := [("unicode/utf8.acceptRanges", laid_unicode_utf8_acceptRanges), ("unicode/utf8.first", laid_unicode_utf8_first)] }
def DividendPlainSaid : Prop := dividendPlainRow.holds Tryz.pinned (OpenSpec.ofChange dividendPlainSpec)

/-- ITS FALSE NEIGHBOUR: 'it returns false'. Refute it at one input. -/
def dividendPlainWrong : ChangeSpec := { name := "dividendPlain", fn := fun _ => fun
  | [d1, d2, d3, d4, d5, d6] => { results := [.lit (.bool false)], args := [d1, d2, d3, d4, d5, d6] }
  | _ => none }
def DividendPlainWrongFalsely : Prop := dividendPlainRow.holds Tryz.pinned (OpenSpec.ofChange dividendPlainWrong)

/-- 'insolvencylaw21.DefaultcostBest': WHATEVER THE INPUT: true; the input reads as it did. -/
def defaultcostBestSpec : ChangeSpec := { name := "defaultcostBest", fn := fun _ => fun
  | [d1, d2, d3, d4, d5, d6, d7] => { results := [.lit (.bool true)], args := [d1, d2, d3, d4, d5, d6, d7] }
  | _ => none }
def defaultcostBestRow : OpenClaim := { program := "ytodnohicahohdaagreatdoor", sum := "2336f6df334f8a699c4b239dfe69b82dd1e71c2b009d83ac64b80f927fa72036", func := "insolvency/insolvencylaw21.DefaultcostBest", spec := "defaultcostBest", inPlace := ["internal/bytealg.IndexByteString", "internal/bytealg.IndexString", "internal/bytealg.abigen_runtime_cmpstring"], unfollowed := true, recurses := true, named := ["unicode/utf8.first", "unicode/utf8.acceptRanges", "internal/bytealg.MaxLen"], plainKeys := false, apart := false, laid := [("unicode/utf8.acceptRanges", laid_unicode_utf8_acceptRanges), ("unicode/utf8.first", laid_unicode_utf8_first)] }
def DefaultcostBestSaid : Prop := defaultcostBestRow.holds Tryz.pinned (OpenSpec.ofChange defaultcostBestSpec)

/-- ITS FALSE NEIGHBOUR: 'it returns false'. Refute it at one input. -/
def defaultcostBestWrong : ChangeSpec := { name := "defaultcostBest", fn := fun _ => fun
  | [d1, d2, d3, d4, d5, d6, d7] => { results := [.lit (.bool false)], args := [d1, d2, d3, d4, d5, d6, d7] }
  | _ => none }
def DefaultcostBestWrongFalsely : Prop := defaultcostBestRow.holds Tryz.pinned (OpenSpec.ofChange defaultcostBestWrong)

/-- 'insolvencylaw20.CertificateMake': WHATEVER THE INPUT: true; the input reads as it did. -/
def certificateMakeSpec : ChangeSpec := { name := "certificateMake", fn := fun _ => fun
  | [d1, d2, d3, d4, d5] => { results := [.lit (.bool true)], args := [d1, d2, d3, d4, d5] }
  | _ => none }
def certificateMakeRow : OpenClaim := { program := "ytodnohicahohdaagreatdoor", sum := "2336f6df334f8a699c4b239dfe69b82dd1e71c2b009d83ac64b80f927fa72036", func := "insolvency/insolvencylaw20.CertificateMake", spec := "certificateMake", inPlace := ["internal/bytealg.IndexByteString", "internal/bytealg.IndexString", "internal/bytealg.abigen_runtime_cmpstring"], unfollowed := true, recurses := true, named := ["unicode/utf8.first", "unicode/utf8.acceptRanges", "internal/bytealg.MaxLen"], plainKeys := false, apart := false, laid := [("unicode/utf8.acceptRanges", laid_unicode_utf8_acceptRanges), ("unicode/utf8.first", laid_unicode_utf8_first)] }
def CertificateMakeSaid : Prop := certificateMakeRow.holds Tryz.pinned (OpenSpec.ofChange certificateMakeSpec)

/-- ITS FALSE NEIGHBOUR: 'it returns false'. Refute it at one input. -/
def certificateMakeWrong : ChangeSpec := { name := "certificateMake", fn := fun _ => fun
  | [d1, d2, d3, d4, d5] => { results := [.lit (.bool false)], args := [d1, d2, d3, d4, d5] }
  | _ => none }
def CertificateMakeWrongFalsely : Prop := certificateMakeRow.holds Tryz.pinned (OpenSpec.ofChange certificateMakeWrong)

/- THE SECOND FORM. 'bulk': how many values and letters a reading holds, each counted each time it is reached (what is shared counts as often as it is met; a slice's spare places count too). A statement '..UptoSaid' is the law's where the arguments, and the package variables that the reading takes, are together of bulk at most 1048576: NARROWER than '..Said'. Prove '..Said' where nothing that the law and all that it calls make is longer than what came in: it says more and counts as full. Else prove '..UptoSaid'. A law counts once. -/
mutual
def uptoBulk {H : Type} : DataW H → Nat
  | .lit (.string bytes) => bytes.length + 1
  | .lit _ => 1
  | .nil => 1
  | .ptr d => uptoBulk d + 1
  | .slice elems spare => uptoBulkAll elems + uptoBulkAll spare + 1
  | .agg parts => uptoBulkAll parts + 1
  | .iface _ d => uptoBulk d + 1
  | .map entries => uptoBulkEntries entries + 1
  | .held _ => 1
def uptoBulkAll {H : Type} : List (DataW H) → Nat
  | [] => 0
  | d :: r => uptoBulk d + uptoBulkAll r
def uptoBulkEntries {H : Type} : List (Lit × DataW H) → Nat
  | [] => 0
  | x :: r => uptoBulkEntry x + uptoBulkEntries r
def uptoBulkEntry {H : Type} : Lit × DataW H → Nat
  | (.string bytes, d) => bytes.length + uptoBulk d + 1
  | (_, d) => uptoBulk d + 1
 end
def uptoSmall : (H : Type) → List (DataW H) → Bool := fun _ ds => decide (uptoBulkAll ds ≤ 1048576)
def OpenSpec.upto (s : _root_.Go.ChangeSpec) : _root_.Go.OpenSpec := { _root_.Go.OpenSpec.ofChange s with cond := some uptoSmall }

/-- 'insolvencylaw19.ClearingSolve', WHERE WHAT IT READS IS OF BULK AT MOST 1048576: true; the input reads as it did. -/
def clearingSolveUptoRow : OpenClaim := { program := "ytodnohicahohdaagreatdoor", sum := "2336f6df334f8a699c4b239dfe69b82dd1e71c2b009d83ac64b80f927fa72036", func := "insolvency/insolvencylaw19.ClearingSolve", spec := "clearingSolve", inPlace := ["internal/bytealg.IndexByteString", "internal/bytealg.IndexString", "internal/bytealg.abigen_runtime_cmpstring"], unfollowed := true, recurses := true, named := ["unicode/utf8.first", "unicode/utf8.acceptRanges", "internal/bytealg.MaxLen"], plainKeys := false, apart := false, laid := [("unicode/utf8.acceptRanges", laid_unicode_utf8_acceptRanges), ("unicode/utf8.first", laid_unicode_utf8_first)], narrowed := true }
def ClearingSolveUptoSaid : Prop := clearingSolveUptoRow.holds Tryz.pinned (OpenSpec.upto clearingSolveSpec)

/-- 'insolvencylaw19.ClearingLeast', WHERE WHAT IT READS IS OF BULK AT MOST 1048576: true; the input reads as it did. -/
def clearingLeastUptoRow : OpenClaim := { program := "ytodnohicahohdaagreatdoor", sum := "2336f6df334f8a699c4b239dfe69b82dd1e71c2b009d83ac64b80f927fa72036", func := "insolvency/insolvencylaw19.ClearingLeast", spec := "clearingLeast", inPlace := ["internal/bytealg.IndexByteString", "internal/bytealg.IndexString", "internal/bytealg.abigen_runtime_cmpstring"], unfollowed := true, recurses := true, named := ["unicode/utf8.first", "unicode/utf8.acceptRanges", "internal/bytealg.MaxLen"], plainKeys := false, apart := false, laid := [("unicode/utf8.acceptRanges", laid_unicode_utf8_acceptRanges), ("unicode/utf8.first", laid_unicode_utf8_first)], narrowed := true }
def ClearingLeastUptoSaid : Prop := clearingLeastUptoRow.holds Tryz.pinned (OpenSpec.upto clearingLeastSpec)

/-- 'insolvencylaw19.ClearingBuilt', WHERE WHAT IT READS IS OF BULK AT MOST 1048576: true; the input reads as it did. -/
def clearingBuiltUptoRow : OpenClaim := { program := "ytodnohicahohdaagreatdoor", sum := "2336f6df334f8a699c4b239dfe69b82dd1e71c2b009d83ac64b80f927fa72036", func := "insolvency/insolvencylaw19.ClearingBuilt", spec := "clearingBuilt", inPlace := ["internal/bytealg.IndexByteString", "internal/bytealg.IndexString", "internal/bytealg.abigen_runtime_cmpstring"], unfollowed := true, recurses := true, named := ["unicode/utf8.first", "unicode/utf8.acceptRanges", "internal/bytealg.MaxLen"], plainKeys := false, apart := false, laid := [("unicode/utf8.acceptRanges", laid_unicode_utf8_acceptRanges), ("unicode/utf8.first", laid_unicode_utf8_first)], narrowed := true }
def ClearingBuiltUptoSaid : Prop := clearingBuiltUptoRow.holds Tryz.pinned (OpenSpec.upto clearingBuiltSpec)

/-- 'insolvencylaw23.DividendPlain', WHERE WHAT IT READS IS OF BULK AT MOST 1048576: true; the input reads as it did. -/
def dividendPlainUptoRow : OpenClaim := { program := "ytodnohicahohdaagreatdoor", sum := "2336f6df334f8a699c4b239dfe69b82dd1e71c2b009d83ac64b80f927fa72036", func := "insolvency/insolvencylaw23.DividendPlain", spec := "dividendPlain", inPlace := ["internal/bytealg.IndexByteString", "internal/bytealg.IndexString", "internal/bytealg.abigen_runtime_cmpstring"], unfollowed := true, recurses := true, named := ["unicode/utf8.first", "unicode/utf8.acceptRanges", "internal/bytealg.MaxLen"], plainKeys := false, apart := false, laid := [("unicode/utf8.acceptRanges", laid_unicode_utf8_acceptRanges), ("unicode/utf8.first", laid_unicode_utf8_first)], narrowed := true }
def DividendPlainUptoSaid : Prop := dividendPlainUptoRow.holds Tryz.pinned (OpenSpec.upto dividendPlainSpec)

/-- 'insolvencylaw21.DefaultcostBest', WHERE WHAT IT READS IS OF BULK AT MOST 1048576: true; the input reads as it did. -/
def defaultcostBestUptoRow : OpenClaim := { program := "ytodnohicahohdaagreatdoor", sum := "2336f6df334f8a699c4b239dfe69b82dd1e71c2b009d83ac64b80f927fa72036", func := "insolvency/insolvencylaw21.DefaultcostBest", spec := "defaultcostBest", inPlace := ["internal/bytealg.IndexByteString", "internal/bytealg.IndexString", "internal/bytealg.abigen_runtime_cmpstring"], unfollowed := true, recurses := true, named := ["unicode/utf8.first", "unicode/utf8.acceptRanges", "internal/bytealg.MaxLen"], plainKeys := false, apart := false, laid := [("unicode/utf8.acceptRanges", laid_unicode_utf8_acceptRanges), ("unicode/utf8.first", laid_unicode_utf8_first)], narrowed := true }
def DefaultcostBestUptoSaid : Prop := defaultcostBestUptoRow.holds Tryz.pinned (OpenSpec.upto defaultcostBestSpec)

/-- 'insolvencylaw20.CertificateMake', WHERE WHAT IT READS IS OF BULK AT MOST 1048576: true; the input reads as it did. -/
def certificateMakeUptoRow : OpenClaim := { program := "ytodnohicahohdaagreatdoor", sum := "2336f6df334f8a699c4b239dfe69b82dd1e71c2b009d83ac64b80f927fa72036", func := "insolvency/insolvencylaw20.CertificateMake", spec := "certificateMake", inPlace := ["internal/bytealg.IndexByteString", "internal/bytealg.IndexString", "internal/bytealg.abigen_runtime_cmpstring"], unfollowed := true, recurses := true, named := ["unicode/utf8.first", "unicode/utf8.acceptRanges", "internal/bytealg.MaxLen"], plainKeys := false, apart := false, laid := [("unicode/utf8.acceptRanges", laid_unicode_utf8_acceptRanges), ("unicode/utf8.first", laid_unicode_utf8_first)], narrowed := true }
def CertificateMakeUptoSaid : Prop := certificateMakeUptoRow.holds Tryz.pinned (OpenSpec.upto certificateMakeSpec)

end Rows
end Go.Proofs.YtodnohicahohdaaGreatDoor
