/- ClearingMonotone: for every input the law returns true. Conditions: those of the given row alone. -/
import Derived.Test.YtjonjhcaniinaaaGreatDoorZ40
set_option linter.unusedSimpArgs false
set_option linter.unusedVariables false
set_option maxHeartbeats 8000000
namespace Go.Proofs.Xe
open Go Go.RowKit Go.ChangeShapes Go.WideShapes Go.ChangeAt Go.Proofs.Ins Go.Proofs.YtjonjhcaniinaaaGreatDoor
theorem ale {a b:Bool} (h:a=true) (h2:b=true):(a && b)=true:=by rw [h,h2];rfl
set_option maxRecDepth 100000 in
theorem monotone_holds:Rows.ClearingMonotoneSaid :=
 OpenClaim.holds_of_wide 5 Tryz.f5 rfl rfl rfl rfl rfl rfl rfl ⟨rfl,rfl,rfl,rfl,rfl⟩ rfl rfl rfl rfl rfl (by kernel_rfl) Tryz.func5 (by unfold joinedFacts;repeat' (first|(with_reducible refine ale ?_ ?_)|(as_aux_lemma=>kernel_rfl)))
  (of_decide_eq_true (by kernel_rfl)) (by unfold Func.isWrapper;first|(rw [if_pos (by decide +kernel)];kernel_rfl)|(rw [if_neg (by decide +kernel)];exact ⟨rfl,rfl⟩))
  (fun os started H enc _=>monotone_lifted os started H enc)
end Go.Proofs.Xe
namespace Go.Proofs.YtjonjhcaniinaaaGreatDoor
open Go Go.Proofs.Ins Go.Proofs.Xe
set_option maxRecDepth 100000 in
theorem monotone_card:Rows.ClearingMonotoneCardSaid :=
 Claim7.holds_tied_plain_at .later [] [.data, .pinned] true (true, "f6c077e955ea02bc9dc3ad50e9c68042c20e70ade369de111ffe48fa1f34a45d") false
  monotone_holds (fun _ h=>by cases h) (by as_aux_lemma=>kernel_rfl) (fun _ h=>by cases h) clearingMonotone_row_tie rfl ⟨rfl,rfl⟩ (by as_aux_lemma=>kernel_rfl) rfl
  (fun f fn hf hfn=>by
   obtain rfl : f = 5 := Option.some.inj ((show Tryz.prog.funcNamed "insolvency/insolvencylaw19.ClearingMonotone" = some 5 by kernel_rfl).symm.trans hf) |>.symm
   obtain rfl:fn=Tryz.f5:=(Option.some.inj (Tryz.func5.symm.trans hfn)).symm
   exact ⟨by as_aux_lemma=>kernel_rfl,fun j t ht=>by
    rw [Tryz.params5] at ht
    have hm:t∈[5,22,23,24,24,22,22]:=by simpa using Array.mem_of_getElem? ht
    have hall:([5,22,23,24,24,22,22].all fun u=>!Tryz.prog.wantsStandIn u)=true:=by kernel_rfl
    exact (show Tryz.prog.wantsStandIn t=false by simpa using List.all_eq_true.1 hall t hm)⟩)
  (by as_aux_lemma=>kernel_rfl)
#print axioms monotone_card
end Go.Proofs.YtjonjhcaniinaaaGreatDoor
