/- ClearingDerivative: for every input the law returns true. Conditions: those of the given row alone. -/
import Derived.Test.YtjonjhcaniinaaaGreatDoorZ42
set_option linter.all false
set_option maxRecDepth 100000
set_option maxHeartbeats 8000000
namespace Go.Proofs.Xe
open Go Go.RowKit Go.ChangeShapes Go.WideShapes Go.ChangeAt Go.Proofs.Ins Go.Proofs.YtjonjhcaniinaaaGreatDoor
theorem aoj {a b:Bool} (h:a=true) (h2:b=true):(a && b)=true:=by rw [h,h2];rfl
theorem derivative_holds:Rows.ClearingDerivativeSaid :=
 OpenClaim.holds_of_wide 6 Tryz.f6 rfl rfl rfl rfl rfl rfl rfl ⟨rfl,rfl,rfl,rfl,rfl⟩ rfl rfl rfl rfl rfl (by kernel_rfl) Tryz.func6 (by unfold joinedFacts;repeat' (first|(with_reducible refine aoj ?_ ?_)|(as_aux_lemma=>kernel_rfl)))
  (of_decide_eq_true (by kernel_rfl)) (by unfold Func.isWrapper;first|(rw [if_pos (by decide +kernel)];kernel_rfl)|(rw [if_neg (by decide +kernel)];exact ⟨rfl,rfl⟩))
  (fun os started H enc _=>derivative_lifted os started H enc)
end Go.Proofs.Xe
namespace Go.Proofs.YtjonjhcaniinaaaGreatDoor
open Go Go.Proofs.Ins Go.Proofs.Xe
theorem derivative_card:Rows.ClearingDerivativeCardSaid :=
 Claim7.holds_tied_plain_at .later [] [.data, .pinned] true (true, "f6c077e955ea02bc9dc3ad50e9c68042c20e70ade369de111ffe48fa1f34a45d") false
  derivative_holds (fun _ h=>by cases h) (by as_aux_lemma=>kernel_rfl) (fun _ h=>by cases h) clearingDerivative_row_tie rfl ⟨rfl,rfl⟩ (by as_aux_lemma=>kernel_rfl) rfl
  (fun f fn hf hfn=>by
   obtain rfl : f = 6 := Option.some.inj ((show Tryz.prog.funcNamed "insolvency/insolvencylaw19.ClearingDerivative" = some 6 by kernel_rfl).symm.trans hf) |>.symm
   obtain rfl:fn=Tryz.f6:=(Option.some.inj (Tryz.func6.symm.trans hfn)).symm
   exact ⟨by as_aux_lemma=>kernel_rfl,fun j t ht=>by
    rw [Tryz.params6] at ht
    have hm:t∈[5,22,23,24,24,22,22]:=by simpa using Array.mem_of_getElem? ht
    have hall:([5,22,23,24,24,22,22].all fun u=>!Tryz.prog.wantsStandIn u)=true:=by kernel_rfl
    exact (show Tryz.prog.wantsStandIn t=false by simpa using List.all_eq_true.1 hall t hm)⟩)
  (by as_aux_lemma=>kernel_rfl)
#print axioms derivative_card
end Go.Proofs.YtjonjhcaniinaaaGreatDoor
