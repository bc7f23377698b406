import Derived.Test.YthkggcakedkboaaGreatDoorYc44
set_option linter.all false
set_option maxRecDepth 100000
set_option maxHeartbeats 8000000
namespace Go.Proofs.Xe
open Go Go.RowKit Go.ChangeShapes Go.WideShapes Go.ChangeAt Go.Proofs.Ins Go.Proofs.YthkggcakedkboaaGreatDoor
def asq{a b:Bool}(h:a=true)(h2:b=true):(a&&b)=true:=by rw[h,h2];rfl
theorem cash_holds:Rows.ClearingCashSaid:=
 OpenClaim.holds_of_wide 7 Tryz.f7 rfl rfl rfl rfl rfl rfl rfl ⟨rfl,rfl,rfl,rfl,rfl⟩ rfl rfl rfl rfl rfl (by kernel_rfl) Tryz.func7 (by unfold joinedFacts;repeat' (first|(with_reducible refine asq ?_ ?_)|(as_aux_lemma=>kernel_rfl)))
  (cT (by kernel_rfl)) (by unfold Func.isWrapper;first|(rw[ab (by decide+kernel)];kernel_rfl)|(rw[ae (by decide+kernel)];exact⟨rfl,rfl⟩))
  (λos started H enc _=>cash_lifted os started H enc)
end Go.Proofs.Xe
namespace Go.Proofs.YthkggcakedkboaaGreatDoor
open Go Go.Proofs.Ins Go.Proofs.Xe
theorem cash_card:Rows.ClearingCashCardSaid:=
 Claim7.holds_tied_plain_at .later [] [.data, .pinned] true (true, "c33571cb9a176d925ba35829a9c07d987292f77a21394b96e561315dd44ad115") false
  cash_holds (λ_ h=>by cases h) (by as_aux_lemma=>kernel_rfl) (λ_ h=>by cases h) clearingCash_row_tie rfl ⟨rfl,rfl⟩ (by as_aux_lemma=>kernel_rfl) rfl
  (λf fn hf hfn=>by
   obtain rfl:f=7:=eo ((show Tryz.prog.funcNamed "insolvency/insolvencylaw19.ClearingCash" =some 7 by kernel_rfl).symm.trans hf)|>.symm;obtain rfl:fn=Tryz.f7:=(eo (Tryz.func7.symm.trans hfn)).symm;exact⟨by as_aux_lemma=>kernel_rfl,λj t ht=>by
    rw[Tryz.params7]at ht;have hm:t∈[5,22,23,24,24,5,60]:=by simpa using Array.mem_of_getElem? ht
    have hall:([5,22,23,24,24,5,60].all λu=>!Tryz.prog.wantsStandIn u)=true:=by kernel_rfl
    exact(show Tryz.prog.wantsStandIn t=false by simpa using eE.1 hall t hm)⟩)
  (by as_aux_lemma=>kernel_rfl)
#print axioms cash_card
end Go.Proofs.YthkggcakedkboaaGreatDoor
