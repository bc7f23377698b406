import Derived.Test.YthkggcakedkboaaGreatDoorZ46
set_option linter.all false
set_option maxRecDepth 100000
set_option maxHeartbeats 8000000
namespace Go.Proofs.Xe
open Go Go.RowKit Go.ChangeShapes Go.WideShapes Go.ChangeAt Go.Proofs.Ins Go.Proofs.YthkggcakedkboaaGreatDoor
def atl{a b:Bool}(h:a=true)(h2:b=true):(a&&b)=true:=by rw[h,h2];rfl
theorem iterates_holds:Rows.ClearingIteratesSaid:=
 OpenClaim.holds_of_wide 5 Tryz.f5 rfl rfl rfl rfl rfl rfl rfl ⟨rfl,rfl,rfl,rfl,rfl⟩ rfl rfl rfl rfl rfl (by kernel_rfl) Tryz.func5 (by unfold joinedFacts;repeat' (first|(with_reducible refine atl ?_ ?_)|(as_aux_lemma=>kernel_rfl)))
  (dc (by kernel_rfl)) (by unfold Func.isWrapper;first|(rw[ab (by decide+kernel)];kernel_rfl)|(rw[ae (by decide+kernel)];exact⟨rfl,rfl⟩))
  (λos started H enc _=>iterates_lifted os started H enc)
end Go.Proofs.Xe
namespace Go.Proofs.YthkggcakedkboaaGreatDoor
open Go Go.Proofs.Ins Go.Proofs.Xe
theorem iterates_card:Rows.ClearingIteratesCardSaid:=
 Claim7.holds_tied_plain_at .later [] [.data, .pinned] true (true, "c33571cb9a176d925ba35829a9c07d987292f77a21394b96e561315dd44ad115") false
  iterates_holds (λ_ h=>by cases h) (by as_aux_lemma=>kernel_rfl) (λ_ h=>by cases h) clearingIterates_row_tie rfl ⟨rfl,rfl⟩ (by as_aux_lemma=>kernel_rfl) rfl
  (λf fn hf hfn=>by
   obtain rfl:f=5:=eC ((show Tryz.prog.funcNamed "insolvency/insolvencylaw19.ClearingIterates" =some 5 by kernel_rfl).symm.trans hf)|>.symm;obtain rfl:fn=Tryz.f5:=(eC (Tryz.func5.symm.trans hfn)).symm;exact⟨by as_aux_lemma=>kernel_rfl,λj t ht=>by
    rw[Tryz.params5]at ht;have hm:t∈[5,22,23,24,24,5]:=by simpa using Array.mem_of_getElem? ht
    have hall:([5,22,23,24,24,5].all λu=>!Tryz.prog.wantsStandIn u)=true:=by kernel_rfl
    exact(show Tryz.prog.wantsStandIn t=false by simpa using eM.1 hall t hm)⟩)
  (by as_aux_lemma=>kernel_rfl)
#print axioms iterates_card
end Go.Proofs.YthkggcakedkboaaGreatDoor
