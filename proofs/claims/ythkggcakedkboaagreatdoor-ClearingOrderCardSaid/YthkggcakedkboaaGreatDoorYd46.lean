import Derived.Test.YthkggcakedkboaaGreatDoorYd45
set_option linter.all false
set_option maxRecDepth 100000
set_option maxHeartbeats 8000000
namespace Go.Proofs.Xe
open Go Go.RowKit Go.ChangeShapes Go.WideShapes Go.ChangeAt Go.Proofs.Ins Go.Proofs.YthkggcakedkboaaGreatDoor
def asA{a b:Bool}(h:a=true)(h2:b=true):(a&&b)=true:=by rw[h,h2];rfl
theorem order_holds:Rows.ClearingOrderSaid:=
 OpenClaim.holds_of_wide 9 Tryz.f9 rfl rfl rfl rfl rfl rfl rfl ⟨rfl,rfl,rfl,rfl,rfl⟩ rfl rfl rfl rfl rfl (by kernel_rfl) Tryz.func9 (by unfold joinedFacts;repeat' (first|(with_reducible refine asA ?_ ?_)|(as_aux_lemma=>kernel_rfl)))
  (cU (by kernel_rfl)) (by unfold Func.isWrapper;first|(rw[ab (by decide+kernel)];kernel_rfl)|(rw[ae (by decide+kernel)];exact⟨rfl,rfl⟩))
  (λos started H enc _=>order_lifted os started H enc)
end Go.Proofs.Xe
namespace Go.Proofs.YthkggcakedkboaaGreatDoor
open Go Go.Proofs.Ins Go.Proofs.Xe
theorem order_card:Rows.ClearingOrderCardSaid:=
 Claim7.holds_tied_plain_at .later [] [.data, .pinned] true (true, "c33571cb9a176d925ba35829a9c07d987292f77a21394b96e561315dd44ad115") false
  order_holds (λ_ h=>by cases h) (by as_aux_lemma=>kernel_rfl) (λ_ h=>by cases h) clearingOrder_row_tie rfl ⟨rfl,rfl⟩ (by as_aux_lemma=>kernel_rfl) rfl
  (λf fn hf hfn=>by
   obtain rfl:f=9:=eA ((show Tryz.prog.funcNamed "insolvency/insolvencylaw19.ClearingOrder" =some 9 by kernel_rfl).symm.trans hf)|>.symm;obtain rfl:fn=Tryz.f9:=(eA (Tryz.func9.symm.trans hfn)).symm;exact⟨by as_aux_lemma=>kernel_rfl,λj t ht=>by
    rw[Tryz.params9]at ht;have hm:t∈[5,22,23,24,24,5]:=by simpa using Array.mem_of_getElem? ht
    have hall:([5,22,23,24,24,5].all λu=>!Tryz.prog.wantsStandIn u)=true:=by kernel_rfl
    exact(show Tryz.prog.wantsStandIn t=false by simpa using eL.1 hall t hm)⟩)
  (by as_aux_lemma=>kernel_rfl)
#print axioms order_card
end Go.Proofs.YthkggcakedkboaaGreatDoor
