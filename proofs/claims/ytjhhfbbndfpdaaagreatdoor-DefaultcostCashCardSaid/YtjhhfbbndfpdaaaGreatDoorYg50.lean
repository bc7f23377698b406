import Derived.Test.YtjhhfbbndfpdaaaGreatDoorYg49
set_option linter.all false
set_option maxRecDepth 100000
set_option maxHeartbeats 8000000
namespace Go.Proofs.Xe
open Go Go.RowKit Go.ChangeShapes Go.WideShapes Go.ChangeAt Go.Proofs.Ins Go.Proofs.YtjhhfbbndfpdaaaGreatDoor
def awD{a b:Bool}(h:a=true)(h2:b=true):(a&&b)=true:=by rw[h,h2];rfl
theorem cash_holds:Rows.DefaultcostCashSaid:=
 OpenClaim.holds_of_wide 3 Tryz.f3 rfl rfl rfl rfl rfl rfl rfl ⟨rfl,rfl,rfl,rfl,rfl⟩ rfl rfl rfl rfl rfl (by kernel_rfl) Tryz.func3 (by unfold joinedFacts;repeat' (first|(with_reducible refine awD ?_ ?_)|(as_aux_lemma=>kernel_rfl)))
  (cK (by kernel_rfl)) (by unfold Func.isWrapper;first|(rw[ab (by decide+kernel)];kernel_rfl)|(rw[ae (by decide+kernel)];exact⟨rfl,rfl⟩))
  (λos started H enc _=>cash_lifted os started H enc)
end Go.Proofs.Xe
namespace Go.Proofs.YtjhhfbbndfpdaaaGreatDoor
open Go Go.Proofs.Ins Go.Proofs.Xe
theorem cash_card:Rows.DefaultcostCashCardSaid:=
 Claim7.holds_tied_plain_at .later [] [.data, .pinned] true (true, "debf36cface32caf9934437ba6e685f0911932736f59523848523c31910e22cd") false
  cash_holds (λ_ h=>by cases h) (by as_aux_lemma=>kernel_rfl) (λ_ h=>by cases h) defaultcostCash_row_tie rfl ⟨rfl,rfl⟩ (by as_aux_lemma=>kernel_rfl) rfl
  (λf fn hf hfn=>by
   obtain rfl:f=3:=eE ((show Tryz.prog.funcNamed "insolvency/insolvencylaw21.DefaultcostCash" =some 3 by kernel_rfl).symm.trans hf)|>.symm;obtain rfl:fn=Tryz.f3:=(eE (Tryz.func3.symm.trans hfn)).symm;exact⟨by as_aux_lemma=>kernel_rfl,λj t ht=>by
    rw[Tryz.params3]at ht;have hm:t∈[5,22,23,24,24,25,22,5,25]:=by simpa using Array.mem_of_getElem? ht
    have hall:([5,22,23,24,24,25,22,5,25].all λu=>!Tryz.prog.wantsStandIn u)=true:=by kernel_rfl
    exact(show Tryz.prog.wantsStandIn t=false by simpa using eA.1 hall t hm)⟩)
  (by as_aux_lemma=>kernel_rfl)
#print axioms cash_card
end Go.Proofs.YtjhhfbbndfpdaaaGreatDoor
