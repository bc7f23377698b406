import Derived.Test.YtodnohicahohdaaGreatDoorYh49
set_option linter.all false
set_option maxRecDepth 100000
set_option maxHeartbeats 8000000
namespace Go.Proofs.Xe
open Go Go.RowKit Go.ChangeShapes Go.WideShapes Go.ChangeAt Go.Proofs.Ins Go.Proofs.YtodnohicahohdaaGreatDoor
def axA{a b:Bool}(h:a=true)(h2:b=true):(a&&b)=true:=by rw[h,h2];rfl
theorem plain_holds:Rows.DividendPlainSaid:=
 OpenClaim.holds_of_wide 6 Tryz.f6 rfl rfl rfl rfl rfl rfl rfl ⟨rfl,rfl,rfl,rfl,rfl⟩ rfl rfl rfl rfl rfl (by kernel_rfl) Tryz.func6 (by unfold joinedFacts;repeat' (first|(with_reducible refine axA ?_ ?_)|(as_aux_lemma=>kernel_rfl)))
  (cI (by kernel_rfl)) (by unfold Func.isWrapper;first|(rw[ab (by decide+kernel)];kernel_rfl)|(rw[ae (by decide+kernel)];exact⟨rfl,rfl⟩))
  (λos started H enc _=>plain_lifted os started H enc)
end Go.Proofs.Xe
namespace Go.Proofs.YtodnohicahohdaaGreatDoor
open Go Go.Proofs.Ins Go.Proofs.Xe
theorem plain_card:Rows.DividendPlainCardSaid:=
 Claim7.holds_tied_plain_at .later [] [.data, .pinned] true (true, "b8f1f56793568bef6be16ba64d2f8dcc303349c542b1d92ebbe5afd60c82186e") false
  plain_holds (λ_ h=>by cases h) (by as_aux_lemma=>kernel_rfl) (λ_ h=>by cases h) dividendPlain_row_tie rfl ⟨rfl,rfl⟩ (by as_aux_lemma=>kernel_rfl) rfl
  (λf fn hf hfn=>by
   obtain rfl:f=6:=eI ((show Tryz.prog.funcNamed "insolvency/insolvencylaw23.DividendPlain" =some 6 by kernel_rfl).symm.trans hf)|>.symm;obtain rfl:fn=Tryz.f6:=(eI (Tryz.func6.symm.trans hfn)).symm;exact⟨by as_aux_lemma=>kernel_rfl,λj t ht=>by
    rw[Tryz.params6]at ht;have hm:t∈[5,22,23,24,24,22]:=by simpa using Array.mem_of_getElem? ht
    have hall:([5,22,23,24,24,22].all λu=>!Tryz.prog.wantsStandIn u)=true:=by kernel_rfl
    exact(show Tryz.prog.wantsStandIn t=false by simpa using eA.1 hall t hm)⟩)
  (by as_aux_lemma=>kernel_rfl)
#print axioms plain_card
end Go.Proofs.YtodnohicahohdaaGreatDoor
