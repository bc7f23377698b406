import Derived.Test.YtchhojplceoifaaGreatDoorYf48
set_option linter.all false
set_option maxRecDepth 100000
set_option maxHeartbeats 8000000
namespace Go.Proofs.Xe
open Go Go.RowKit Go.ChangeShapes Go.WideShapes Go.ChangeAt Go.Proofs.Ins Go.Proofs.YtchhojplceoifaaGreatDoor
def au8{a b:Bool}(h:a=true)(h2:b=true):(a&&b)=true:=by rw[h,h2];rfl
theorem extremes_holds:Rows.DefaultcostExtremesSaid:=
 OpenClaim.holds_of_wide 8 Tryz.f8 rfl rfl rfl rfl rfl rfl rfl ⟨rfl,rfl,rfl,rfl,rfl⟩ rfl rfl rfl rfl rfl (by kernel_rfl) Tryz.func8 (by unfold joinedFacts;repeat' (first|(with_reducible refine au8 ?_ ?_)|(as_aux_lemma=>kernel_rfl)))
  (cQ (by kernel_rfl)) (by unfold Func.isWrapper;first|(rw[ae (by decide+kernel)];kernel_rfl)|(rw[ab (by decide+kernel)];exact⟨rfl,rfl⟩))
  (λos started H enc _=>extremes_lifted os started H enc)
end Go.Proofs.Xe
namespace Go.Proofs.YtchhojplceoifaaGreatDoor
open Go Go.Proofs.Ins Go.Proofs.Xe
theorem extremes_card:Rows.DefaultcostExtremesCardSaid:=
 Claim7.holds_tied_plain_at .later [] [.data, .pinned] true (true, "8cca2c351206d027a355f84a4b77faf94631803787bddacd6b274197ca191a2a") false
  extremes_holds (λ_ h=>by cases h) (by as_aux_lemma=>kernel_rfl) (λ_ h=>by cases h) defaultcostExtremes_row_tie rfl ⟨rfl,rfl⟩ (by as_aux_lemma=>kernel_rfl) rfl
  (λf fn hf hfn=>by
   obtain rfl:f=8:=eA ((show Tryz.prog.funcNamed "insolvency/insolvencylaw21.DefaultcostExtremes" =some 8 by kernel_rfl).symm.trans hf)|>.symm;obtain rfl:fn=Tryz.f8:=(eA (Tryz.func8.symm.trans hfn)).symm;exact⟨by as_aux_lemma=>kernel_rfl,λj t ht=>by
    rw[Tryz.params8]at ht;have hm:t∈[5,22,23,24,24,55,22]:=by simpa using Array.mem_of_getElem? ht
    have hall:([5,22,23,24,24,55,22].all λu=>!Tryz.prog.wantsStandIn u)=true:=by kernel_rfl
    exact(show Tryz.prog.wantsStandIn t=false by simpa using eJ.1 hall t hm)⟩)
  (by as_aux_lemma=>kernel_rfl)
#print axioms extremes_card
end Go.Proofs.YtchhojplceoifaaGreatDoor
