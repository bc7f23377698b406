import Derived.Test.YtchhojplceoifaaGreatDoorYb45
set_option linter.all false
set_option maxRecDepth 100000
set_option maxHeartbeats 8000000
namespace Go.Proofs.Xe
open Go Go.RowKit Go.ChangeShapes Go.WideShapes Go.ChangeAt Go.Proofs.Ins Go.Proofs.YtchhojplceoifaaGreatDoor
def atn{a b:Bool}(h:a=true)(h2:b=true):(a&&b)=true:=by rw[h,h2];rfl
theorem paths_holds:Rows.CertificatePathsSaid:=
 OpenClaim.holds_of_wide 4 Tryz.f4 rfl rfl rfl rfl rfl rfl rfl ⟨rfl,rfl,rfl,rfl,rfl⟩ rfl rfl rfl rfl rfl (by kernel_rfl) Tryz.func4 (by unfold joinedFacts;repeat' (first|(with_reducible refine atn ?_ ?_)|(as_aux_lemma=>kernel_rfl)))
  (cM (by kernel_rfl)) (by unfold Func.isWrapper;first|(rw[ab (by decide+kernel)];kernel_rfl)|(rw[ae (by decide+kernel)];exact⟨rfl,rfl⟩))
  (λos started H enc _=>paths_lifted os started H enc)
end Go.Proofs.Xe
namespace Go.Proofs.YtchhojplceoifaaGreatDoor
open Go Go.Proofs.Ins Go.Proofs.Xe
theorem paths_card:Rows.CertificatePathsCardSaid:=
 Claim7.holds_tied_plain_at .later [] [.data, .pinned] true (true, "8cca2c351206d027a355f84a4b77faf94631803787bddacd6b274197ca191a2a") false
  paths_holds (λ_ h=>by cases h) (by as_aux_lemma=>kernel_rfl) (λ_ h=>by cases h) certificatePaths_row_tie rfl ⟨rfl,rfl⟩ (by as_aux_lemma=>kernel_rfl) rfl
  (λf fn hf hfn=>by
   obtain rfl:f=4:=eA ((show Tryz.prog.funcNamed "insolvency/insolvencylaw20.CertificatePaths" =some 4 by kernel_rfl).symm.trans hf)|>.symm;obtain rfl:fn=Tryz.f4:=(eA (Tryz.func4.symm.trans hfn)).symm;exact⟨by as_aux_lemma=>kernel_rfl,λj t ht=>by
    rw[Tryz.params4]at ht;have hm:t∈[5,22,23,24,24]:=by simpa using Array.mem_of_getElem? ht
    have hall:([5,22,23,24,24].all λu=>!Tryz.prog.wantsStandIn u)=true:=by kernel_rfl
    exact(show Tryz.prog.wantsStandIn t=false by simpa using eM.1 hall t hm)⟩)
  (by as_aux_lemma=>kernel_rfl)
#print axioms paths_card
end Go.Proofs.YtchhojplceoifaaGreatDoor
