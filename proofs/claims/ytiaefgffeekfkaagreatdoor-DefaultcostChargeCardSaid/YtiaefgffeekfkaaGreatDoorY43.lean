/- DefaultcostCharge: for every input the law returns true. Conditions: those of the given row alone. -/
import Derived.Test.YtiaefgffeekfkaaGreatDoorY42
set_option linter.unusedSimpArgs false
set_option linter.unusedVariables false
set_option maxHeartbeats 8000000
namespace Go.Proofs.Xe
open Go Go.RowKit Go.ChangeShapes Go.WideShapes Go.ChangeAt Go.Proofs.Ins Go.Proofs.YtiaefgffeekfkaaGreatDoor
theorem and_tt {a b:Bool} (h:a=true) (h2:b=true):(a && b)=true:=by rw [h,h2];rfl
set_option maxRecDepth 100000 in
theorem charge_holds:Rows.DefaultcostChargeSaid :=
 OpenClaim.holds_of_wide 4 Tryz.f4 rfl rfl rfl rfl rfl rfl rfl ⟨rfl,rfl,rfl,rfl,rfl⟩ rfl rfl rfl rfl rfl (by kernel_rfl) Tryz.func4 (by unfold joinedFacts;repeat' (first|(with_reducible refine and_tt ?_ ?_)|(as_aux_lemma=>kernel_rfl)))
  (of_decide_eq_true (by kernel_rfl)) (by unfold Func.isWrapper;first|(rw [if_pos (by decide +kernel)];kernel_rfl)|(rw [if_neg (by decide +kernel)];exact ⟨rfl,rfl⟩))
  (fun os started H enc _=>charge_lifted os started H enc)
end Go.Proofs.Xe
namespace Go.Proofs.YtiaefgffeekfkaaGreatDoor
open Go Go.Proofs.Ins Go.Proofs.Xe
set_option maxRecDepth 100000 in
theorem charge_card:Rows.DefaultcostChargeCardSaid :=
 Claim7.holds_tied_plain_at .later [] [.data, .pinned] true (true, "a8941af366c8028c5a0e538adf3d9ea304c1965b694454c51b6edfa7dd2be2ec") false
  charge_holds (fun _ h=>by cases h) (by as_aux_lemma=>kernel_rfl) (fun _ h=>by cases h) defaultcostCharge_row_tie rfl ⟨rfl,rfl⟩ (by as_aux_lemma=>kernel_rfl) rfl
  (fun f fn hf hfn=>by
   obtain rfl : f = 4 := Option.some.inj ((show Tryz.prog.funcNamed "insolvency/insolvencylaw21.DefaultcostCharge" = some 4 by kernel_rfl).symm.trans hf) |>.symm
   obtain rfl:fn=Tryz.f4:=(Option.some.inj (Tryz.func4.symm.trans hfn)).symm
   exact ⟨by as_aux_lemma=>kernel_rfl,fun j t ht=>by
    rw [Tryz.params4] at ht
    have hm:t∈[5,22,23,41,41,22,24]:=by simpa using Array.mem_of_getElem? ht
    have hall:([5,22,23,41,41,22,24].all fun u=>!Tryz.prog.wantsStandIn u)=true:=by kernel_rfl
    exact (show Tryz.prog.wantsStandIn t=false by simpa using List.all_eq_true.1 hall t hm)⟩)
  (by as_aux_lemma=>kernel_rfl)
#print axioms charge_card
end Go.Proofs.YtiaefgffeekfkaaGreatDoor
