/- DividendNext: for every input the law returns true. Conditions: those of the given row alone. -/
import Derived.Test.YthplmloambdmlaaGreatDoorZ31

set_option linter.unusedSimpArgs false
set_option linter.unusedVariables false
namespace Go.Proofs.Ins
open Go Go.RowKit Go.ChangeShapes Go.WideShapes Go.ChangeAt Go.Proofs.YthplmloambdmlaaGreatDoor

theorem and_tt {a b : Bool} (h : a = true) (h2 : b = true) : (a && b) = true := by rw [h, h2]; rfl
set_option maxRecDepth 100000 in
set_option maxHeartbeats 4000000 in
theorem next_holds : Rows.DividendNextSaid :=
  OpenClaim.holds_of_wide 14 Tryz.f14 rfl rfl rfl rfl rfl rfl rfl ⟨rfl, rfl, rfl, rfl, rfl⟩ rfl rfl rfl rfl rfl (by kernel_rfl) Tryz.func14 (by unfold joinedFacts; repeat' (first | (with_reducible refine and_tt ?_ ?_) | (as_aux_lemma => kernel_rfl)))
    (of_decide_eq_true (by kernel_rfl)) (by unfold Func.isWrapper; first | (rw [if_pos (by decide +kernel)]; kernel_rfl) | (rw [if_neg (by decide +kernel)]; exact ⟨rfl, rfl⟩))
    (fun os started H enc _ => next_lifted os started H enc)
end Go.Proofs.Ins
namespace Go.Proofs.YthplmloambdmlaaGreatDoor
open Go Go.Proofs.Ins
set_option maxRecDepth 100000 in
set_option maxHeartbeats 4000000 in
theorem next_card : Rows.DividendNextCardSaid :=
  Claim7.holds_tied_plain_at .later [] [.data, .pinned] true (true, "fe8e1757a52675207c9addc11127453629179eff506595e7c3cc17ca3faa9ed6") false
    next_holds (fun _ h => by cases h) (by as_aux_lemma => kernel_rfl) (fun _ h => by cases h) dividendNext_row_tie rfl ⟨rfl, rfl⟩ (by as_aux_lemma => kernel_rfl) rfl
    (fun f fn hf hfn => by
      obtain rfl : f = 14 := Option.some.inj ((show Tryz.prog.funcNamed "insolvency/insolvencylaw23.DividendNext" = some 14 by kernel_rfl).symm.trans hf) |>.symm
      obtain rfl : fn = Tryz.f14 := (Option.some.inj (Tryz.func14.symm.trans hfn)).symm
      exact ⟨by as_aux_lemma => kernel_rfl, fun j t ht => by
        rw [Tryz.params14] at ht
        have hm : t ∈ [30, 30] := by simpa using Array.mem_of_getElem? ht
        have hall : ([30, 30].all fun u => !Tryz.prog.wantsStandIn u) = true := by kernel_rfl
        exact (show Tryz.prog.wantsStandIn t = false by simpa using List.all_eq_true.1 hall t hm)⟩)
    (by as_aux_lemma => kernel_rfl)
#print axioms next_card
end Go.Proofs.YthplmloambdmlaaGreatDoor
