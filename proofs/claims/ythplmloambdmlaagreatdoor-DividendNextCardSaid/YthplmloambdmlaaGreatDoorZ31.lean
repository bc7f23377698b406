/- DividendNext: for every input the law returns true. Conditions: those of the given row alone. -/
import Derived.Test.YthplmloambdmlaaGreatDoorZ15
import Derived.Test.YthplmloambdmlaaGreatDoorZ30

set_option linter.unusedSimpArgs false
set_option linter.unusedVariables false
namespace Go.Proofs.Ins
open Go Go.RowKit Go.ChangeShapes Go.WideShapes Go.ChangeAt Go.Proofs.YthplmloambdmlaaGreatDoor

set_option maxRecDepth 100000 in
set_option maxHeartbeats 1600000 in
theorem next_lifted (os : Os) (started : os.Started) (H : Type) (enc : TypeId × Value → H) :
    ReturnsInHanded {} Tryz.checked os 14 .any (fun w args => (Rows.dividendNextSpec.pre enc Tryz.prog Tryz.f14 [] false w args ∧ laidMetH Tryz.prog laidL w) ∧ sizedMet enc Tryz.prog Tryz.f14 (OpenSpec.ofChange Rows.dividendNextSpec) false w args)
      (Rows.dividendNextSpec.post enc Tryz.prog Tryz.f14 false true false false) := by
  refine returnsInHanded_of_change_and (C := Tryz.checked) (X := fun w _ => laidMetH Tryz.prog laidL w) (fun _ _ _ hh h => h.of_heap hh) own' started (by kernel_rfl) Tryz.func14
    (ChangeSpec.witness_shaped (enc := enc) (C := Tryz.checked) (os := os) (X := fun w _ => laidMetH Tryz.prog laidL w) false (World.laidAll Tryz.prog os laidL) #[.slice none 0 0, .slice none 0 0] 8 (World.laidAll_os _ _ _)
      (World.shaped_of_ZipB (by kernel_rfl) (by kernel_rfl)) (by kernel_rfl) (by kernel_rfl) (by kernel_rfl)
      (by rw [MakeChecks.laidMetH_plain _ _ _ (by kernel_rfl)]; exact laidMet_laidAll _ (by kernel_rfl) (by kernel_rfl))) ?_
  intro W base args ds gs before hval0 hW hc hsz hL _
  have hval : ∀ (j : Nat) t v, Tryz.f14.params[j]? = some t → args[j]? = some v → Value.okWide Tryz.prog W .any base t v := hval0
  have hW' := hW
  obtain ⟨p, q, hA0, hV, rfl, _, _⟩ := hW
  have hA : DataW.TrodAll enc Tryz.prog W 0 (fun _ => true) true Tryz.f14.params.toList args.toList ds p := hA0
  have hsz1 : (DataW.weightsEach Tryz.prog (Tryz.f14.params.toList ++ Rows.dividendNextSpec.plain.varTypes Tryz.prog) (ds ++ gs)).all (· ≤ reachBytes) = true := hsz
  obtain ⟨rfl, rfl⟩ := trodVars_none hV
  rw [Tryz.params14] at hsz1 hval hA
  clear hA0 hval0 hsz hc hL hV
  obtain ⟨v1, vs1, d1, ds1, p1, q1, e1, rfl, rfl, h1, hA⟩ := trodAll_cons hA
  obtain ⟨v2, vs2, d2, ds2, p2, q2, rfl, rfl, rfl, h2, hA⟩ := trodAll_cons hA
  obtain ⟨rfl, rfl, rfl⟩ := trodAll_nil hA
  obtain rfl : args = #[v1, v2] := by rw [← Array.toArray_toList (xs := args), e1]
  clear hA e1
  obtain ⟨a1, n1, c1, D1, rfl, l1, s1, b1⟩ := v_rats (hval 0 _ _ rfl rfl) h1 (light_arg hsz1 (j := 0) rfl rfl)
  obtain ⟨a2, n2, c2, D2, rfl, l2, s2, b2⟩ := v_rats (hval 1 _ _ rfl rfl) h2 (light_arg hsz1 (j := 1) rfl rfl)
  exact law_post rfl rfl rfl (by kernel_rfl) hW' (law_next a1 n1 c1 a2 n2 c2 D1 D2 W s1 s2 b1 b2 l1 l2)

end Go.Proofs.Ins
