/- LiquidationForced: for every input the law returns true. Conditions: those of the given row alone. -/
import Derived.Test.YtobbllakdjampaaGreatDoorZ16
import Derived.Test.YtobbllakdjampaaGreatDoorZ37
import Derived.Test.YtobbllakdjampaaGreatDoorZ38

set_option linter.unusedSimpArgs false
set_option linter.unusedVariables false
namespace Go.Proofs.Ins
open Go Go.RowKit Go.ChangeShapes Go.WideShapes Go.ChangeAt Go.Proofs.YtobbllakdjampaaGreatDoor

set_option maxRecDepth 100000 in
set_option maxHeartbeats 1600000 in
theorem forced_lifted (os : Os) (started : os.Started) (H : Type) (enc : TypeId × Value → H) :
    ReturnsInHanded {} Tryz.checked os 7 .any (fun w args => (Rows.liquidationForcedSpec.pre enc Tryz.prog Tryz.f7 [] false w args ∧ laidMetH Tryz.prog laidL w) ∧ sizedMet enc Tryz.prog Tryz.f7 (OpenSpec.ofChange Rows.liquidationForcedSpec) false w args)
      (Rows.liquidationForcedSpec.post enc Tryz.prog Tryz.f7 false true false false) := by
  refine returnsInHanded_of_change_and (C := Tryz.checked) (X := fun w _ => laidMetH Tryz.prog laidL w) (fun _ _ _ hh h => h.of_heap hh) own' started (by kernel_rfl) Tryz.func7
    (ChangeSpec.witness_shaped (enc := enc) (C := Tryz.checked) (os := os) (X := fun w _ => laidMetH Tryz.prog laidL w) false (World.laidAll Tryz.prog os laidL) #[.int .u8 0, .slice none 0 0, .slice none 0 0, .slice none 0 0, .slice none 0 0, .int .u8 0, .agg #[.bool false, .string ⟨#[]⟩, .string ⟨#[]⟩]] 8 (World.laidAll_os _ _ _)
      (World.shaped_of_ZipB (by kernel_rfl) (by kernel_rfl)) (by kernel_rfl) (by kernel_rfl) (by kernel_rfl)
      (by rw [MakeChecks.laidMetH_plain _ _ _ (by kernel_rfl)]; exact laidMet_laidAll _ (by kernel_rfl) (by kernel_rfl))) ?_
  intro W base args ds gs before hval0 hW hc hsz hL _
  have hval : ∀ (j : Nat) t v, Tryz.f7.params[j]? = some t → args[j]? = some v → Value.okWide Tryz.prog W .any base t v := hval0
  have hW' := hW
  obtain ⟨p, q, hA0, hV, rfl, _, _⟩ := hW
  have hA : DataW.TrodAll enc Tryz.prog W 0 (fun _ => true) true Tryz.f7.params.toList args.toList ds p := hA0
  have hsz1 : (DataW.weightsEach Tryz.prog (Tryz.f7.params.toList ++ Rows.liquidationForcedSpec.plain.varTypes Tryz.prog) (ds ++ gs)).all (· ≤ reachBytes) = true := hsz
  obtain ⟨rfl, rfl⟩ := trodVars_none hV
  rw [Tryz.params7] at hsz1 hval hA
  clear hA0 hval0 hsz hc hL hV
  obtain ⟨v1, vs1, d1, ds1, p1, q1, e1, rfl, rfl, h1, hA⟩ := trodAll_cons hA
  obtain ⟨v2, vs2, d2, ds2, p2, q2, rfl, rfl, rfl, h2, hA⟩ := trodAll_cons hA
  obtain ⟨v3, vs3, d3, ds3, p3, q3, rfl, rfl, rfl, h3, hA⟩ := trodAll_cons hA
  obtain ⟨v4, vs4, d4, ds4, p4, q4, rfl, rfl, rfl, h4, hA⟩ := trodAll_cons hA
  obtain ⟨v5, vs5, d5, ds5, p5, q5, rfl, rfl, rfl, h5, hA⟩ := trodAll_cons hA
  obtain ⟨v6, vs6, d6, ds6, p6, q6, rfl, rfl, rfl, h6, hA⟩ := trodAll_cons hA
  obtain ⟨v7, vs7, d7, ds7, p7, q7, rfl, rfl, rfl, h7, hA⟩ := trodAll_cons hA
  obtain ⟨rfl, rfl, rfl⟩ := trodAll_nil hA
  obtain rfl : args = #[v1, v2, v3, v4, v5, v6, v7] := by rw [← Array.toArray_toList (xs := args), e1]
  clear hA e1
  obtain ⟨D1, rfl, b1⟩ := v_u8 (hval 0 _ _ rfl rfl) h1
  obtain ⟨a2, n2, c2, D2, rfl, l2, s2, b2⟩ := v_u16s (hval 1 _ _ rfl rfl) h2 (light_arg hsz1 (j := 1) rfl rfl)
  obtain ⟨a3, n3, c3, D3, rfl, l3, s3, b3⟩ := v_arrs (hval 2 _ _ rfl rfl) h3 (light_arg hsz1 (j := 2) rfl rfl)
  obtain ⟨a4, n4, c4, D4, rfl, l4, s4, b4⟩ := v_arrs3 (hval 3 _ _ rfl rfl) h4 (light_arg hsz1 (j := 3) rfl rfl)
  obtain ⟨a5, n5, c5, D5, rfl, l5, s5, b5⟩ := v_arrs3 (hval 4 _ _ rfl rfl) h5 (light_arg hsz1 (j := 4) rfl rfl)
  obtain ⟨D6, rfl, b6⟩ := v_u8 (hval 5 _ _ rfl rfl) h6
  obtain ⟨D7, rfl, b7⟩ := v_rat (hval 6 _ _ rfl rfl) h7 (light_arg hsz1 (j := 6) rfl rfl)
  exact law_post rfl rfl rfl (by kernel_rfl) hW' (law_forced D1 a2 n2 c2 a3 n3 c3 a4 n4 c4 a5 n5 c5 D6 D7 D2 D3 D4 D5 W s2 s3 s4 s5 b1 b2 b3 b4 b5 b6 b7 l2 l3 l4 l5)

theorem forced_holds : Rows.LiquidationForcedSaid :=
  OpenClaim.holds_of_wide 7 Tryz.f7 rfl rfl rfl rfl rfl rfl rfl ⟨rfl, rfl, rfl, rfl, rfl⟩ rfl rfl rfl rfl rfl (by kernel_rfl) Tryz.func7 (by kernel_rfl)
    (of_decide_eq_true (by kernel_rfl)) (by unfold Func.isWrapper; first | (rw [if_pos (by decide +kernel)]; kernel_rfl) | (rw [if_neg (by decide +kernel)]; exact ⟨rfl, rfl⟩))
    (fun os started H enc _ => forced_lifted os started H enc)
end Go.Proofs.Ins
namespace Go.Proofs.YtobbllakdjampaaGreatDoor
open Go Go.Proofs.Ins
theorem forced_card : Rows.LiquidationForcedCardSaid :=
  Claim7.holds_tied_plain_at .later [] [.data, .pinned] true (true, "282358144a85be71355ec4042cce875e25f6984de2200131c13afdb76eac9842") false
    forced_holds (fun _ h => by cases h) (by kernel_rfl) (fun _ h => by cases h) liquidationForced_row_tie rfl ⟨rfl, rfl⟩ (by kernel_rfl) rfl
    (fun f fn hf hfn => by
      obtain rfl : f = 7 := Option.some.inj ((show Tryz.prog.funcNamed "insolvency/insolvencylaw31.LiquidationForced" = some 7 by kernel_rfl).symm.trans hf) |>.symm
      obtain rfl : fn = Tryz.f7 := (Option.some.inj (Tryz.func7.symm.trans hfn)).symm
      exact ⟨by kernel_rfl, fun j t ht => by
        rw [Tryz.params7] at ht
        have hm : t ∈ [5, 23, 22, 55, 55, 5, 30] := by simpa using Array.mem_of_getElem? ht
        have hall : ([5, 23, 22, 55, 55, 5, 30].all fun u => !Tryz.prog.wantsStandIn u) = true := by kernel_rfl
        exact (show Tryz.prog.wantsStandIn t = false by simpa using List.all_eq_true.1 hall t hm)⟩)
    (by kernel_rfl)
#print axioms forced_card
end Go.Proofs.YtobbllakdjampaaGreatDoor
