/- The walk of insolvencylaw31.awake. -/
import Derived.Test.YtobbllakdjampaaGreatDoorL5
set_option linter.unusedSimpArgs false
set_option linter.unusedVariables false
namespace Go.Proofs.Ins
open Go.RowKit

def awV : V8 := ⟨0, ofQ 100, ofQ ((1 : Int) / (2 : Int)), false⟩
def awA : R3 := ofQ 30
theorem sg_ge {q : Rat} (h : ¬ q < 0) : decide (sg q < 0) = false := by
  unfold sg
  by_cases h0 : q = 0
  · rw [if_pos h0]; rfl
  · rw [if_neg h0, if_neg h]; rfl
theorem aw_chk : chk 1 1 (fun _ => awV) (fun _ => awA) = 0 := by
  have h1 : negV awV = false := by
    unfold negV awV
    simp only [ofQ_q]
    rw [sg_ge (of_decide_eq_true (by kernel_rfl)), sg_ge (of_decide_eq_true (by kernel_rfl))]; rfl
  have h2 : negR awA = false := by
    unfold negR awA
    rw [ofQ_q, sg_ge (of_decide_eq_true (by kernel_rfl))]
  unfold chk
  rw [if_neg (by omega), if_neg (by omega), anyB_false (fun i _ => h1), anyB_false (fun i _ => h2)]; rfl
theorem aw_fl : flQ 1 1 (fun _ => awV) (fun _ => awA) = ((3 : Int) : Rat) / ((10 : Int) : Rat) := by
  unfold flQ
  rw [if_pos aw_chk]
  show minR (maxR 0 (leastQ awV awA)) 1 = _
  rw [leastQ_eq]
  unfold awV awA
  simp only [ofQ_q]
  exact of_decide_eq_true (by kernel_rfl)
theorem Blk.sarg {w : World} {b : Nat} {cs : List Value} {sz : Nat} (h : Blk w b cs.toArray) : SArg w (some ⟨b, 0, none⟩) 1 sz (fun _ => cs) :=
  .inr ⟨b, 0, rfl, h.lt, fun i j hi hj => by
    obtain rfl : i = 0 := by omega
    have e : 0 + 0 * sz + j = j := by omega
    rw [e, h.cell]; simp⟩
theorem aw_fits : awV.fits 1000 := ⟨ofQ_fits (k := 1000) ((show Sm 1 100 from ⟨of_decide_eq_true (by kernel_rfl), of_decide_eq_true (by kernel_rfl)⟩).mono (by omega)), ofQ_fits (k := 1000) ((show Sm 1 (((1 : Int) : Rat) / ((2 : Int) : Rat)) from ⟨of_decide_eq_true (by kernel_rfl), of_decide_eq_true (by kernel_rfl)⟩).mono (by omega))⟩
theorem awA_fits : awA.fits 1000 := ofQ_fits (k := 1000) ((show Sm 1 30 from ⟨of_decide_eq_true (by kernel_rfl), of_decide_eq_true (by kernel_rfl)⟩).mono (by omega))

set_option maxRecDepth 100000 in
set_option maxHeartbeats 1600000 in
theorem awake_any (w : World) : Calls Tryz.prog 9 #[] w fun e w' => e = .returned (.bool true) ∧ Below w.heap.size w w' := by
  have hW1 := fun w => whole_any 100 w (by omega) (by omega)
  have hR1 := fun w => ratio_any 1 2 w (by omega) (by omega) (by omega) (by omega)
  have hW2 := fun w => whole_any 30 w (by omega) (by omega)
  have hR2 := fun w => ratio_any 3 10 w (by omega) (by omega) (by omega) (by omega)
  have hF := fun b1 b2 w (h1 : Blk w b1 awV.c.toArray) (h2 : Blk w b2 awA.c.toArray) => floor_any (some ⟨b1, 0, none⟩) 1 1 (some ⟨b2, 0, none⟩) 1 1 (fun _ => awV) (fun _ => awA) w h1.sarg h2.sarg (fun _ _ => aw_fits) (fun _ _ => awA_fits) (by omega) (by omega)
  rw [aw_chk, aw_fl] at hF
  unfold rv awV awA ofQ V8.c R3.c at hF
  rw [show (((100 : Int) : Rat)) = 100 from rfl] at hW1
  rw [show (((30 : Int) : Rat)) = 30 from rfl] at hW2
  have HW1 := Lib.hid hW1
  have HR1 := Lib.hid hR1
  have HW2 := Lib.hid hW2
  have HR2 := Lib.hid hR2
  have HF := Lib.hid hF
  clear hW1 hR1 hW2 hR2 hF
  generalize ((3 : Int) : Rat) / ((10 : Int) : Rat) = T at *
  generalize ((1 : Int) : Rat) / ((2 : Int) : Rat) = U at *
  generalize (100 : Rat) = X at *
  generalize (30 : Rat) = Y at *
  generalize rn T = t1 at *
  generalize rs T = t2 at *
  generalize rd T = t3 at *
  generalize rn U = u1 at *
  generalize rs U = u2 at *
  generalize rd U = u3 at *
  generalize rn X = x1 at *
  generalize rs X = x2 at *
  generalize rd X = x3 at *
  generalize rn Y = y1 at *
  generalize rs Y = y2 at *
  generalize rd Y = y3 at *
  go_enter Tryz.func9, Tryz.ntmps9
  go_wp2_with fail
  refine (HW1.out _).mono ?_; rintro e w1 ⟨rfl, hb1⟩
  have HB1 := Lib.hid hb1
  clear hb1
  go_wp2_with fail
  refine (HR1.out _).mono ?_; rintro e w2 ⟨rfl, hb2⟩
  have HB2 := Lib.hid (chain HB1.out hb2 (Nat.le_refl _))
  have hz2 := HB2.out.size
  clear hb2
  go_wp2_with fail
  refine (HW2.out _).mono ?_; rintro e w3 ⟨rfl, hb3⟩
  obtain ⟨H1, HB⟩ := boxes1 hb3
  have hz3 := HB.size
  have hz4 := H1.lt
  have H1 := Lib.hid (H1.alloc (.cells #[.bool y1, .string y2, .string y3] 30))
  have H2 := Lib.hid (Blk.new w3 #[.bool y1, .string y2, .string y3] 30)
  have HB3 := Lib.hid ((chain HB2.out HB (Nat.le_refl _)).alloc (by omega) (.cells #[.bool y1, .string y2, .string y3] 30))
  clear hb3 HB
  go_wp2_with fail
  refine (HF.out _ _ _ H1.out H2.out).mono ?_; rintro e w5 ⟨rfl, hb5⟩
  have HB5 := Lib.hid (chain HB3.out hb5 (Nat.le_refl _))
  have hz5 := HB5.out.size
  clear hb5 H1 H2
  go_wp2
  refine wp_forget (fun W => Blk W w5.heap.size #[.bool t1, .string t2, .string t3] ∧ Below w.heap.size w W) ⟨Blk.new w5 _ _, HB5.out.alloc (by omega) _⟩ ?_
  rintro W ⟨H1, HBW⟩
  obtain ⟨k0, k1, k2⟩ := H1.later3
  refine wp_region_qb (by kernel_rfl) (by kernel_rfl) ?_
  repeat (first | go_big_quiet_skip | (refine wpQuiet_step (fun K hK => ?_); go_simp; (try simp (disch := omega) only [IntWalk.i64_in, IntWalk.u64_in, IntWalk.u32_in, IntWalk.u16_in, IntWalk.u8_in, Int.tmod_eq_emod_of_nonneg, Int.tdiv_eq_ediv_of_nonneg]); (first | (refine hK _ ?_; clear hK K) | (apply Exists.intro; refine ⟨fun _ => ?_, hK _ ?_⟩; (first | with_reducible exact Calls.later (HR2.out _)); clear hK K))))
  refine wpQuiet_nil ?_
  intro W1 hb1
  have HB := Lib.hid (chain HBW hb1 (Nat.le_refl _))
  clear k0 k1 k2 H1 HBW hb1
  go_wp2
  go_ret
  exact ⟨rfl, HB.out⟩
end Go.Proofs.Ins
