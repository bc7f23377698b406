/- The walks of insolvencyref1: times, short, shifted. -/
import Derived.Test.YtobbllakdjampaaGreatDoorR2
set_option linter.unusedSimpArgs false
set_option linter.unusedVariables false
namespace Go.Proofs.Ins
open Go.RowKit

set_option maxRecDepth 100000 in
set_option maxHeartbeats 3200000 in
theorem times_any (ax ay : Option Addr) (lx ly cx cy x y : Nat) (w : World) (hX : Limbs w ax lx x) (hY : Limbs w ay ly y) (hll : lx ≤ 1073741824) (hlm : ly ≤ 1073741824) :
    Calls Tryz.prog 104 #[.slice ax lx cx, .slice ay ly cy] w (RetLimbs w (x * y)) := by
  obtain ⟨fx, hX⟩ := hX
  obtain ⟨fy, hY⟩ := hY
  have HX : Hid (LimbsF w ax lx x fx) := hX
  have HY : Hid (LimbsF w ay ly y fy) := hY
  clear hX hY
  obtain ⟨N, hN1, hN2⟩ : ∃ N, N ≤ lx + ly ∧ lx + ly ≤ N := ⟨_, Nat.le_refl _, Nat.le_refl _⟩
  go_enter Tryz.func104, Tryz.ntmps104
  go_wp2_with (refine wpList_makeT _ _ 137 142 .u32 4 N _ rfl rfl Tryz.underlying137 u32info rfl rfl (by omega) (by omega) (by omega) ?_; intro w3 hr3 hb3 hz3)
  go_loopw [6] (fun i wr => ∃ k : Nat, i = .int .i64 k ∧ k ≤ lx ∧ (∃ O, Row wr w.heap.size 142 .u32 N O ∧ lv O N = lv fx k * lv fy ly ∧ (∀ j, j < N → O j < LB) ∧ (∀ j, k + ly ≤ j → O j = 0)) ∧ Below w.heap.size w wr) (fun i _ => lx - (intOf i).toNat)
  case atStart => exact ⟨0, rfl, by omega, ⟨_, hr3, by rw [lv_zeros (fun _ _ => rfl), lv_zero, Nat.zero_mul], fun _ _ => LB_pos, fun _ _ => rfl⟩, hb3⟩
  case round =>
    obtain ⟨k, rfl, hk, ⟨O, hrow, hO1, hO2, hO3⟩, hbel⟩ := hrel
    clear hr3 hb3 hz3
    by_cases hlt : k < lx
    · rcases HX.out.2.2 with h0 | ⟨b1, o1, rfl, r1⟩
      · omega
      have RX := Lib.hid (r1 k hlt)
      have hb1 := r1.lt (by omega)
      have fk' := HX.out.2.1.1 k hlt
      have FK := Lib.hid fk'
      have HROW := Lib.hid hrow
      have HO1 := Lib.hid hO1
      have HO2 := Lib.hid hO2
      have HO3 := Lib.hid hO3
      clear fk' hrow hO1 hO2 hO3 r1
      obtain ⟨wo, hwo⟩ : ∃ wo, wo = wr := ⟨_, rfl⟩
      generalize hU : fx k = U at *
      have HU := Lib.hid hU
      clear hU
      have U1 : (U : Int) ≤ 4294967295 := by have := FK.out; unfold LB at this; omega
      subst hwo
      go_wp2
      go_loopw [7, 8] (fun c i wi => ∃ m : Nat, i = .int .i64 m ∧ m ≤ ly ∧ (∃ C O', c = .int .u64 (C : Nat) ∧ MulRow O O' N k m C U fy ∧ Row wi w.heap.size 142 .u32 N O') ∧ Below w.heap.size w wi) (fun _ i _ => ly - (intOf i).toNat)
      case atStart => exact ⟨0, rfl, by omega, ⟨0, O, rfl, mul_start HO2.out, HROW.out⟩, hbel⟩
      case round =>
        obtain ⟨m, rfl, hm, ⟨C, O', rfl, hmul, hrow⟩, hbel2⟩ := hrel
        have hC := hmul.2.2.2
        have C1 : (C : Int) ≤ 4294967295 := by unfold LB at hC; omega
        by_cases hlt2 : m < ly
        · as_aux_lemma =>
          rcases HY.out.2.2 with h0 | ⟨b2, o2, rfl, r2⟩
          · omega
          have hcy := (r2.below hbel2 (r2.lt (by omega))) m hlt2
          have hcx : wr.cell? ⟨b1, o1 + k, none⟩ = some (.int .u32 (U : Int)) := by
            rw [hbel2.cell (p := ⟨b1, o1 + k, none⟩) hb1]; exact RX.out
          have hold := hrow.cell (j := k + m) (by omega)
          have hfr := hrow.frozen (k + m)
          have gk := HY.out.2.1.1 m hlt2
          have ok := hmul.2.1 (k + m) (by omega)
          have hst := mul_step hmul FK.out gk (by omega)
          have hcv := mul_conv U (fy m) (O' (k + m)) C FK.out gk ok hC
          have HST := Lib.hid hst
          have HROW2 := Lib.hid hrow
          obtain ⟨cv1, cv2, cv3, cv4, cv5⟩ := hcv
          have V1 : (fy m : Int) ≤ 4294967295 := by unfold LB at gk; omega
          have W1 : (O' (k + m) : Int) ≤ 4294967295 := by unfold LB at ok; omega
          have CV4 := Lib.hid cv4
          have CV5 := Lib.hid cv5
          obtain ⟨P, hP⟩ : ∃ P : Nat, P = U * fy m := ⟨_, rfl⟩
          have p0 : (U : Int) * (fy m : Int) = (P : Int) := by rw [hP, Int.natCast_mul]
          rw [p0] at cv1 cv2 cv3
          have p1 : IntKind.u64.wrap ((U : Int) * (fy m : Int)) = (P : Int) := by rw [p0]; exact IntWalk.u64_in _ (by omega)
          have P0 := Lib.hid p0
          have p2 : IntKind.i64.wrap ((k : Int) + m) = (k : Int) + m := IntWalk.i64_in _ (by omega)
          have p3 : ((k : Int) + m).toNat = k + m := by omega
          have p4 : (k : Int) + m < N := by omega
          have p5 : IntKind.u64.wrap ((C : Int) + P) = (C : Int) + P := IntWalk.u64_in _ (by omega)
          have p6 : IntKind.u64.wrap ((C : Int) + P + (O' (k + m) : Int)) = (C : Int) + P + (O' (k + m) : Int) := IntWalk.u64_in _ (by omega)
          clear hst hrow hmul r2 cv4 cv5 hC gk ok p0 hP
          go_wp2_with fail
          refine wp_region_quiet_lit (by kernel_rfl) (by kernel_rfl) ?_
          repeat (first | go_big_quiet_skip | (refine wpQuiet_step (fun K hK => ?_); go_simp; (try simp (disch := omega) only [IntWalk.i64_in, IntWalk.u64_in, IntWalk.u32_in, IntWalk.u16_in, IntWalk.u8_in, Int.tmod_eq_emod_of_nonneg, Int.tdiv_eq_ediv_of_nonneg]); (first | (refine hK _ ?_; clear hK K) | (simp (disch := omega) only [if_pos, dif_pos, if_neg, dif_neg, IntWalk.i64_in, IntWalk.u64_in, IntWalk.u32_in, IntWalk.u16_in, IntWalk.u8_in, Int.tmod_eq_emod_of_nonneg, Int.tdiv_eq_ediv_of_nonneg]; go_simp; refine hK _ ?_; clear hK K))))
          refine wpQuiet_nil ?_
          intro _ hw9
          obtain ⟨nq, hw9⟩ := hw9
          subst hw9
          clear p1 p2 p3 p4 p5 p6
          go_wp2
          go_ways
          go_roundw
          case rel =>
            have e4 : ((C : Int) + P + (O' (k + m) : Int)) % 4294967296 = (((U * fy m + O' (k + m) + C) % LB : Nat) : Int) := by
              rw [← CV4.out, P0.out]; congr 1; omega
            have e5 : ((C : Int) + P + (O' (k + m) : Int)) / 4294967296 = (((U * fy m + O' (k + m) + C) / LB : Nat) : Int) := by
              rw [← CV5.out, P0.out]; congr 1; omega
            rw [e4, e5]
            exact ⟨m + 1, by go_num, by omega, ⟨_, _, rfl, HST.out, (HROW2.out.drewN _).set _ _⟩, (Below.drewN hbel2 _).setCell (Nat.le_refl _) _⟩
          case measure => simp [intOf]; omega
        · as_aux_lemma =>
          obtain rfl : m = ly := by omega
          have hold := hrow.cell (j := k + m) (by omega)
          have hfr := hrow.frozen (k + m)
          have hen := mul_end hmul (by omega) HO3.out HO1.out
          have HEN := Lib.hid hen
          have HROW2 := Lib.hid hrow
          clear hmul hen hrow hC
          go_wp2
          go_roundw
          case rel =>
            refine ⟨k + 1, by go_num, by omega, ⟨_, HROW2.out.set (k + m) C, ?_, HEN.out.2.1, fun j hj => HEN.out.2.2 j (by omega)⟩, hbel2.setCell (Nat.le_refl _) _⟩
            rw [HEN.out.1, lv_succ, HU.out]
          case measure => simp [intOf]; omega
    · as_aux_lemma =>
      obtain rfl : k = lx := by omega
      obtain rfl : N = k + ly := by omega
      rw [HX.out.1, HY.out.1] at hO1
      have HROW := Lib.hid hrow
      have HO1 := Lib.hid hO1
      have HO2 := Lib.hid hO2
      clear hrow hO1 hO2 hO3
      go_wp2_with fail
      refine (strip_row w w.heap.size (k + ly) 142 O _ (by omega) HROW.out HO2.out hbel).mono ?_
      rintro e w' ⟨a, len, cap, rfl, h1, h2, h3, h4⟩
      rw [HO1.out] at h3
      go_wp2
      go_ret
      exact ⟨a, len, cap, rfl, h1, h2, h3, h4⟩

set_option maxRecDepth 100000 in
set_option maxHeartbeats 1600000 in
theorem short_walk (b1 o1 n c1 d : Nat) (f : Nat → Nat) (w : World) (hn : n ≤ 1073741824) (hf : Reads w b1 o1 .u32 n f) (lf : ∀ j, j < n → f j < LB) (hd0 : 0 < d) (hd : d < LB) (hn0 : 0 < n) :
    Calls Tryz.prog 147 #[.slice (some ⟨b1, o1, none⟩) n c1, .int .u32 d] w (RetDiv1 w (lv f n) d) := by
  have D0 : (0 : Int) < (d : Int) := by omega
  have D1 : (d : Int) ≤ 4294967295 := by unfold LB at hd; omega
  go_enter Tryz.func147, Tryz.ntmps147
  go_wp2_with (refine wpList_makeT _ _ 137 142 .u32 4 n _ rfl rfl Tryz.underlying137 u32info rfl rfl (by omega) (by omega) (by omega) ?_; intro w3 hr3 hb3 hz3)
  go_loopw [7, 8] (fun r i wr => ∃ (I : Int) (R : Nat), i = .int .i64 I ∧ -1 ≤ I ∧ I < n ∧ r = .int .u64 (R : Int) ∧ (∃ O, Row wr w.heap.size 142 .u32 n O ∧ DivRow f O n (I + 1).toNat d R) ∧ Below w.heap.size w wr) (fun _ i _ => (intOf i + 1).toNat)
  case atStart => exact ⟨_, 0, rfl, by omega, by omega, rfl, ⟨_, hr3, by rw [show ((n : Int) - 1 + 1).toNat = n by omega]; exact div_start _ _ _ _ hd0⟩, hb3⟩
  case round =>
    obtain ⟨I, R, rfl, hI1, hI2, rfl, ⟨O, hrow, hdiv⟩, hbel⟩ := hrel
    clear hr3 hb3 hz3
    have hR := hdiv.2.1
    by_cases h0 : I = -1
    · subst h0
      obtain ⟨e1, e2, e3⟩ := div_end hdiv
      have E1 := Lib.hid e1
      have E2 := Lib.hid e2
      have E3 := Lib.hid e3
      have HROW := Lib.hid hrow
      clear e1 e2 e3 hrow hdiv
      go_wp2_with fail
      refine (strip_row w w.heap.size n 142 _ _ (by omega) HROW.out E3.out hbel).mono ?_
      rintro e w' ⟨a, len, cap, rfl, h1, h2, h3, h4⟩
      rw [E1.out] at h3
      go_wp2
      go_ret2
      exact ⟨a, len, cap, by rw [← E2.out]; rfl, h1, h2, h3, h4⟩
    · obtain ⟨m, rfl⟩ := Int.eq_ofNat_of_zero_le (show 0 ≤ I by omega)
      rw [show ((m : Int) + 1).toNat = m + 1 by omega] at hdiv
      have hm : m < n := by omega
      have hcell := (hf.below hbel (hf.lt hn0)) m hm
      have hold := hrow.cell (j := m) hm
      have hfr := hrow.frozen m
      have hor := or_u64 R (f m) (by omega) (lf m hm)
      have hst := div_step hdiv hm (lf m hm)
      have HST := Lib.hid hst
      have HROW := Lib.hid hrow
      clear hst hrow hdiv
      have R0 : (0 : Int) ≤ (R : Int) := by omega
      have R1 : (R : Int) ≤ 4294967294 := by omega
      have FM := lf m hm
      have F1 : (f m : Int) ≤ 4294967295 := by unfold LB at FM; omega
      go_wp2
      go_roundw
      case rel =>
        refine ⟨(m : Int) - 1, (R * LB + f m) % d, rfl, by omega, by omega, ?_, ⟨upd O m ((R * LB + f m) / d), ?_, ?_⟩, hbel.setCell (Nat.le_refl _) _⟩
        · simp only [Int.natCast_emod, Int.natCast_add, Int.natCast_mul]
        · rw [quo_conv R (f m) d hR FM]
          exact HROW.out.set m _
        · rw [show ((m : Int) - 1 + 1).toNat = m by omega]; exact HST.out
      case measure => simp [intOf]


end Go.Proofs.Ins
