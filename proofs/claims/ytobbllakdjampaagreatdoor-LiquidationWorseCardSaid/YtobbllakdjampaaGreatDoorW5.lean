/- The walk of natural.Multiply. -/
import Derived.Test.YtobbllakdjampaaGreatDoorW4
set_option linter.unusedSimpArgs false
set_option linter.unusedVariables false
namespace Go.Proofs.Ins
open Go.RowKit

theorem mul_conv (u v o c : Nat) (hu : u < LB) (hv : v < LB) (ho : o < LB) (hc : c < LB) :
    (0 : Int) ≤ (u : Int) * v ∧ (u : Int) * v ≤ 18446744065119617025 ∧ (u : Int) * v + o + c ≤ 18446744073709551615 ∧ ((((u : Int) * v + o + c) % 4294967296) = (((u * v + o + c) % LB : Nat) : Int)) ∧ ((((u : Int) * v + o + c) / 4294967296) = (((u * v + o + c) / LB : Nat) : Int)) := by
  have h1 : u * v ≤ 4294967295 * 4294967295 := Nat.mul_le_mul (by unfold LB at hu; omega) (by unfold LB at hv; omega)
  have h2 : ((u : Int) * v) = ((u * v : Nat) : Int) := by push_cast; rfl
  rw [h2]
  generalize u * v = p at *
  unfold LB at *
  omega

set_option maxRecDepth 100000 in
set_option maxHeartbeats 3200000 in
theorem multiply_any (a b : ByteArray) (w : World) (ha : a.size ≤ 1073741824) (hb : b.size ≤ 1073741824) :
    Calls Tryz.prog 84 #[.string a, .string b] w fun e w' => e = .returned (.string (bn (nv a * nv b))) ∧ Below w.heap.size w w' := by
  go_enter Tryz.func84, Tryz.ntmps84
  go_wp2_with fail
  refine (parse_any a _ ha).mono ?_; rintro e w1 ⟨ax, lx, cx, rfl, lcx, ccx, hX1, hb1⟩
  go_wp2_with fail
  refine (parse_any b _ hb).mono ?_; rintro e w2 ⟨ay, ly, cy, rfl, lcy, ccy, hY, hb2⟩
  have hX := hX1.below hb2 (Nat.le_refl _)
  have hll := hX.len_str
  have hlm := hY.len_str
  obtain ⟨fx, hX⟩ := hX
  obtain ⟨fy, hY⟩ := hY
  have HX : Hid (LimbsF w2 ax lx (nv a) fx) := hX
  have HY : Hid (LimbsF w2 ay ly (nv b) fy) := hY
  clear hX hY hX1
  have hb12 : Below w.heap.size w w2 := hb1.trans (hb2.mono hb1.size)
  clear hb1 hb2
  obtain ⟨N, hN1, hN2⟩ : ∃ N, N ≤ lx + ly ∧ lx + ly ≤ N := ⟨_, Nat.le_refl _, Nat.le_refl _⟩
  go_wp2_with (refine wpList_makeT _ _ 148 142 .u32 4 N _ rfl rfl Tryz.underlying148 u32info rfl rfl (by omega) (by omega) (by omega) ?_; intro w3 hr3 hb3 hz3)
  go_loopw [26] (fun i wr => ∃ k : Nat, i = .int .i64 k ∧ k ≤ lx ∧ (∃ O, Row wr w2.heap.size 142 .u32 N O ∧ lv O N = lv fx k * lv fy ly ∧ (∀ j, j < N → O j < LB) ∧ (∀ j, k + ly ≤ j → O j = 0)) ∧ Below w2.heap.size w2 wr) (fun i _ => lx - (intOf i).toNat)
  case atStart => exact ⟨0, rfl, by omega, ⟨_, hr3, by rw [lv_zeros (fun _ _ => rfl), lv_zero, Nat.zero_mul], fun _ _ => LB_pos, fun _ _ => rfl⟩, hb3⟩
  case round =>
    obtain ⟨k, rfl, hk, ⟨O, hrow, hO1, hO2, hO3⟩, hbel⟩ := hrel
    clear hr3 hb3 hz3
    by_cases hlt : k < lx
    · rcases HX.out.2.2 with h0 | ⟨b1, o1, rfl, r1⟩
      · omega
      have hcx := (r1.below hbel (r1.lt (by omega))) k hlt
      have fk' := HX.out.2.1.1 k hlt
      have FK := Lib.hid fk'
      have HROW := Lib.hid hrow
      have HO1 := Lib.hid hO1
      have HO2 := Lib.hid hO2
      have HO3 := Lib.hid hO3
      clear fk' hrow hO1 hO2 hO3 r1
      obtain ⟨wo, hwo⟩ : ∃ wo, wo = wr := ⟨_, rfl⟩
      generalize hU : fx k = U at *
      have HU := Lib.hid hU
      clear hU
      have U0 : (0 : Int) ≤ (U : Int) := by omega
      have U1 : (U : Int) ≤ 4294967295 := by have := FK.out; unfold LB at this; omega
      subst hwo
      go_wp2
      go_loopw [10, 33] (fun c i wi => ∃ m : Nat, i = .int .i64 m ∧ m ≤ ly ∧ (∃ C O', c = .int .u64 (C : Nat) ∧ MulRow O O' N k m C U fy ∧ Row wi w2.heap.size 142 .u32 N O') ∧ Below w2.heap.size w2 wi) (fun _ i _ => ly - (intOf i).toNat)
      case atStart => exact ⟨0, rfl, by omega, ⟨0, O, rfl, mul_start HO2.out, HROW.out⟩, hbel⟩
      case round =>
        obtain ⟨m, rfl, hm, ⟨C, O', rfl, hmul, hrow⟩, hbel2⟩ := hrel
        have hC := hmul.2.2.2
        have C0 : (0 : Int) ≤ (C : Int) := by omega
        have C1 : (C : Int) ≤ 4294967295 := by unfold LB at hC; omega
        by_cases hlt2 : m < ly
        · rcases HY.out.2.2 with h0 | ⟨b2, o2, rfl, r2⟩
          · omega
          have hcy := (r2.below hbel2 (r2.lt (by omega))) m hlt2
          have hold := hrow.cell (j := k + m) (by omega)
          have hfr := hrow.frozen (k + m)
          have gk := HY.out.2.1.1 m hlt2
          have ok := hmul.2.1 (k + m) (by omega)
          have hst := mul_step hmul FK.out gk (by omega)
          have hcv := mul_conv U (fy m) (O' (k + m)) C FK.out gk ok hC
          have HST := Lib.hid hst
          have HROW2 := Lib.hid hrow
          obtain ⟨cv1, cv2, cv3, cv4, cv5⟩ := hcv
          have V0 : (0 : Int) ≤ (fy m : Int) := by omega
          have V1 : (fy m : Int) ≤ 4294967295 := by unfold LB at gk; omega
          have W0 : (0 : Int) ≤ (O' (k + m) : Int) := by omega
          have W1 : (O' (k + m) : Int) ≤ 4294967295 := by unfold LB at ok; omega
          have CV4 := Lib.hid cv4
          have CV5 := Lib.hid cv5
          clear hst hrow hmul r2 cv4 cv5 hC gk ok
          go_wp2
          go_roundw
          case rel =>
            refine ⟨m + 1, by go_num, by omega, ⟨_, _, by rw [CV5.out], HST.out, ?_⟩, hbel2.setCell (Nat.le_refl _) _⟩
            rw [CV4.out]
            exact HROW2.out.set _ _
          case measure => simp [intOf]; omega
        · obtain rfl : m = ly := by omega
          have hold := hrow.cell (j := k + m) (by omega)
          have hfr := hrow.frozen (k + m)
          have hen := mul_end hmul (by omega) HO3.out HO1.out
          have HEN := Lib.hid hen
          have HROW2 := Lib.hid hrow
          clear hmul hen hrow hC
          go_wp2
          go_roundw
          case rel =>
            refine ⟨k + 1, by go_num, by omega, ⟨_, HROW2.out.set (k + m) C, ?_, HEN.out.2.1, fun j hj => HEN.out.2.2 j (by omega)⟩, hbel2.setCell (Nat.le_refl _) _⟩
            rw [HEN.out.1, lv_succ, HU.out]
          case measure => simp [intOf]; omega
    · obtain rfl : k = lx := by omega
      obtain rfl : N = k + ly := by omega
      rw [HX.out.1, HY.out.1] at hO1
      have HROW := Lib.hid hrow
      have HO1 := Lib.hid hO1
      have HO2 := Lib.hid hO2
      clear hrow hO1 hO2 hO3
      by_cases hN0 : k + ly = 0
      · obtain rfl : k = 0 := by omega
        obtain rfl : ly = 0 := by omega
        go_wp2_with fail
        refine (text_zero _ _ _).mono ?_
        rintro e w' ⟨rfl, hbt⟩
        have e0 : nv a * nv b = 0 := by rw [← HO1.out]; rfl
        have E0 := Lib.hid e0
        clear e0
        go_wp2
        go_ret
        exact ⟨ret_str (by rw [E0.out]), hb12.trans ((hbel.mono hb12.size).trans (hbt.mono (Nat.le_trans hb12.size hbel.size)))⟩
      · go_wp2_with fail
        refine (text_walk w2.heap.size 0 (k + ly) (k + ly) O _ (by omega) (by omega) HROW.out.reads HO2.out).mono ?_
        rintro e w' ⟨rfl, hbt⟩
        rw [HO1.out]
        go_wp2
        go_ret
        exact ⟨rfl, hb12.trans ((hbel.mono hb12.size).trans (hbt.mono (Nat.le_trans hb12.size hbel.size)))⟩
end Go.Proofs.Ins
