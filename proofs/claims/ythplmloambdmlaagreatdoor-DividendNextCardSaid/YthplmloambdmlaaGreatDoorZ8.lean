/- The walk of insolvencyref1.shifted. -/
import Derived.Test.YthplmloambdmlaaGreatDoorZ3
import Derived.Test.YthplmloambdmlaaGreatDoorZ7
import Derived.Test.YthplmloambdmlaaGreatDoorZ2

set_option linter.unusedSimpArgs false
set_option linter.unusedVariables false
namespace Go.Proofs.Ins
open Go.RowKit

set_option maxRecDepth 100000 in
set_option maxHeartbeats 3200000 in
theorem times_any (ax ay : Option Addr) (lx ly cx cy x y : Nat) (w : World) (hX : Limbs w ax lx x) (hY : Limbs w ay ly y) (hll : lx ≤ 1073741824) (hlm : ly ≤ 1073741824) :
    Calls Tryz.prog 255 #[.slice ax lx cx, .slice ay ly cy] w (RetLimbs w (x * y)) := by
  obtain ⟨fx, hX⟩ := hX
  obtain ⟨fy, hY⟩ := hY
  have HX : Hid (LimbsF w ax lx x fx) := hX
  have HY : Hid (LimbsF w ay ly y fy) := hY
  clear hX hY
  obtain ⟨N, hN1, hN2⟩ : ∃ N, N ≤ lx + ly ∧ lx + ly ≤ N := ⟨_, Nat.le_refl _, Nat.le_refl _⟩
  go_enter Tryz.func255, Tryz.ntmps255
  go_wp2_with (refine wpList_makeT _ _ 212 215 .u32 4 N _ rfl rfl Tryz.underlying212 u32info rfl rfl (by omega) (by omega) (by omega) ?_; intro w3 hr3 hb3 hz3)
  go_loopw [6] (fun i wr => ∃ k : Nat, i = .int .i64 k ∧ k ≤ lx ∧ (∃ O, Row wr w.heap.size 215 .u32 N O ∧ lv O N = lv fx k * lv fy ly ∧ (∀ j, j < N → O j < LB) ∧ (∀ j, k + ly ≤ j → O j = 0)) ∧ Below w.heap.size w wr) (fun i _ => lx - (intOf i).toNat)
  case atStart => exact ⟨0, rfl, by omega, ⟨_, hr3, by rw [lv_zeros (fun _ _ => rfl), lv_zero, Nat.zero_mul], fun _ _ => LB_pos, fun _ _ => rfl⟩, hb3⟩
  case round =>
    obtain ⟨k, rfl, hk, ⟨O, hrow, hO1, hO2, hO3⟩, hbel⟩ := hrel
    clear hr3 hb3 hz3
    by_cases hlt : k < lx
    · rcases HX.out.2.2 with h0 | ⟨b1, o1, rfl, r1⟩
      · omega
      have RX := Lib.hid (r1 k hlt)
      have hb1 := r1.lt (by omega)
      have fk' := HX.out.2.1.1 k hlt
      have FK := Lib.hid fk'
      have HROW := Lib.hid hrow
      have HO1 := Lib.hid hO1
      have HO2 := Lib.hid hO2
      have HO3 := Lib.hid hO3
      clear fk' hrow hO1 hO2 hO3 r1
      obtain ⟨wo, hwo⟩ : ∃ wo, wo = wr := ⟨_, rfl⟩
      generalize hU : fx k = U at *
      have HU := Lib.hid hU
      clear hU
      have U1 : (U : Int) ≤ 4294967295 := by have := FK.out; unfold LB at this; omega
      subst hwo
      go_wp2
      go_loopw [7, 8] (fun c i wi => ∃ m : Nat, i = .int .i64 m ∧ m ≤ ly ∧ (∃ C O', c = .int .u64 (C : Nat) ∧ MulRow O O' N k m C U fy ∧ Row wi w.heap.size 215 .u32 N O') ∧ Below w.heap.size w wi) (fun _ i _ => ly - (intOf i).toNat)
      case atStart => exact ⟨0, rfl, by omega, ⟨0, O, rfl, mul_start HO2.out, HROW.out⟩, hbel⟩
      case round =>
        obtain ⟨m, rfl, hm, ⟨C, O', rfl, hmul, hrow⟩, hbel2⟩ := hrel
        have hC := hmul.2.2.2
        have C1 : (C : Int) ≤ 4294967295 := by unfold LB at hC; omega
        by_cases hlt2 : m < ly
        · as_aux_lemma =>
          rcases HY.out.2.2 with h0 | ⟨b2, o2, rfl, r2⟩
          · omega
          have hcy := (r2.below hbel2 (r2.lt (by omega))) m hlt2
          have hcx : wr.cell? ⟨b1, o1 + k, none⟩ = some (.int .u32 (U : Int)) := by
            rw [hbel2.cell (p := ⟨b1, o1 + k, none⟩) hb1]; exact RX.out
          have hold := hrow.cell (j := k + m) (by omega)
          have hfr := hrow.frozen (k + m)
          have gk := HY.out.2.1.1 m hlt2
          have ok := hmul.2.1 (k + m) (by omega)
          have hst := mul_step hmul FK.out gk (by omega)
          have hcv := mul_conv U (fy m) (O' (k + m)) C FK.out gk ok hC
          have HST := Lib.hid hst
          have HROW2 := Lib.hid hrow
          obtain ⟨cv1, cv2, cv3, cv4, cv5⟩ := hcv
          have V1 : (fy m : Int) ≤ 4294967295 := by unfold LB at gk; omega
          have W1 : (O' (k + m) : Int) ≤ 4294967295 := by unfold LB at ok; omega
          have CV4 := Lib.hid cv4
          have CV5 := Lib.hid cv5
          obtain ⟨P, hP⟩ : ∃ P : Nat, P = U * fy m := ⟨_, rfl⟩
          have p0 : (U : Int) * (fy m : Int) = (P : Int) := by rw [hP, Int.natCast_mul]
          rw [p0] at cv1 cv2 cv3
          have p1 : IntKind.u64.wrap ((U : Int) * (fy m : Int)) = (P : Int) := by rw [p0]; exact IntWalk.u64_in _ (by omega)
          have P0 := Lib.hid p0
          have p2 : IntKind.i64.wrap ((k : Int) + m) = (k : Int) + m := IntWalk.i64_in _ (by omega)
          have p3 : ((k : Int) + m).toNat = k + m := by omega
          have p4 : (k : Int) + m < N := by omega
          have p5 : IntKind.u64.wrap ((C : Int) + P) = (C : Int) + P := IntWalk.u64_in _ (by omega)
          have p6 : IntKind.u64.wrap ((C : Int) + P + (O' (k + m) : Int)) = (C : Int) + P + (O' (k + m) : Int) := IntWalk.u64_in _ (by omega)
          clear hst hrow hmul r2 cv4 cv5 hC gk ok p0 hP
          go_wp2_with fail
          refine wp_region_quiet_lit (by kernel_rfl) (by kernel_rfl) ?_
          repeat (first | go_big_quiet_skip | (refine wpQuiet_step (fun K hK => ?_); go_simp; (try simp (disch := omega) only [ar9]); (first | (refine hK _ ?_; clear hK K) | (simp (disch := omega) only [if_pos, dif_pos, if_neg, dif_neg, ar9]; go_simp; refine hK _ ?_; clear hK K))))
          refine wpQuiet_nil ?_
          intro _ hw9
          obtain ⟨nq, hw9⟩ := hw9
          subst hw9
          clear p1 p2 p3 p4 p5 p6
          go_wp2
          go_ways
          go_roundw
          case rel =>
            have e4 : ((C : Int) + P + (O' (k + m) : Int)) % 4294967296 = (((U * fy m + O' (k + m) + C) % LB : Nat) : Int) := by
              rw [← CV4.out, P0.out]; congr 1; omega
            have e5 : ((C : Int) + P + (O' (k + m) : Int)) / 4294967296 = (((U * fy m + O' (k + m) + C) / LB : Nat) : Int) := by
              rw [← CV5.out, P0.out]; congr 1; omega
            rw [e4, e5]
            exact ⟨m + 1, by go_num, by omega, ⟨_, _, rfl, HST.out, (HROW2.out.drewN _).set _ _⟩, (Below.drewN hbel2 _).setCell (Nat.le_refl _) _⟩
          case measure => simp [intOf]; omega
        · as_aux_lemma =>
          obtain rfl : m = ly := by omega
          have hold := hrow.cell (j := k + m) (by omega)
          have hfr := hrow.frozen (k + m)
          have hen := mul_end hmul (by omega) HO3.out HO1.out
          have HEN := Lib.hid hen
          have HROW2 := Lib.hid hrow
          clear hmul hen hrow hC
          go_wp2
          go_roundw
          case rel =>
            refine ⟨k + 1, by go_num, by omega, ⟨_, HROW2.out.set (k + m) C, ?_, HEN.out.2.1, fun j hj => HEN.out.2.2 j (by omega)⟩, hbel2.setCell (Nat.le_refl _) _⟩
            rw [HEN.out.1, lv_succ, HU.out]
          case measure => simp [intOf]; omega
    · as_aux_lemma =>
      obtain rfl : k = lx := by omega
      obtain rfl : N = k + ly := by omega
      rw [HX.out.1, HY.out.1] at hO1
      have HROW := Lib.hid hrow
      have HO1 := Lib.hid hO1
      have HO2 := Lib.hid hO2
      clear hrow hO1 hO2 hO3
      go_wp2_with fail
      refine (strip_row w w.heap.size (k + ly) 215 O _ (by omega) HROW.out HO2.out hbel).mono ?_
      rintro e w' ⟨a, len, cap, rfl, h1, h2, h3, h4⟩
      rw [HO1.out] at h3
      go_wp2
      go_ret
      exact ⟨a, len, cap, rfl, h1, h2, h3, h4⟩

set_option maxRecDepth 100000 in
set_option maxHeartbeats 1600000 in
theorem short_walk (b1 o1 n c1 d : Nat) (f : Nat → Nat) (w : World) (hn : n ≤ 1073741824) (hf : Reads w b1 o1 .u32 n f) (lf : ∀ j, j < n → f j < LB) (hd0 : 0 < d) (hd : d < LB) (hn0 : 0 < n) :
    Calls Tryz.prog 346 #[.slice (some ⟨b1, o1, none⟩) n c1, .int .u32 d] w (RetDiv1 w (lv f n) d) := by
  have D0 : (0 : Int) < (d : Int) := by omega
  have D1 : (d : Int) ≤ 4294967295 := by unfold LB at hd; omega
  go_enter Tryz.func346, Tryz.ntmps346
  go_wp2_with (refine wpList_makeT _ _ 212 215 .u32 4 n _ rfl rfl Tryz.underlying212 u32info rfl rfl (by omega) (by omega) (by omega) ?_; intro w3 hr3 hb3 hz3)
  go_loopw [7, 8] (fun r i wr => ∃ (I : Int) (R : Nat), i = .int .i64 I ∧ -1 ≤ I ∧ I < n ∧ r = .int .u64 (R : Int) ∧ (∃ O, Row wr w.heap.size 215 .u32 n O ∧ DivRow f O n (I + 1).toNat d R) ∧ Below w.heap.size w wr) (fun _ i _ => (intOf i + 1).toNat)
  case atStart => exact ⟨_, 0, rfl, by omega, by omega, rfl, ⟨_, hr3, by rw [show ((n : Int) - 1 + 1).toNat = n by omega]; exact div_start _ _ _ _ hd0⟩, hb3⟩
  case round =>
    obtain ⟨I, R, rfl, hI1, hI2, rfl, ⟨O, hrow, hdiv⟩, hbel⟩ := hrel
    clear hr3 hb3 hz3
    have hR := hdiv.2.1
    by_cases h0 : I = -1
    · subst h0
      obtain ⟨e1, e2, e3⟩ := div_end hdiv
      have E1 := Lib.hid e1
      have E2 := Lib.hid e2
      have E3 := Lib.hid e3
      have HROW := Lib.hid hrow
      clear e1 e2 e3 hrow hdiv
      go_wp2_with fail
      refine (strip_row w w.heap.size n 215 _ _ (by omega) HROW.out E3.out hbel).mono ?_
      rintro e w' ⟨a, len, cap, rfl, h1, h2, h3, h4⟩
      rw [E1.out] at h3
      go_wp2
      go_ret2
      exact ⟨a, len, cap, by rw [← E2.out]; rfl, h1, h2, h3, h4⟩
    · obtain ⟨m, rfl⟩ := Int.eq_ofNat_of_zero_le (show 0 ≤ I by omega)
      rw [show ((m : Int) + 1).toNat = m + 1 by omega] at hdiv
      have hm : m < n := by omega
      have hcell := (hf.below hbel (hf.lt hn0)) m hm
      have hold := hrow.cell (j := m) hm
      have hfr := hrow.frozen m
      have hor := or_u64 R (f m) (by omega) (lf m hm)
      have hst := div_step hdiv hm (lf m hm)
      have HST := Lib.hid hst
      have HROW := Lib.hid hrow
      clear hst hrow hdiv
      have R0 : (0 : Int) ≤ (R : Int) := by omega
      have R1 : (R : Int) ≤ 4294967294 := by omega
      have FM := lf m hm
      have F1 : (f m : Int) ≤ 4294967295 := by unfold LB at FM; omega
      go_wp2
      go_roundw
      case rel =>
        refine ⟨(m : Int) - 1, (R * LB + f m) % d, rfl, by omega, by omega, ?_, ⟨upd O m ((R * LB + f m) / d), ?_, ?_⟩, hbel.setCell (Nat.le_refl _) _⟩
        · simp only [Int.natCast_emod, Int.natCast_add, Int.natCast_mul]
        · rw [quo_conv R (f m) d hR FM]
          exact HROW.out.set m _
        · rw [show ((m : Int) - 1 + 1).toNat = m by omega]; exact HST.out
      case measure => simp [intOf]


end Go.Proofs.Ins

set_option linter.unusedSimpArgs false
set_option linter.unusedVariables false
namespace Go.Proofs.Ins
open Go.RowKit

theorem lby_four (f : Nat → Nat) (i t : Nat) (ht : t < 4) : lby f (4 * i + t) = f i / 2 ^ (8 * t) % 256 := by
  unfold lby
  rw [show (4 * i + t) / 4 = i by omega, show (4 * i + t) % 4 = t by omega]

set_option maxRecDepth 100000 in
set_option maxHeartbeats 1600000 in
theorem rtext_walk (b off len cap : Nat) (f : Nat → Nat) (w : World) (hl : len ≤ 268435456) (hcap : len ≤ cap) (hc : Reads w b off .u32 len f) (hf : ∀ j, j < len → f j < LB) (hb : 0 < len → b < w.heap.size) :
    Calls Tryz.prog 282 #[.slice (some ⟨b, off, none⟩) len cap] w fun e w' => e = .returned (.string (bn (lv f len))) ∧ Below w.heap.size w w' := by
  have hn := tlen_le f len
  have HV := Lib.hid (tlen_lv f len)
  have HS := Lib.hid (fun w' (h : w' = w) => strip_walk b off len cap f (tlen f len) w' (by omega) hcap (by rw [h]; exact hc) (tlen_le f len) (tlen_zero f len) (tlen_top f len))
  generalize tlen f len = n at *
  have HC := Lib.hid hc
  have HF := Lib.hid hf
  clear hc hf
  obtain ⟨i0, hi, hz0, hz1, hz2⟩ := info_parts u8info
  go_enter Tryz.func282, Tryz.ntmps282
  go_wp2_with fail
  refine (HS.out w rfl).mono ?_; rintro e w' ⟨rfl, rfl⟩
  go_wp2_with (refine wpList_make_own _ rfl _ _ 285 rfl w.heap.size 5 i0 (.int .u8 0) 1 Tryz.underlying285 hi hz0 hz1 .i64 .i64 _ (4 * n) rfl rfl (by omega) (by rw [hz2]; omega) (by unfold maxLen; omega) (Nat.le_refl _) ?_; intro w1 ho1 hg1)
  have hb1 : Below w.heap.size w w1 := (Below.refl _ _).grown hg1 (Nat.le_refl _) (fun k h => by cases h)
  have HO1 : Hid (ORow w1 w.heap.size 5 .u8 (.slice (some ⟨w.heap.size, 0, none⟩) 0 (4 * n)) 0 (fun j => lby f (4 * n - 1 - j))) := ho1
  clear ho1 hg1
  go_loopw [3, 4] (fun v i wr => ∃ I : Int, i = .int .i64 I ∧ -1 ≤ I ∧ I < n ∧ ORow wr w.heap.size 5 .u8 v (4 * (n - (I + 1).toNat)) (fun j => lby f (4 * n - 1 - j)) ∧ Below w.heap.size w wr) (fun _ i _ => (intOf i + 1).toNat)
  case atStart =>
    refine ⟨_, rfl, by omega, by omega, ?_, hb1⟩
    rw [show 4 * (n - ((n : Int) - 1 + 1).toNat) = 0 by omega]
    exact HO1.out
  case round =>
    obtain ⟨I, rfl, hI1, hI2, hown, hbel⟩ := hrel
    clear hb1 HO1
    have HO := Lib.hid hown
    clear hown
    by_cases h0 : I = -1
    · as_aux_lemma =>
      subst h0
      have hcv := fun wx (h : ORow wx w.heap.size 5 .u8 u3 (4 * (n - ((-1 : Int) + 1).toNat)) (fun j => lby f (4 * n - 1 - j))) => h.str (P := Tryz.prog) (src := 285) (dst := 9) Tryz.underlying285 Tryz.underlying5 Tryz.underlying9
      have hcv2 := hcv _ HO.out
      have hnv : nv (⟨((List.range (4 * (n - ((-1 : Int) + 1).toNat))).map fun j => UInt8.ofNat (lby f (4 * n - 1 - j))).toArray⟩ : ByteArray) = lv f len := by
        have h := strF_nv (fun j => lby f (4 * n - 1 - j)) (4 * n) (fun j _ => Nat.mod_lt _ (by omega))
        unfold strF at h
        rw [show 4 * (n - ((-1 : Int) + 1).toNat) = 4 * n by omega, h, ← HV.out, ← bl_lby (fun j hj => HF.out j (by omega))]
        apply bl_congr
        intro j hj
        congr 1; omega
      have hsz : (⟨((List.range (4 * (n - ((-1 : Int) + 1).toNat))).map fun j => UInt8.ofNat (lby f (4 * n - 1 - j))).toArray⟩ : ByteArray).size ≤ 9223372036854775000 := by
        have h : (⟨((List.range (4 * (n - ((-1 : Int) + 1).toNat))).map fun j => UInt8.ofNat (lby f (4 * n - 1 - j))).toArray⟩ : ByteArray).size = 4 * (n - ((-1 : Int) + 1).toNat) := strF_size _ _
        omega
      generalize (⟨((List.range (4 * (n - ((-1 : Int) + 1).toNat))).map fun j => UInt8.ofNat (lby f (4 * n - 1 - j))).toArray⟩ : ByteArray) = t at *
      have HNV := Lib.hid hnv
      clear hnv hcv HO
      go_wp2_with fail
      refine (rNormalize_any _ _ hsz).mono ?_; rintro e w' ⟨rfl, rfl⟩
      go_wp2
      go_ret
      exact ⟨ret_str (by rw [HNV.out]), hbel⟩
    · as_aux_lemma =>
      obtain ⟨m, rfl⟩ := Int.eq_ofNat_of_zero_le (show 0 ≤ I by omega)
      have hm : m < n := by omega
      have hcell := (HC.out.below hbel (hb (by omega))) m (by omega)
      have fm := HF.out m (by omega)
      have f1 : (f m : Int) ≤ 4294967295 := by unfold LB at fm; omega
      have hsz := hbel.size
      have hk : 4 * (n - ((m : Int) + 1).toNat) = 4 * (n - 1 - m) := by omega
      have HO2 : Hid (ORow wr w.heap.size 5 .u8 u3 (4 * (n - 1 - m)) (fun j => lby f (4 * n - 1 - j))) := by
        have := HO.out; rw [hk] at this; exact this
      clear HO hk
      go_wp2_with (at_builtin; refine wpList_append4 _ _ 285 5 .u8 1 w.heap.size _ _ _ (f m / 16777216 % 256) (f m / 65536 % 256) (f m / 256 % 256) (f m % 256) _ _ _ _ rfl rfl Tryz.underlying285 u8info rfl rfl (by omega) (by omega) (by omega) (by omega) HO2.out (by omega) (by omega) hsz ?_; intro v' w2 ho2 hb2)
      go_roundw
      case rel =>
        refine ⟨(m : Int) - 1, rfl, by omega, by omega, ?_, hbel.trans hb2⟩
        have e := ho2.congr (g := fun j => lby f (4 * n - 1 - j)) (fun j hj => by
          by_cases h4 : j < 4 * (n - 1 - m)
          · rw [if_pos h4]
          · rw [if_neg h4]
            rcases (show j = 4 * (n - 1 - m) ∨ j = 4 * (n - 1 - m) + 1 ∨ j = 4 * (n - 1 - m) + 2 ∨ j = 4 * (n - 1 - m) + 3 by omega) with h | h | h | h
            · rw [h, show 4 * n - 1 - 4 * (n - 1 - m) = 4 * m + 3 by omega, lby_four f m 3 (by omega)]; simp
            · rw [h, show 4 * n - 1 - (4 * (n - 1 - m) + 1) = 4 * m + 2 by omega, lby_four f m 2 (by omega), Nat.add_sub_cancel_left]; simp
            · rw [h, show 4 * n - 1 - (4 * (n - 1 - m) + 2) = 4 * m + 1 by omega, lby_four f m 1 (by omega), Nat.add_sub_cancel_left]; simp
            · rw [h, show 4 * n - 1 - (4 * (n - 1 - m) + 3) = 4 * m + 0 by omega, lby_four f m 0 (by omega), Nat.add_sub_cancel_left]; simp)
        rw [show 4 * (n - ((m : Int) - 1 + 1).toNat) = 4 * (n - 1 - m) + 4 by omega]
        exact e
      case measure => simp [intOf]
end Go.Proofs.Ins

set_option linter.unusedSimpArgs false
set_option linter.unusedVariables false
namespace Go.Proofs.Ins
open Go.RowKit

set_option maxRecDepth 100000 in
set_option maxHeartbeats 400000 in
theorem strip_zero (a : Option Addr) (cap : Nat) (w : World) :
    Calls Tryz.prog 318 #[.slice a 0 cap] w fun e w' => e = .returned (.slice a 0 cap) ∧ w = w' := by
  go_enter Tryz.func318, Tryz.ntmps318
  go_wp2
  go_loop [3] (fun i => i = .int .i64 0) (fun _ => 0)
  case atStart => exact rfl
  case round =>
    subst hrel
    cases a with
    | none =>
      go_wp2
      go_ret
      exact ⟨rfl, rfl⟩
    | some p =>
      go_wp2
      go_ret
      exact ⟨rfl, rfl⟩

set_option maxRecDepth 100000 in
set_option maxHeartbeats 800000 in
theorem rtext_zero (a : Option Addr) (cap : Nat) (w : World) :
    Calls Tryz.prog 282 #[.slice a 0 cap] w fun e w' => e = .returned (.string (bn 0)) ∧ Below w.heap.size w w' := by
  obtain ⟨i0, hi, hz0, hz1, hz2⟩ := info_parts u8info
  go_enter Tryz.func282, Tryz.ntmps282
  go_wp2_with fail
  refine (strip_zero a cap w).mono ?_; rintro e w' ⟨rfl, rfl⟩
  go_wp2_with (refine wpList_make_own _ rfl _ _ 285 rfl w.heap.size 5 i0 (.int .u8 0) 1 Tryz.underlying285 hi hz0 hz1 .i64 .i64 _ 0 rfl rfl rfl (by rw [hz2]; omega) (by unfold maxLen; omega) (Nat.le_refl _) ?_; intro w1 ho1 hg1)
  have hb1 : Below w.heap.size w w1 := (Below.refl _ _).grown hg1 (Nat.le_refl _) (fun k h => by cases h)
  have HO1 : Hid (ORow w1 w.heap.size 5 .u8 (.slice (some ⟨w.heap.size, 0, none⟩) 0 0) 0 (fun _ => 0)) := ho1
  have hcv := HO1.out.str (P := Tryz.prog) (src := 285) (dst := 9) Tryz.underlying285 Tryz.underlying5 Tryz.underlying9
  clear ho1 hg1
  go_loopw [3, 4] (fun v i wr => v = .slice (some ⟨w.heap.size, 0, none⟩) 0 0 ∧ i = .int .i64 (-1) ∧ wr = w1) (fun _ _ _ => 0)
  case atStart => exact ⟨rfl, rfl, rfl⟩
  case round =>
    obtain ⟨rfl, rfl, rfl⟩ := hrel
    go_wp2_with fail
    refine (rNormalize_any _ _ ?_).mono ?_
    · show (0 : Nat) ≤ _; omega
    rintro e w' ⟨rfl, rfl⟩
    go_wp2
    go_ret
    exact ⟨rfl, hb1⟩

theorem rtext_any (a : Option Addr) (len cap x : Nat) (w : World) (h : Limbs w a len x) (hl : len ≤ 268435456) (hcap : len ≤ cap) :
    Calls Tryz.prog 282 #[.slice a len cap] w fun e w' => e = .returned (.string (bn x)) ∧ Below w.heap.size w w' := by
  obtain ⟨f, rfl, h2, h3⟩ := h
  rcases h3 with rfl | ⟨b, off, rfl, hr⟩
  · exact rtext_zero a cap w
  · exact rtext_walk b off len cap f w hl hcap hr h2.1 (fun h => hr.lt h)

set_option maxRecDepth 100000 in
set_option maxHeartbeats 1600000 in
theorem rfromUint_any (u : Nat) (w : World) (hu : u < 18446744073709551616) :
    Calls Tryz.prog 206 #[.int .u64 (u : Int)] w fun e w' => e = .returned (.string (bn u)) ∧ Below w.heap.size w w' := by
  have e1 : ((u : Int) % 4294967296) = ((u % 4294967296 : Nat) : Int) := by omega
  have e2 : ((u : Int) / 4294967296) = ((u / 4294967296 : Nat) : Int) := by omega
  obtain ⟨x, hx⟩ : ∃ x, x = u % 4294967296 := ⟨_, rfl⟩
  obtain ⟨y, hy⟩ : ∃ y, y = u / 4294967296 := ⟨_, rfl⟩
  have hyl : y < 4294967296 := by omega
  have hu2 : (u : Int) ≤ 18446744073709551615 := by omega
  have hlv : lv (fun j => if j = 0 then x else y) 2 = u := by simp [lv]; unfold LB; omega
  have hlim : ∀ j, j < 2 → (if j = 0 then x else y) < LB := by intro j _; unfold LB; split <;> omega
  have hyl2 : (y : Int) % 4294967296 = y := by omega
  rw [← hx] at e1
  rw [← hy] at e2
  have HLV := Lib.hid hlv
  have HLM := Lib.hid hlim
  clear hx hy hlv hlim
  go_enter Tryz.func206, Tryz.ntmps206
  go_wp2_with fail
  have hrow := row_two w 215 x y
  refine (rtext_walk w.heap.size 0 2 2 _ _ (by omega) (by omega) hrow.reads HLM.out (fun _ => hrow.lt)).mono ?_
  rintro e w4 ⟨rfl, hb4⟩
  rw [HLV.out]
  clear hrow
  go_wp2
  go_ret
  exact ⟨rfl, ((Below.refl _ _).alloc (Nat.le_refl _) _).trans (hb4.mono (by simp))⟩

/-- A sum has no zeros at its end, and the length at which its loop ends. -/
theorem sum_can {fx fy : Nat → Nat} {lx ly k : Nat} (hx : Can fx lx) (hy : Can fy ly) (h1 : lx ≤ k) (h2 : ly ≤ k) (h3 : k ≤ max lx ly ∨ (k = max lx ly + 1 ∧ cry (ext fx lx) (ext fy ly) (max lx ly) = 1)) (h4 : cry (ext fx lx) (ext fy ly) k = 0) :
    Can (sdg (ext fx lx) (ext fy ly)) k ∧ lv (sdg (ext fx lx) (ext fy ly)) k = lv fx lx + lv fy ly := by
  have hs := sdg_lv (ext fx lx) (ext fy ly) k
  rw [h4, Nat.mul_zero, Nat.add_zero, lv_ext h1, lv_ext h2] at hs
  refine ⟨⟨fun j _ => Nat.mod_lt _ LB_pos, ?_⟩, hs⟩
  rcases Nat.eq_zero_or_pos k with e | e
  · exact .inl e
  · right
    intro h0
    rcases h3 with h3 | ⟨h3, h5⟩
    · have hlt : lv (sdg (ext fx lx) (ext fy ly)) k < LB ^ (k - 1) := by
        obtain ⟨m, rfl⟩ : ∃ m, k = m + 1 := ⟨k - 1, by omega⟩
        rw [Nat.add_sub_cancel] at *
        rw [lv_succ, h0, Nat.mul_zero, Nat.add_zero]
        exact lv_lt fun j _ => Nat.mod_lt _ LB_pos
      rcases (show lx = k ∨ ly = k by omega) with e2 | e2
      · subst e2; have := hx.ge (by omega); omega
      · subst e2; have := hy.ge (by omega); omega
    · subst h3
      rw [Nat.add_sub_cancel] at h0
      unfold sdg at h0
      rw [h5, ext_out (by omega), ext_out (by omega)] at h0
      exact absurd h0 (by decide)

set_option maxRecDepth 100000 in
set_option maxHeartbeats 3200000 in
theorem plus_any (ax ay : Option Addr) (lx ly cx cy x y : Nat) (w : World) (hX : Limbs w ax lx x) (hY : Limbs w ay ly y) (hll : lx ≤ 1073741824) (hlm : ly ≤ 1073741824) :
    Calls Tryz.prog 258 #[.slice ax lx cx, .slice ay ly cy] w (RetLimbs w (x + y)) := by
  obtain ⟨fx, hX⟩ := hX
  obtain ⟨fy, hY⟩ := hY
  have HX : Hid (LimbsF w ax lx x fx) := hX
  have HY : Hid (LimbsF w ay ly y fy) := hY
  clear hX hY
  go_enter Tryz.func258, Tryz.ntmps258
  go_wp2_with fail
  go_loopw [5, 6, 7] (fun v c i wr => ∃ k : Nat, i = .int .i64 k ∧ Hid (k ≤ max lx ly ∨ (k = max lx ly + 1 ∧ cry (ext fx lx) (ext fy ly) (max lx ly) = 1)) ∧ c = .int .u64 (cry (ext fx lx) (ext fy ly) k) ∧ ORow wr w.heap.size 215 .u32 v k (sdg (ext fx lx) (ext fy ly)) ∧ Below w.heap.size w wr) (fun _ _ i _ => max lx ly + 1 - (intOf i).toNat)
  case atStart => exact ⟨0, rfl, .inl (by omega), rfl, ORow.nil _ _ _ _ _, Below.refl _ _⟩
  case round =>
    obtain ⟨k, rfl, hkk, rfl, hown, hbel⟩ := hrel
    have HO := Lib.hid hown
    clear hown
    have hsz := hbel.size
    have c0 := cry_le (ext_lt HX.out.2.1.1) (ext_lt HY.out.2.1.1) k
    have fk := ext_lt HX.out.2.1.1 k
    have gk := ext_lt HY.out.2.1.1 k
    have HS := Lib.hid (cry_succ (ext fx lx) (ext fy ly) k)
    have HD : Hid (sdg (ext fx lx) (ext fy ly) k = (ext fx lx k + ext fy ly k + cry (ext fx lx) (ext fy ly) k) % LB) := rfl
    have hkb : k ≤ max lx ly + 1 := by rcases hkk.out with h | h <;> omega
    have hkb2 : k + 1 ≤ 2147483648 := by omega
    have HEND := Lib.hid (fun (h1 : lx ≤ k) (h2 : ly ≤ k) (h4 : cry (ext fx lx) (ext fy ly) k = 0) => sum_can HX.out.2.1 HY.out.2.1 h1 h2 hkk.out h4)
    have HMX := Lib.hid (fun (h : k = max lx ly) (h1 : cry (ext fx lx) (ext fy ly) k = 1) => show cry (ext fx lx) (ext fy ly) (max lx ly) = 1 by rw [← h]; exact h1)
    rw [LB_eq] at fk gk
    generalize hC : cry (ext fx lx) (ext fy ly) k = C at *
    generalize hF : ext fx lx k = F at *
    generalize hG : ext fy ly k = G at *
    have HC := Lib.hid hC
    have HF := Lib.hid hF
    have HG := Lib.hid hG
    clear hC hF hG
    have z1 : (C : Int) ≤ 1 := by omega
    have z2 : (F : Int) ≤ 4294967295 := by omega
    have z3 : (G : Int) ≤ 4294967295 := by omega
    by_cases hxl : k < lx
    · by_cases hyl : k < ly
      · as_aux_lemma =>
        rcases HX.out.2.2 with h0 | ⟨b1, o1, rfl, r1⟩
        · omega
        have hcx := (r1.below hbel (r1.lt (by omega))) k hxl
        rw [← ext_in (f := fx) hxl, HF.out] at hcx
        clear r1
        rcases HY.out.2.2 with h0 | ⟨b2, o2, rfl, r2⟩
        · omega
        have hcy := (r2.below hbel (r2.lt (by omega))) k hyl
        rw [← ext_in (f := fy) hyl, HG.out] at hcy
        clear r2
        go_wp2_with (at_builtin; refine wpList_append1 _ _ 212 215 .u32 4 w.heap.size _ _ _ (sdg (ext fx lx) (ext fy ly) k) _ rfl rfl Tryz.underlying212 u32info rfl rfl (by have := HD.out; unfold LB at this; omega) HO.out (by omega) (by omega) hsz ?_; intro v' w2 ho2 hb2)
        go_roundw
        case rel =>
          refine ⟨k + 1, by go_num, ?_, ?_, (ho2.congr fun j hj => ?_), hbel.trans hb2⟩
          · exact .inl (by omega)
          · have h := HS.out
            unfold LB at h
            congr 1; omega
          · by_cases e : j = k
            · subst e; rw [upd_same]
            · rw [upd_other _ _ _ e]
        case measure => simp [intOf]; omega
      · as_aux_lemma =>
        rcases HX.out.2.2 with h0 | ⟨b1, o1, rfl, r1⟩
        · omega
        have hcx := (r1.below hbel (r1.lt (by omega))) k hxl
        rw [← ext_in (f := fx) hxl, HF.out] at hcx
        clear r1
        have hG0 : G = 0 := by rw [← HG.out]; exact ext_out (by omega)
        subst hG0
        have hyn : decide (k < ly) = false := by simp; omega
        go_wp2_with (at_builtin; refine wpList_append1 _ _ 212 215 .u32 4 w.heap.size _ _ _ (sdg (ext fx lx) (ext fy ly) k) _ rfl rfl Tryz.underlying212 u32info rfl rfl (by have := HD.out; unfold LB at this; omega) HO.out (by omega) (by omega) hsz ?_; intro v' w2 ho2 hb2)
        go_roundw
        case rel =>
          refine ⟨k + 1, by go_num, ?_, ?_, (ho2.congr fun j hj => ?_), hbel.trans hb2⟩
          · exact .inl (by omega)
          · have h := HS.out
            unfold LB at h
            congr 1; omega
          · by_cases e : j = k
            · subst e; rw [upd_same]
            · rw [upd_other _ _ _ e]
        case measure => simp [intOf]; omega
    · by_cases hyl : k < ly
      · as_aux_lemma =>
        have hF0 : F = 0 := by rw [← HF.out]; exact ext_out (by omega)
        subst hF0
        have hxn : decide (k < lx) = false := by simp; omega
        rcases HY.out.2.2 with h0 | ⟨b2, o2, rfl, r2⟩
        · omega
        have hcy := (r2.below hbel (r2.lt (by omega))) k hyl
        rw [← ext_in (f := fy) hyl, HG.out] at hcy
        clear r2
        go_wp2_with (at_builtin; refine wpList_append1 _ _ 212 215 .u32 4 w.heap.size _ _ _ (sdg (ext fx lx) (ext fy ly) k) _ rfl rfl Tryz.underlying212 u32info rfl rfl (by have := HD.out; unfold LB at this; omega) HO.out (by omega) (by omega) hsz ?_; intro v' w2 ho2 hb2)
        go_roundw
        case rel =>
          refine ⟨k + 1, by go_num, ?_, ?_, (ho2.congr fun j hj => ?_), hbel.trans hb2⟩
          · exact .inl (by omega)
          · have h := HS.out
            unfold LB at h
            congr 1; omega
          · by_cases e : j = k
            · subst e; rw [upd_same]
            · rw [upd_other _ _ _ e]
        case measure => simp [intOf]; omega
      · by_cases hc1 : C = 1
        · as_aux_lemma =>
          have hF0 : F = 0 := by rw [← HF.out]; exact ext_out (by omega)
          subst hF0
          have hxn : decide (k < lx) = false := by simp; omega
          have hG0 : G = 0 := by rw [← HG.out]; exact ext_out (by omega)
          subst hG0
          have hyn : decide (k < ly) = false := by simp; omega
          subst hc1
          have hkm : k = max lx ly := by
            rcases hkk.out with h | ⟨h, h7⟩
            · omega
            · exfalso
              have h5 := HC.out
              rw [h, cry_succ, ext_out (by omega), ext_out (by omega), h7] at h5
              exact absurd h5 (by decide)
          have HKM := Lib.hid hkm
          clear hkm
          go_wp2_with (at_builtin; refine wpList_append1 _ _ 212 215 .u32 4 w.heap.size _ _ _ (sdg (ext fx lx) (ext fy ly) k) _ rfl rfl Tryz.underlying212 u32info rfl rfl (by have := HD.out; unfold LB at this; omega) HO.out (by omega) (by omega) hsz ?_; intro v' w2 ho2 hb2)
          go_roundw
          case rel =>
            refine ⟨k + 1, by go_num, ?_, ?_, (ho2.congr fun j hj => ?_), hbel.trans hb2⟩
            · have := HKM.out; exact .inr ⟨by omega, HMX.out HKM.out rfl⟩
            · have h := HS.out
              unfold LB at h
              congr 1; omega
            · by_cases e : j = k
              · subst e; rw [upd_same]
              · rw [upd_other _ _ _ e]
          case measure => have := HKM.out; simp [intOf]; omega
        · as_aux_lemma =>
          have hC0 : C = 0 := by omega
          subst hC0
          have hF0 : F = 0 := by rw [← HF.out]; exact ext_out (by omega)
          have hG0 : G = 0 := by rw [← HG.out]; exact ext_out (by omega)
          have hxn : decide (k < lx) = false := by simp; omega
          have hyn : decide (k < ly) = false := by simp; omega
          obtain ⟨e1, e2⟩ := HEND.out (by omega) (by omega) rfl
          have E1 := Lib.hid e1
          have E2 := Lib.hid e2
          have hform := Lib.hid HO.out.form
          clear e1 e2 hF0 hG0
          go_wp2
          go_ret
          have e3 : lv (sdg (ext fx lx) (ext fy ly)) k = x + y := by rw [E2.out, HX.out.1, HY.out.1]
          rcases hform.out with ⟨hv, h0⟩ | ⟨g, cap, hv, _, hcap, hcm, _, hr⟩
          · exact ⟨none, 0, 0, by rw [← hv]; rfl, Nat.le_refl _, by omega, ⟨_, by rw [← e3, h0], by rw [← h0]; exact E1.out, .inl rfl⟩, hbel⟩
          · exact ⟨some ⟨g, 0, none⟩, k, cap, by rw [← hv]; rfl, hcap, hcm, ⟨_, e3, E1.out, .inr ⟨g, 0, rfl, hr⟩⟩, hbel⟩
end Go.Proofs.Ins

set_option linter.unusedSimpArgs false
set_option linter.unusedVariables false
namespace Go.Proofs.Ins
open Go.RowKit

theorem shl_conv3 (u s : Nat) (hs : s < 32) (hu : u < LB) :
    IntKind.u64.wrap ((u : Int) * 2 ^ s) / 4294967296 % 4294967296 = ((u * 2 ^ s / LB : Nat) : Int) := by
  have h1 := shl_high hs hu
  have h2 : 2 ^ s ≤ LB := by rw [LB_split (Nat.le_of_lt hs)]; exact Nat.le_mul_of_pos_left _ (Nat.pow_pos (by omega))
  rw [wrap_shl u s hs hu]
  rw [LB_eq] at *
  generalize u * 2 ^ s = x at *
  omega

set_option maxRecDepth 100000 in
set_option maxHeartbeats 1600000 in
theorem shifted_walk (b1 o1 la c1 s : Nat) (f : Nat → Nat) (w : World) (hn : la ≤ 1073741824) (hf : Reads w b1 o1 .u32 la f) (lf : ∀ j, j < la → f j < LB) (hs : s < 32) (hla : 0 < la) :
    Calls Tryz.prog 367 #[.slice (some ⟨b1, o1, none⟩) la c1, .int .u64 (s : Int)] w (RetShl w 215 (la + 1) (lv f la * 2 ^ s)) := by
  go_enter Tryz.func367, Tryz.ntmps367
  go_wp2_with (refine wpList_makeT _ _ 212 215 .u32 4 (la + 1) _ rfl rfl Tryz.underlying212 u32info rfl rfl (by omega) (by omega) (by omega) ?_; intro w3 hr3 hb3 hz3)
  go_loopw [6] (fun i wr => ∃ k : Nat, i = .int .i64 k ∧ k ≤ la ∧ (∃ O, Row wr w.heap.size 215 .u32 (la + 1) O ∧ ShlRow f O (la + 1) k s) ∧ Below w.heap.size w wr) (fun i _ => la - (intOf i).toNat)
  case atStart => exact ⟨0, rfl, by omega, ⟨_, hr3, shl_start f (la + 1) s⟩, hb3⟩
  case round =>
    obtain ⟨k, rfl, hk, ⟨O, hrow, hsh⟩, hbel⟩ := hrel
    clear hr3 hb3 hz3
    by_cases hlt : k < la
    · have hcell := (hf.below hbel (hf.lt hla)) k hlt
      have hold := hrow.cell (j := k) (by omega)
      have hfr := hrow.frozen k
      have fk := lf k hlt
      have F1 : (f k : Int) ≤ 4294967295 := by unfold LB at fk; omega
      have HROW := Lib.hid hrow
      have HSH := Lib.hid hsh
      have hold2 := HROW.out.cell (j := k + 1) (by omega)
      have hfr2 := HROW.out.frozen (k + 1)
      rw [HSH.out.2.2.2 (k + 1) (by omega)] at hold2
      clear hsh hrow hf lf
      go_wp2
      go_roundw
      case rel =>
        refine ⟨k + 1, by go_num, by omega, ⟨_, ?_, shl_step HSH.out hs fk (by omega)⟩, ?_⟩
        · rw [shl_conv1 _ _ _ hs HSH.out.2.2.1 fk, shl_conv3 _ _ hs fk]
          exact (HROW.out.set k _).set (k + 1) _
        · exact (hbel.setCell (Nat.le_refl _) _).setCell (Nat.le_refl _) _
      case measure => simp [intOf]; omega
    · obtain rfl : k = la := by omega
      have HF := Lib.hid hsh
      have HROW := Lib.hid hrow
      clear hsh hrow hf lf
      go_wp2
      go_ret
      exact ⟨O, rfl, HROW.out, HF.out.1, HF.out.2.1, hbel⟩

theorem u64_shr (x s : Nat) : ((x : Int) / 2 ^ s) = ((x / 2 ^ s : Nat) : Int) := by
  rw [Int.natCast_ediv, Int.natCast_pow]; rfl
end Go.Proofs.Ins
