/- The walk of insolvencylaw31.LiquidationFloor. -/
import Derived.Test.YtobbllakdjampaaGreatDoorL8
import Derived.Test.YtobbllakdjampaaGreatDoorL7
set_option linter.unusedSimpArgs false
set_option linter.unusedVariables false
namespace Go.Proofs.Ins
open Go.RowKit

theorem sm_int {i : Int} {k : Nat} (h : i.natAbs < 256 ^ k) (hk : 0 < k) : Sm k (i : Rat) := by
  refine ⟨?_, ?_⟩
  · show (i : Rat).num.natAbs < _
    rw [Rat.num_intCast]; exact h
  · rw [Rat.den_intCast]; exact Nat.one_lt_pow (by omega) (by omega)
theorem sm_frac {i j : Int} (hi : i.natAbs < 65536) (hj : j.natAbs < 65536) (h0 : j ≠ 0) : Sm 4 ((i : Rat) / (j : Rat)) :=
  Sm.div (k := 2) (l := 2) (sm_int (by omega) (by omega)) (sm_int (by omega) (by omega)) (by
    intro h; apply h0
    have : ((j : Rat)).num = (0 : Rat).num := by rw [h]
    rw [Rat.num_intCast] at this; exact this)
theorem amt_fits (x : Nat) : (ofQ (amt x)).fits 1000 := by
  refine ofQ_fits (Sm.mono (k := 4) ?_ (by omega))
  by_cases h : x % 5 = 0
  · rw [amt_0 h]; exact sm_frac (by omega) (by omega) (by omega)
  · by_cases h1 : x % 5 = 1
    · rw [amt_1 h1]; exact sm_int (by omega) (by omega)
    · rw [amt_2 h h1]; exact sm_int (by omega) (by omega)
theorem votV_fits (L : Nat → Nat → Nat) (i : Nat) : (votV L i).fits 1000 :=
  ⟨amt_fits _, ofQ_fits (Sm.mono (k := 4) (sm_frac (by omega) (by omega) (by omega)) (by omega))⟩
theorem valR_fits (L : Nat → Nat) (n i : Nat) : (valR L n i).fits 1000 := by
  unfold valR
  split
  · exact amt_fits _
  · exact ⟨Nat.zero_le _, Nat.zero_le _⟩

set_option maxRecDepth 100000 in
set_option maxHeartbeats 3200000 in
theorem law_floor (a1 : Option Addr) (n1 c1 : Nat) (a2 : Option Addr) (n2 c2 : Nat) (a3 : Option Addr) (n3 c3 : Nat) (a4 : Option Addr) (n4 c4 : Nat) (L : Nat → Nat → Nat) (M : Nat → Nat) (V : Nat → V8) (Q : Nat → R3) (w : World)
    (h1 : SArg w a1 n1 4 (u16c L)) (h2 : SArg w a2 n2 1 (c16 M)) (h3 : SArg w a3 n3 8 fun i => (V i).c) (h4 : SArg w a4 n4 3 fun i => (Q i).c)
    (b1 : ∀ i j, i < n1 → L i j ≤ 65535) (b2 : ∀ i, i < n2 → M i ≤ 65535) (fV : ∀ i, i < n3 → (V i).a.fits 140737488351232 ∧ (V i).k.fits 140737488351232) (fQ : ∀ i, i < n4 → (Q i).fits 140737488351232)
    (l1 : n1 ≤ 140737488351232) (l2 : n2 ≤ 140737488351232) (l3 : n3 ≤ 140737488351232) (l4 : n4 ≤ 140737488351232) :
    Calls Tryz.prog 3 #[.slice a1 n1 c1, .slice a2 n2 c2, .slice a3 n3 c3, .slice a4 n4 c4] w fun e w' => e = .returned (.bool true) ∧ Below w.heap.size w w' := by
  have HW := Lib.hid awake_any
  have HFew := Lib.hid (few_law a3 n3 c3 a4 n4 c4 V Q w h3 h4 fV fQ l3 l4)
  by_cases hf : fewL n3 n4 V Q = true
  · have hg := fewL_get hf
    rw [hf] at HFew
    obtain ⟨g1, g2, g3, g4⟩ := hg
    have HV := Lib.hid (fun w (h : SArg w a1 n1 4 (u16c L)) => voters_any a1 n1 c1 L w h b1 l1)
    have HX := Lib.hid (fun w m (h : SArg w a2 n2 1 (c16 M)) (hm : m ≤ 1000000) => values_any a2 n2 c2 m M w h b2 l2 hm)
    have HP := Lib.hid (fun a c a' c' w (h : SArg w a (min n1 7) 8 fun i => (votV L i).c) (h' : SArg w a' (min n1 7) 3 fun i => (valR M n2 i).c) => floor_any a (min n1 7) c a' (min n1 7) c' (votV L) (valR M n2) w h h' (fun i _ => votV_fits L i) (fun i _ => valR_fits M n2 i) (by omega) (by omega))
    have HR := Lib.hid (fun a c a' c' w (h : SArg w a (min n1 7) 8 fun i => (votV L i).c) (h' : SArg w a' (min n1 7) 3 fun i => (valR M n2 i).c) => rfloor_any a (min n1 7) c a' (min n1 7) c' (votV L) (valR M n2) w h h' (fun i _ => votV_fits L i) (fun i _ => valR_fits M n2 i) (by omega) (by omega))
    have fV' : ∀ i, i < n3 → (V i).fits 1000 := fun i hi => by
      have := g4 i hi
      exact ⟨⟨by have := this.1.1; omega, by have := this.1.2; omega⟩, ⟨by have := this.2.1; omega, by have := this.2.2; omega⟩⟩
    have fQ' : ∀ i, i < n4 → (Q i).fits 1000 := fun i hi => ⟨by have := (g3 i hi).1; omega, by have := (g3 i hi).2; omega⟩
    have HP2 := Lib.hid (fun w (h : SArg w a3 n3 8 fun i => (V i).c) (h' : SArg w a4 n4 3 fun i => (Q i).c) => floor_any a3 n3 c3 a4 n4 c4 V Q w h h' fV' fQ' (by omega) (by omega))
    have HR2 := Lib.hid (fun w (h : SArg w a3 n3 8 fun i => (V i).c) (h' : SArg w a4 n4 3 fun i => (Q i).c) => rfloor_any a3 n3 c3 a4 n4 c4 V Q w h h' fV' fQ' (by omega) (by omega))
    unfold rv at HP HR HP2 HR2
    have H1 := Lib.hid h1
    have H2 := Lib.hid h2
    have H3 := Lib.hid h3
    have H4 := Lib.hid h4
    generalize chk n3 n4 V Q = e2 at *
    generalize flQ n3 n4 V Q = Q2 at *
    generalize chk (min n1 7) (min n1 7) (votV L) (valR M n2) = e1 at *
    generalize flQ (min n1 7) (min n1 7) (votV L) (valR M n2) = Q1 at *
    generalize rn Q1 = p1 at *
    generalize rs Q1 = p2 at *
    generalize rd Q1 = p3 at *
    generalize rn Q2 = q1 at *
    generalize rs Q2 = q2 at *
    generalize rd Q2 = q3 at *
    have hk : min n1 7 ≤ 7 := by omega
    generalize min n1 7 = k at *
    clear h1 h2 h3 h4 b1 b2 fV fQ g3 g4 fV' fQ' hf
    go_enter Tryz.func3, Tryz.ntmps3
    go_wp2_with fail
    refine HFew.out.mono ?_; rintro e w1 ⟨rfl, hb1⟩
    have HB1 := Lib.hid hb1
    have hz1 := hb1.size
    clear hb1
    go_wp2_with fail
    refine (HV.out _ (H1.out.on HB1.out)).mono ?_; rintro e w2 ⟨av, cv, rfl, hcv, hcv2, sv, hb2⟩
    have HB2 := Lib.hid (chain HB1.out hb2 (Nat.le_refl _))
    have HSV := Lib.hid sv
    have hz2 := hb2.size
    clear hb2 sv
    go_wp2_with fail
    refine (HX.out _ k (H2.out.on HB2.out) (by omega)).mono ?_; rintro e w3 ⟨vx, rfl, hox, hb3⟩
    obtain ⟨ax, cx, rfl, -, -, sx⟩ := hox.arg
    have HB3 := Lib.hid (chain HB2.out hb3 (by omega))
    have HSV := Lib.hid (HSV.out.on hb3)
    have HSX := Lib.hid sx
    clear hox sx hb3
    go_wp2_with fail
    refine (HP.out _ _ _ _ _ HSV.out HSX.out).mono ?_; rintro e w4 ⟨rfl, hb4⟩
    have HSV := Lib.hid ((HSV.out.on hb4).on ((Below.refl w4.heap.size w4).alloc (Nat.le_refl _) (.cells #[.bool p1, .string p2, .string p3] 30)))
    have HB4' := chain HB3.out hb4 (by omega)
    have hz4 := HB4'.size
    have HB4 := Lib.hid (HB4'.alloc (by omega) (.cells #[.bool p1, .string p2, .string p3] 30))
    have J1 := Lib.hid (Blk.new w4 #[.bool p1, .string p2, .string p3] 30)
    clear hb4 HB4'
    go_wp2_with fail
    refine (HX.out _ k (H2.out.on HB4.out) (by omega)).mono ?_; rintro e w5 ⟨vx2, rfl, hox, hb5⟩
    obtain ⟨ay, cy, rfl, -, -, sx⟩ := hox.arg
    have HSV := Lib.hid (HSV.out.on hb5)
    have HSX := Lib.hid sx
    have J1 := Lib.hid (J1.out.on hb5)
    have HB5 := Lib.hid (chain HB4.out hb5 (by omega))
    clear hox sx hb5
    go_wp2_with fail
    refine (HR.out _ _ _ _ _ HSV.out HSX.out).mono ?_; rintro e w6 ⟨rfl, hb6⟩
    have J1 := Lib.hid ((J1.out.on hb6).alloc (.cells #[.bool p1, .string p2, .string p3] 30))
    have HB6' := chain HB5.out hb6 (by omega)
    have hz6 := HB6'.size
    have HB6 := Lib.hid (HB6'.alloc (by omega) (.cells #[.bool p1, .string p2, .string p3] 30))
    have J2 := Lib.hid (Blk.new w6 #[.bool p1, .string p2, .string p3] 30)
    clear hb6 HB6' HSV HSX
    go_wp2_with fail
    refine (HP2.out _ (H3.out.on HB6.out) (H4.out.on HB6.out)).mono ?_; rintro e w7 ⟨rfl, hb7⟩
    have J1 := Lib.hid ((J1.out.on hb7).alloc (.cells #[.bool q1, .string q2, .string q3] 30))
    have J2 := Lib.hid ((J2.out.on hb7).alloc (.cells #[.bool q1, .string q2, .string q3] 30))
    have HB7' := chain HB6.out hb7 (by omega)
    have hz7 := HB7'.size
    have HB7 := Lib.hid (HB7'.alloc (by omega) (.cells #[.bool q1, .string q2, .string q3] 30))
    have J3 := Lib.hid (Blk.new w7 #[.bool q1, .string q2, .string q3] 30)
    clear hb7 HB7'
    go_wp2_with fail
    refine (HR2.out _ (H3.out.on HB7.out) (H4.out.on HB7.out)).mono ?_; rintro e w8 ⟨rfl, hb8⟩
    have J1 := Lib.hid ((J1.out.on hb8).alloc (.cells #[.bool q1, .string q2, .string q3] 30))
    have J2 := Lib.hid ((J2.out.on hb8).alloc (.cells #[.bool q1, .string q2, .string q3] 30))
    have J3 := Lib.hid ((J3.out.on hb8).alloc (.cells #[.bool q1, .string q2, .string q3] 30))
    have HB8' := chain HB7.out hb8 (by omega)
    have hz8 := HB8'.size
    have HB8 := Lib.hid (HB8'.alloc (by omega) (.cells #[.bool q1, .string q2, .string q3] 30))
    have J4 := Lib.hid (Blk.new w8 #[.bool q1, .string q2, .string q3] 30)
    clear hb8 HB8'
    go_wp2_with fail
    refine (HW.out _).mono ?_; rintro e w9 ⟨rfl, hb9⟩
    obtain ⟨a0, a1', a2', -, -, -⟩ := (J1.out.on hb9).get3
    obtain ⟨d0, d1, d2, -, -, -⟩ := (J2.out.on hb9).get3
    obtain ⟨m0, m1, m2, -, -, -⟩ := (J3.out.on hb9).get3
    obtain ⟨x0, x1, x2, -, -, -⟩ := (J4.out.on hb9).get3
    have HB9 := Lib.hid (chain HB8.out hb9 (by omega))
    clear hb9
    go_wp2
    go_ret
    exact ⟨rfl, HB9.out⟩
  · have hf2 : fewL n3 n4 V Q = false := Bool.eq_false_iff.mpr hf
    rw [hf2] at HFew
    clear h1 h2 h3 h4 b1 b2 fV fQ hf hf2
    go_enter Tryz.func3, Tryz.ntmps3
    go_wp2_with fail
    refine HFew.out.mono ?_; rintro e w3 ⟨rfl, hb3⟩
    have HB := Lib.hid hb3
    clear hb3
    go_wp2_with fail
    refine (HW.out _).mono ?_; rintro e w4 ⟨rfl, hb4⟩
    have HB := Lib.hid (chain HB.out hb4 (Nat.le_refl _))
    clear hb4
    go_wp2
    go_ret
    exact ⟨rfl, HB.out⟩
end Go.Proofs.Ins
