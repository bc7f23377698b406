/- The walks of insolvencyref29.checkWorse and Floor. -/
import Derived.Test.YtobbllakdjampaaGreatDoorL4
import Derived.Test.YtobbllakdjampaaGreatDoorR15
set_option linter.unusedSimpArgs false
set_option linter.unusedVariables false
namespace Go.Proofs.Ins
open Go.RowKit

theorem rsign_r3 (r : R3) (w : World) (h : r.fits 134217728) :
    Calls Tryz.prog 38 #[.agg #[.bool r.n, .string r.s, .string r.d]] w fun e w' => e = .returned (.int .i64 (sg r.q)) ∧ Below w.heap.size w w' := rsign_any r.n r.s r.d w h.1 h.2

theorem chk_long {n m : Nat} {V : Nat → V8} {A : Nat → R3} (h : 64 < n) : chk n m V A = 2 := by unfold chk; rw [if_pos h]
theorem chk_len {n m : Nat} {V : Nat → V8} {A : Nat → R3} (h : ¬ 64 < n) (h2 : m ≠ n) : chk n m V A = 4 := by unfold chk; rw [if_neg h, if_pos h2]
theorem chk_ok {n : Nat} {V : Nat → V8} {A : Nat → R3} (h : ¬ 64 < n) (h1 : ∀ i, i < n → negV (V i) = false) (h2 : ∀ i, i < n → negR (A i) = false) : chk n n V A = 0 := by
  unfold chk; rw [if_neg h, if_neg (by omega), anyB_false h1, anyB_false h2]; rfl
theorem chk_bad {n i : Nat} {V : Nat → V8} {A : Nat → R3} (h : ¬ 64 < n) (hi : i < n) (h1 : (negV (V i) || negR (A i)) = true) : chk n n V A = 7 := by
  unfold chk; rw [if_neg h, if_neg (by omega)]
  have : (anyB (fun i => negV (V i)) n || anyB (fun i => negR (A i)) n) = true := by
    rcases Bool.or_eq_true _ _ |>.mp h1 with h | h
    · rw [anyB_true hi h]; rfl
    · rw [anyB_true (p := fun i => negR (A i)) hi h]; simp
  rw [if_pos this]

set_option maxRecDepth 100000 in
set_option maxHeartbeats 1600000 in
theorem rcheck_any (a1 : Option Addr) (n c1 : Nat) (a2 : Option Addr) (m c2 : Nat) (V : Nat → V8) (A : Nat → R3) (w : World) (hV : SArg w a1 n 8 fun i => (V i).c) (hA : SArg w a2 m 3 fun i => (A i).c)
    (fV : ∀ i, i < n → (V i).fits 1000) (fA : ∀ i, i < m → (A i).fits 1000) (hn : n ≤ 140737488351232) (hm : m ≤ 140737488351232) :
    Calls Tryz.prog 34 #[.slice a1 n c1, .slice a2 m c2] w fun e w' => e = .returned (.int .i64 (chk n m V A)) ∧ Below w.heap.size w w' := by
  have HV := Lib.hid hV
  have HA := Lib.hid hA
  have HFV := Lib.hid fV
  have HFA := Lib.hid fA
  clear hV hA fV fA
  by_cases h1 : 64 < n
  · rw [chk_long h1]
    go_enter Tryz.func34, Tryz.ntmps34
    go_wp2
    go_ret
    exact ⟨rfl, Below.refl _ _⟩
  · have hl1 : decide (64 < n) = false := by simp; omega
    have hl1' : decide ((64 : Int) < (n : Int)) = false := by simp; omega
    by_cases h2 : m = n
    · subst h2
      have HOK := Lib.hid (fun h1' h2' => chk_ok (V := V) (A := A) h1 h1' h2')
      have HBAD := Lib.hid (fun i hi h => chk_bad (V := V) (A := A) (i := i) h1 hi h)
      generalize chk m m V A = C at *
      go_enter Tryz.func34, Tryz.ntmps34
      go_wp2
      go_loopw [5] (fun i wr => ∃ k : Nat, i = .int .i64 k ∧ k ≤ m ∧ Hid (∀ i, i < k → negV (V i) = false) ∧ Hid (∀ i, i < k → negR (A i) = false) ∧ Below w.heap.size w wr) (fun i _ => m - (intOf i).toNat)
      case atStart => exact ⟨0, rfl, by omega, fun i hi => by omega, fun i hi => by omega, Below.refl _ _⟩
      case round =>
        obtain ⟨k, rfl, hk, hs1, hs2, hbel⟩ := hrel
        by_cases hlt : k < m
        · skip
          rcases HV.out with h0 | ⟨bv, ov, rfl, lv, rv'⟩
          · omega
          rcases HA.out with h0 | ⟨ba, oa, rfl, la, ra⟩
          · omega
          have HCV := Lib.hid (fun W (h : Below w.heap.size w W) => (rv'.below h lv).v8 hlt)
          have HCA := Lib.hid (fun W (h : Below w.heap.size w W) => (ra.below h la).r3 hlt)
          obtain ⟨-, v1, v2, v3, -, -, -, -⟩ := HCV.out wr hbel
          have f1 := HFV.out k hlt
          have f2 := HFA.out k hlt
          have HS1 := Lib.hid (fun w => rsign_r3 (V k).a w ⟨by have := f1.1.1; omega, by have := f1.1.2; omega⟩)
          have HS2 := Lib.hid (fun w => rsign_r3 (V k).k w ⟨by have := f1.2.1; omega, by have := f1.2.2; omega⟩)
          have HS3 := Lib.hid (fun w => rsign_r3 (A k) w ⟨by have := f2.1; omega, by have := f2.2; omega⟩)
          have HB := Lib.hid hbel
          have hsz := hbel.size
          have HBK := Lib.hid (HBAD.out k hlt)
          have hn1 : negV (V k) = (decide (sg (V k).a.q < 0) || decide (sg (V k).k.q < 0)) := rfl
          have hn2 : negR (A k) = decide (sg (A k).q < 0) := rfl
          have hsn1 : negV (V k) = false → ∀ i, i < k + 1 → negV (V i) = false := fun h2 i hi => by
            by_cases e : i = k
            · rw [e]; exact h2
            · exact hs1.out i (by omega)
          have hsn2 : negR (A k) = false → ∀ i, i < k + 1 → negR (A i) = false := fun h2 i hi => by
            by_cases e : i = k
            · rw [e]; exact h2
            · exact hs2.out i (by omega)
          rw [hn1] at hsn1 HBK
          rw [hn2] at hsn2 HBK
          have HSN1 := Lib.hid hsn1
          have HSN2 := Lib.hid hsn2
          clear rv' ra hn1 hn2 hsn1 hsn2 f1 f2 hs1 hs2 hbel
          generalize sg (V k).a.q = s1 at *
          generalize sg (V k).k.q = s2 at *
          generalize sg (A k).q = s3 at *
          generalize (V k).a.n = an at *
          generalize (V k).a.s = as' at *
          generalize (V k).a.d = ad at *
          generalize (V k).k.n = kn at *
          generalize (V k).k.s = ks at *
          generalize (V k).k.d = kd at *
          generalize (V k).p = vp at *
          generalize (V k).x = vx at *
          generalize (A k).n = xn at *
          generalize (A k).s = xs at *
          generalize (A k).d = xd at *
          have i1 : (0 : Int) ≤ (k : Int) := by omega
          have i2 : (k : Int) < (m : Int) := by omega
          go_wp2_with fail
          refine (HS1.out _).mono ?_; rintro e w3 ⟨rfl, hb3⟩
          have HB3 := Lib.hid (chain HB.out hb3 (Nat.le_refl _))
          have hz3 := hb3.size
          clear hb3 v1 v2 v3
          obtain ⟨-, -, -, -, v1, v2, v3, -⟩ := HCV.out w3 HB3.out
          by_cases g1 : s1 < 0
          · have e1 : decide (s1 < 0) = true := decide_eq_true g1
            have HR := Lib.hid (HBK.out (by rw [e1]; rfl))
            clear g1 v1 v2 v3
            go_wp2
            go_ret
            exact ⟨by rw [HR.out]; rfl, HB3.out⟩
          · have e1 : decide (s1 < 0) = false := decide_eq_false g1
            have HE1 := Lib.hid e1
            go_wp2_with fail
            refine (HS2.out _).mono ?_; rintro e w4 ⟨rfl, hb4⟩
            have HB4 := Lib.hid (chain HB3.out hb4 (by omega))
            have hz4 := hb4.size
            clear hb4 v1 v2 v3
            obtain ⟨v1, v2, v3⟩ := HCA.out w4 HB4.out
            by_cases g2 : s2 < 0
            · have e2 : decide (s2 < 0) = true := decide_eq_true g2
              have HR := Lib.hid (HBK.out (by rw [e2]; simp))
              clear g2 v1 v2 v3
              go_wp2
              go_ret
              exact ⟨by rw [HR.out]; rfl, HB4.out⟩
            · have e2 : decide (s2 < 0) = false := decide_eq_false g2
              have HE2 := Lib.hid e2
              go_wp2_with fail
              refine (HS3.out _).mono ?_; rintro e w5 ⟨rfl, hb5⟩
              have HB5 := Lib.hid (chain HB4.out hb5 (by omega))
              clear hb5 v1 v2 v3
              by_cases g3 : s3 < 0
              · have e3 : decide (s3 < 0) = true := decide_eq_true g3
                have HR := Lib.hid (HBK.out (by rw [e3]; simp))
                clear g3
                go_wp2
                go_ret
                exact ⟨by rw [HR.out]; rfl, HB5.out⟩
              · have e3 : decide (s3 < 0) = false := decide_eq_false g3
                have HE3 := Lib.hid e3
                go_wp2
                go_roundw
                case rel => exact ⟨k + 1, by go_num, by omega, HSN1.out (by rw [HE1.out, HE2.out]; rfl), HSN2.out HE3.out, HB5.out⟩
                case measure => simp [intOf]; omega
        · obtain rfl : k = m := by omega
          have HR := Lib.hid (HOK.out hs1.out hs2.out)
          have hnl : decide ((k : Int) < (k : Int)) = false := by simp
          clear HV HA HFV HFA HOK HBAD
          go_wp2
          go_ret
          exact ⟨by rw [HR.out]; rfl, hbel⟩
    · rw [chk_len h1 h2]
      have h2' : ((m : Int) == (n : Int)) = false := by simp; omega
      have h2'' : ¬ ((m : Int) = (n : Int)) := by omega
      go_enter Tryz.func34, Tryz.ntmps34
      go_wp2
      go_ret
      exact ⟨rfl, Below.refl _ _⟩
end Go.Proofs.Ins
