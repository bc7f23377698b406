/- The walks of insolvencyref1: Make, Fraction. -/
import Derived.Test.YtobbllakdjampaaGreatDoorR14
set_option linter.unusedSimpArgs false
set_option linter.unusedVariables false
namespace Go.Proofs.Ins
open Go.RowKit

set_option maxRecDepth 100000 in
set_option maxHeartbeats 400000 in
theorem rmake_no (neg : Bool) (a b : ByteArray) (w : World) (hb : b.size ≤ 134217720) (h0 : nv b = 0) :
    Calls Tryz.prog 72 #[.bool neg, .string a, .string b] w fun e w' => e = .returned (rvB 0 false) ∧ Below w.heap.size w w' := by
  have HL := Lib.hid (fun w => rlimbs_any b w (by omega))
  rw [h0] at HL
  clear h0
  go_enter Tryz.func72, Tryz.ntmps72
  go_wp2_with fail
  refine (HL.out _).mono ?_; rintro e w3 ⟨ad, ld, cd, rfl, u1, u2, c3, c4⟩
  have hl := c3.zero_iff.mp rfl
  subst hl
  obtain ⟨H2, HB⟩ := boxes1 c4
  obtain ⟨b0, b1, b2, f0, f1, f2⟩ := H2.get3
  have HB := Lib.hid HB
  have H2 := Lib.hid H2
  clear c3 c4
  go_wp2
  refine bodyPost_forget (fun W => Blk W w.heap.size #[.bool false, .string ⟨#[]⟩, .string ⟨#[]⟩] ∧ Below w.heap.size w W) ⟨by exact Blk.set3 H2.out _ _ _, below_set3 HB.out (by omega) _ _ _⟩ ?_
  rintro WR ⟨hr9, hb9⟩
  obtain ⟨y90, y91, y92, -, -, -⟩ := hr9.get3
  exact bodyPost_ret (v := rvB 0 false) (by simp [results, Tryz.results72, go_sem, y90, y91, y92, rvB, rn_zero, rs_zero, rd_zero]) rfl ⟨rfl, hb9⟩

set_option maxRecDepth 100000 in
set_option maxHeartbeats 400000 in
theorem rmake_yes (neg : Bool) (a b : ByteArray) (w : World) (ha : a.size ≤ 134217720) (hb : b.size ≤ 134217720) (h0 : 0 < nv b) :
    Calls Tryz.prog 72 #[.bool neg, .string a, .string b] w fun e w' => e = .returned (rvB (fr neg (nv a) (nv b)) true) ∧ Below w.heap.size w w' := by
  have HL := Lib.hid (fun w => rlimbs_any b w (by omega))
  have HA := Lib.hid (fun w => rlimbs_any a w (by omega))
  have ka : nv a < 256 ^ (a.size + b.size) := Nat.lt_of_lt_of_le (nv_lt a) (Nat.pow_le_pow_right (by omega) (by omega))
  have kb : nv b < 256 ^ (a.size + b.size) := Nat.lt_of_lt_of_le (nv_lt b) (Nat.pow_le_pow_right (by omega) (by omega))
  have KA := Lib.hid ka
  have KB := Lib.hid kb
  have HR := Lib.hid (fun w ax lx cx ay ly cy h1 h2 => rreduced_any neg ax ay lx ly cx cy (nv a) (nv b) (a.size + b.size) w h1 h2 h0 ka kb (by omega))
  unfold rvB
  generalize fr neg (nv a) (nv b) = r at *
  generalize rn r = r1 at *
  generalize rs r = r2 at *
  generalize rd r = r3 at *
  generalize nv a = x at *
  generalize nv b = y at *
  clear ka kb
  go_enter Tryz.func72, Tryz.ntmps72
  go_wp2_with fail
  refine (HL.out _).mono ?_; rintro e w3 ⟨ad, ld, cd, rfl, u1, u2, c3, c4⟩
  have hl : ld ≠ 0 := fun e => by have := c3.zero_iff.mpr e; omega
  have hl0 : ((ld : Int) == 0) = false := by simp; omega
  have l3 := RetLimbs.lim (w := w) c3 KB.out (by omega)
  obtain ⟨H2, HB⟩ := boxes1 c4
  have D3 := Lib.hid c3
  have HB3 := Lib.hid HB
  have H3 := Lib.hid H2
  clear c3 c4 H2 HB hl
  go_wp2_with fail
  refine (HA.out _).mono ?_; rintro e w4 ⟨an, ln, cn, rfl, u3, u4, c3, c4⟩
  have l4 := RetLimbs.lim (w := w) c3 KA.out (by omega)
  have N4 := Lib.hid c3
  have D4 := Lib.hid (D3.out.below c4 (Nat.le_refl _))
  have HB4 := Lib.hid (chain HB3.out c4 (Nat.le_refl _))
  have H4 := Lib.hid (H3.out.on c4)
  clear c3 c4 D3 HB3 H3
  go_wp2_with fail
  refine (HR.out _ _ _ _ _ _ _ ⟨u3, u4, by omega, N4.out⟩ ⟨u1, u2, by omega, D4.out⟩).mono ?_; rintro e w5 ⟨rfl, c4⟩
  have HB := Lib.hid (chain HB4.out c4 (Nat.le_refl _))
  have H2 := Lib.hid (H4.out.on c4)
  obtain ⟨b0, b1, b2, f0, f1, f2⟩ := H2.out.get3
  clear c4 D4 N4 HB4 H4
  go_wp2
  refine bodyPost_forget (fun W => Blk W w.heap.size #[.bool r1, .string r2, .string r3] ∧ Below w.heap.size w W) ⟨by exact Blk.set3 H2.out _ _ _, below_set3 HB.out (by omega) _ _ _⟩ ?_
  rintro WR ⟨hr9, hb9⟩
  obtain ⟨y90, y91, y92, -, -, -⟩ := hr9.get3
  exact bodyPost_ret (v := .tuple #[.agg #[.bool r1, .string r2, .string r3], .bool true]) (by simp [results, Tryz.results72, go_sem, y90, y91, y92]) rfl ⟨rfl, hb9⟩

theorem fr_ratio (i j : Int) (hj : 0 < j) : fr (!(decide (i < 0) == decide (j < 0))) i.natAbs j.natAbs = (i : Rat) / (j : Rat) := by
  have hj0 : (j : Rat) ≠ 0 := by
    intro e
    have : j = 0 := by exact_mod_cast e
    omega
  rw [fr_div hj0]
  have e1 : rn (i : Rat) = decide (i < 0) := rfl
  have e2 : rn (j : Rat) = decide (j < 0) := rfl
  have e3 : nm (i : Rat) = i.natAbs := rfl
  have e4 : nm (j : Rat) = j.natAbs := rfl
  have e5 : (i : Rat).den = 1 := rfl
  have e6 : (j : Rat).den = 1 := rfl
  rw [e1, e2, e3, e4, e5, e6, Nat.mul_one, Nat.one_mul]
  rfl

set_option maxRecDepth 100000 in
set_option maxHeartbeats 400000 in
theorem rfraction_any (i j : Int) (w : World) (h1 : -9223372036854775808 ≤ i) (h2 : i ≤ 9223372036854775807) (h3 : 0 < j) (h4 : j ≤ 9223372036854775807) :
    Calls Tryz.prog 43 #[.int .i64 i, .int .i64 j] w fun e w' => e = .returned (rvB ((i : Rat) / (j : Rat)) true) ∧ Below w.heap.size w w' := by
  have hs1 : (bn i.natAbs).size ≤ 8 := bn_size_le (by omega)
  have hs2 : (bn j.natAbs).size ≤ 8 := bn_size_le (by omega)
  have hM : ∀ w, Calls Tryz.prog 72 #[.bool (!(decide (i < 0) == decide (j < 0))), .string (bn i.natAbs), .string (bn j.natAbs)] w fun e w' => e = .returned (rvB ((i : Rat) / (j : Rat)) true) ∧ Below w.heap.size w w' := fun w => by
    have := rmake_yes (!(decide (i < 0) == decide (j < 0))) (bn i.natAbs) (bn j.natAbs) w (by omega) (by omega) (by rw [nv_bn]; omega)
    rw [nv_bn, nv_bn, fr_ratio i j h3] at this
    exact this
  have hj : decide (j < 0) = false := by simp; omega
  rw [hj] at hM
  have HS1 := Lib.hid (fun w => size_any i w h1 h2)
  have HS2 := Lib.hid (fun w => size_any j w (by omega) h4)
  have HF1 := Lib.hid (fun w => rfromUint_any i.natAbs w (by omega))
  have HF2 := Lib.hid (fun w => rfromUint_any j.natAbs w (by omega))
  have HM := Lib.hid hM
  unfold rvB at *
  generalize (i : Rat) / (j : Rat) = r at *
  generalize rn r = r1 at *
  generalize rs r = r2 at *
  generalize rd r = r3 at *
  generalize bn i.natAbs = t1 at *
  generalize bn j.natAbs = t2 at *
  generalize (i.natAbs : Int) = z1 at *
  generalize (j.natAbs : Int) = z2 at *
  clear hM
  have hnn : (!(decide (i < 0) == false)) = decide (i < 0) := by cases decide (i < 0) <;> rfl
  rw [hnn] at HM
  clear hnn
  by_cases hi : i < 0
  · rw [decide_eq_true hi] at HM
    as_aux_lemma =>
    go_enter Tryz.func43, Tryz.ntmps43
    go_wp2_with fail
    refine (HS1.out _).mono ?_; rintro e w3 ⟨rfl, rfl⟩
    go_wp2_with fail
    refine (HF1.out _).mono ?_; rintro e w3 ⟨rfl, c3⟩
    go_wp2_with fail
    refine (HS2.out _).mono ?_; rintro e w4 ⟨rfl, rfl⟩
    go_wp2_with fail
    refine (HF2.out _).mono ?_; rintro e w4 ⟨rfl, c4⟩
    go_wp2_with fail
    refine (HM.out _).mono ?_; rintro e w5 ⟨rfl, c5⟩
    obtain ⟨H2, HB⟩ := boxes1 (chain (chain c3 c4 (Nat.le_refl _)) c5 (Nat.le_refl _))
    obtain ⟨b0, b1, b2, f0, f1, f2⟩ := H2.get3
    have HB := Lib.hid HB
    have H2 := Lib.hid H2
    clear c3 c4 c5
    go_wp2
    refine bodyPost_forget (fun W => Blk W w.heap.size #[.bool r1, .string r2, .string r3] ∧ Below w.heap.size w W) ⟨by exact Blk.set3 H2.out _ _ _, below_set3 HB.out (by omega) _ _ _⟩ ?_
    rintro WR ⟨hr9, hb9⟩
    obtain ⟨y90, y91, y92, -, -, -⟩ := hr9.get3
    exact bodyPost_ret (v := .tuple #[.agg #[.bool r1, .string r2, .string r3], .bool true]) (by simp [results, Tryz.results43, go_sem, y90, y91, y92]) rfl ⟨rfl, hb9⟩
  · have hi3 := hi
    have hi2 : 0 ≤ i := by omega
    clear hi hi3
    as_aux_lemma =>
    go_enter Tryz.func43, Tryz.ntmps43
    go_wp2_with fail
    refine (HS1.out _).mono ?_; rintro e w3 ⟨rfl, rfl⟩
    go_wp2_with fail
    refine (HF1.out _).mono ?_; rintro e w3 ⟨rfl, c3⟩
    go_wp2_with fail
    refine (HS2.out _).mono ?_; rintro e w4 ⟨rfl, rfl⟩
    go_wp2_with fail
    refine (HF2.out _).mono ?_; rintro e w4 ⟨rfl, c4⟩
    go_wp2_with fail
    refine (HM.out _).mono ?_; rintro e w5 ⟨rfl, c5⟩
    obtain ⟨H2, HB⟩ := boxes1 (chain (chain c3 c4 (Nat.le_refl _)) c5 (Nat.le_refl _))
    obtain ⟨b0, b1, b2, f0, f1, f2⟩ := H2.get3
    have HB := Lib.hid HB
    have H2 := Lib.hid H2
    clear c3 c4 c5
    go_wp2
    refine bodyPost_forget (fun W => Blk W w.heap.size #[.bool r1, .string r2, .string r3] ∧ Below w.heap.size w W) ⟨by exact Blk.set3 H2.out _ _ _, below_set3 HB.out (by omega) _ _ _⟩ ?_
    rintro WR ⟨hr9, hb9⟩
    obtain ⟨y90, y91, y92, -, -, -⟩ := hr9.get3
    exact bodyPost_ret (v := .tuple #[.agg #[.bool r1, .string r2, .string r3], .bool true]) (by simp [results, Tryz.results43, go_sem, y90, y91, y92]) rfl ⟨rfl, hb9⟩
end Go.Proofs.Ins
