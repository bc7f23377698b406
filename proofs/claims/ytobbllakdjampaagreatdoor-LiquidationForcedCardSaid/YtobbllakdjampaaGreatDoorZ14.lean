/- The walks of insolvencylaw0.FewRats and insolvencylaw31.few. -/
import Derived.Test.YtobbllakdjampaaGreatDoorZ13
import Derived.Test.YtobbllakdjampaaGreatDoorZ7
import Derived.Test.YtobbllakdjampaaGreatDoorZ9
import Derived.Test.YtobbllakdjampaaGreatDoorZ10

set_option linter.unusedSimpArgs false
set_option linter.unusedVariables false
namespace Go.Proofs.Ins
open Go.RowKit

/-- A bound for both of two numbers as they come. -/
theorem sm_two (n1 : Bool) (s1 d1 : ByteArray) (n2 : Bool) (s2 d2 : ByteArray) : Sm (s1.size + d1.size + (s2.size + d2.size) + 1) (rq n1 s1 d1) ∧ Sm (s1.size + d1.size + (s2.size + d2.size) + 1) (rq n2 s2 d2) :=
  ⟨(sm_raw n1 s1 d1).mono (by omega), (sm_raw n2 s2 d2).mono (by omega)⟩

set_option maxRecDepth 100000 in
set_option maxHeartbeats 400000 in
theorem rsign_any (n : Bool) (s d : ByteArray) (w : World) (hs : s.size ≤ 134217728) (hd : d.size ≤ 134217728) :
    Calls Tryz.prog 38 #[.agg #[.bool n, .string s, .string d]] w fun e w' => e = .returned (.int .i64 (sg (rq n s d))) ∧ Below w.heap.size w w' := by
  have HC := Lib.hid (fun w => fix_agg n s d w (by omega) (by omega))
  generalize rq n s d = q at *
  have HS := Lib.hid (fun w => signum_any q w)
  generalize sg q = i at *
  go_enter Tryz.func38, Tryz.ntmps38
  go_wp2_with fail
  refine (HC.out _).mono ?_; rintro e w3 ⟨rfl, hb3⟩
  go_wp2_with fail
  refine (HS.out _).mono ?_; rintro e w4 ⟨rfl, hb4⟩
  obtain ⟨H2, HB⟩ := boxes1 (chain hb3 hb4 (Nat.le_refl _))
  have HB := Lib.hid HB
  clear hb3 hb4
  go_wp2
  go_ret
  exact ⟨rfl, HB.out⟩

set_option maxRecDepth 100000 in
set_option maxHeartbeats 400000 in
theorem rcompare_any (n1 : Bool) (s1 d1 : ByteArray) (n2 : Bool) (s2 d2 : ByteArray) (w : World) (h1 : s1.size + d1.size ≤ 134217720) (h2 : s2.size + d2.size ≤ 134217720) :
    Calls Tryz.prog 20 #[.agg #[.bool n1, .string s1, .string d1], .agg #[.bool n2, .string s2, .string d2]] w fun e w' => e = .returned (.int .i64 (cmpR (rq n1 s1 d1) (rq n2 s2 d2))) ∧ Below w.heap.size w w' := by
  have HC1 := Lib.hid (fun w => fix_agg n1 s1 d1 w (by omega) (by omega))
  have HC2 := Lib.hid (fun w => fix_agg n2 s2 d2 w (by omega) (by omega))
  obtain ⟨m1, m2⟩ := sm_two n1 s1 d1 n2 s2 d2
  have HM := Lib.hid (fun w => rminus_any _ _ _ w m1 m2 (by omega))
  clear m1 m2
  unfold cmpR
  generalize rq n1 s1 d1 = p at *
  generalize rq n2 s2 d2 = q at *
  have HS := Lib.hid (fun w => signum_any (p - q) w)
  generalize p - q = r at *
  generalize sg r = i at *
  generalize rn r = r1 at *
  generalize rs r = r2 at *
  generalize rd r = r3 at *
  generalize rn p = p1 at *
  generalize rs p = p2 at *
  generalize rd p = p3 at *
  generalize rn q = q1 at *
  generalize rs q = q2 at *
  generalize rd q = q3 at *
  go_enter Tryz.func20, Tryz.ntmps20
  go_wp2
  refine wp_forget (fun W => Blk W w.heap.size #[.bool n1, .string s1, .string d1] ∧ Blk W (w.heap.size + 1) #[.bool n2, .string s2, .string d2] ∧ Below w.heap.size w W) (two_boxes w _ _ _ _) ?_
  rintro W ⟨H1, H2, HB⟩
  obtain ⟨k0, k1, k2⟩ := H1.later3
  obtain ⟨k3, k4, k5⟩ := H2.later3
  refine wp_region_qb (by kernel_rfl) (by kernel_rfl) ?_
  repeat (first | go_big_quiet_skip | quiet_step (first | with_reducible exact Calls.later (HC1.out _) | with_reducible exact Calls.later (HC2.out _) | with_reducible exact Calls.later (HM.out _) | with_reducible exact Calls.later (HS.out _)))
  clear k0 k1 k2 k3 k4 k5
  refine wpQuiet_nil ?_
  intro W1 hb1
  have HB := Lib.hid (chain HB hb1 (Nat.le_refl _))
  clear hb1 H1 H2
  go_wp2
  go_ret
  exact ⟨rfl, HB.out⟩

set_option maxRecDepth 100000 in
set_option maxHeartbeats 400000 in
theorem rmin_any (n1 : Bool) (s1 d1 : ByteArray) (n2 : Bool) (s2 d2 : ByteArray) (w : World) (h1 : s1.size + d1.size ≤ 134217720) (h2 : s2.size + d2.size ≤ 134217720) :
    Calls Tryz.prog 21 #[.agg #[.bool n1, .string s1, .string d1], .agg #[.bool n2, .string s2, .string d2]] w fun e w' => e = .returned (rv (lesR (rq n1 s1 d1) (rq n2 s2 d2))) ∧ Below w.heap.size w w' := by
  have HC1 := Lib.hid (fun w => fix_agg n1 s1 d1 w (by omega) (by omega))
  have HC2 := Lib.hid (fun w => fix_agg n2 s2 d2 w (by omega) (by omega))
  obtain ⟨m1, m2⟩ := sm_two n1 s1 d1 n2 s2 d2
  have HM := Lib.hid (fun w => rlesser_any _ _ _ w m1 m2 (by omega))
  clear m1 m2
  unfold rv
  generalize rq n1 s1 d1 = p at *
  generalize rq n2 s2 d2 = q at *
  generalize lesR (p) (q) = r at *
  generalize rn r = r1 at *
  generalize rs r = r2 at *
  generalize rd r = r3 at *
  generalize rn p = p1 at *
  generalize rs p = p2 at *
  generalize rd p = p3 at *
  generalize rn q = q1 at *
  generalize rs q = q2 at *
  generalize rd q = q3 at *
  go_enter Tryz.func21, Tryz.ntmps21
  go_wp2
  refine wp_forget (fun W => Blk W w.heap.size #[.bool n1, .string s1, .string d1] ∧ Blk W (w.heap.size + 1) #[.bool n2, .string s2, .string d2] ∧ Blk W (w.heap.size + 1 + 1) #[.bool false, .string ⟨#[]⟩, .string ⟨#[]⟩] ∧ Below w.heap.size w W) (three_boxes w _ _ _ _ _ _) ?_
  rintro W ⟨H1, H2, H3, HB⟩
  obtain ⟨k0, k1, k2⟩ := H1.later3
  obtain ⟨k3, k4, k5⟩ := H2.later3
  refine wp_region_qbt 5 (by kernel_rfl) (by kernel_rfl) ?_
  simp only [List.take_succ_cons, List.take_zero, List.drop_succ_cons, List.drop_zero]
  repeat (first | go_big_quiet_skip | quiet_step (first | with_reducible exact Calls.later (HC1.out _) | with_reducible exact Calls.later (HC2.out _) | with_reducible exact Calls.later (HM.out _)))
  clear k0 k1 k2 k3 k4 k5
  refine wpQuiet_nil ?_
  intro W1 hb1
  have HB := Lib.hid (chain HB hb1 (Nat.le_refl _))
  have H2 := Lib.hid (H3.on hb1)
  obtain ⟨a0, a1, a2, a3, a4, a5⟩ := H2.out.get3
  clear hb1 H3 H1
  go_wp2
  refine bodyPost_forget (fun W => Blk W (w.heap.size + 1 + 1) #[.bool r1, .string r2, .string r3] ∧ Below w.heap.size w W) ⟨by exact Blk.set3 H2.out _ _ _, below_set3 HB.out (by omega) _ _ _⟩ ?_
  rintro WR ⟨hr9, hb9⟩
  obtain ⟨y90, y91, y92, -, -, -⟩ := hr9.get3
  exact bodyPost_ret (v := .agg #[.bool r1, .string r2, .string r3]) (by simp [results, Tryz.results21, go_sem, y90, y91, y92]) rfl ⟨rfl, hb9⟩


set_option maxRecDepth 100000 in
set_option maxHeartbeats 400000 in
theorem rmultiply_any (n1 : Bool) (s1 d1 : ByteArray) (n2 : Bool) (s2 d2 : ByteArray) (w : World) (h1 : s1.size + d1.size ≤ 134217720) (h2 : s2.size + d2.size ≤ 134217720) :
    Calls Tryz.prog 56 #[.agg #[.bool n1, .string s1, .string d1], .agg #[.bool n2, .string s2, .string d2]] w fun e w' => e = .returned (rv (rq n1 s1 d1 * rq n2 s2 d2)) ∧ Below w.heap.size w w' := by
  have HC1 := Lib.hid (fun w => fix_agg n1 s1 d1 w (by omega) (by omega))
  have HC2 := Lib.hid (fun w => fix_agg n2 s2 d2 w (by omega) (by omega))
  obtain ⟨m1, m2⟩ := sm_two n1 s1 d1 n2 s2 d2
  have HM := Lib.hid (fun w => rtimes_any _ _ _ w m1 m2 (by omega))
  clear m1 m2
  unfold rv
  generalize rq n1 s1 d1 = p at *
  generalize rq n2 s2 d2 = q at *
  generalize p * q = r at *
  generalize rn r = r1 at *
  generalize rs r = r2 at *
  generalize rd r = r3 at *
  generalize rn p = p1 at *
  generalize rs p = p2 at *
  generalize rd p = p3 at *
  generalize rn q = q1 at *
  generalize rs q = q2 at *
  generalize rd q = q3 at *
  go_enter Tryz.func56, Tryz.ntmps56
  go_wp2
  refine wp_forget (fun W => Blk W w.heap.size #[.bool n1, .string s1, .string d1] ∧ Blk W (w.heap.size + 1) #[.bool n2, .string s2, .string d2] ∧ Blk W (w.heap.size + 1 + 1) #[.bool false, .string ⟨#[]⟩, .string ⟨#[]⟩] ∧ Below w.heap.size w W) (three_boxes w _ _ _ _ _ _) ?_
  rintro W ⟨H1, H2, H3, HB⟩
  obtain ⟨k0, k1, k2⟩ := H1.later3
  obtain ⟨k3, k4, k5⟩ := H2.later3
  refine wp_region_qbt 5 (by kernel_rfl) (by kernel_rfl) ?_
  simp only [List.take_succ_cons, List.take_zero, List.drop_succ_cons, List.drop_zero]
  repeat (first | go_big_quiet_skip | quiet_step (first | with_reducible exact Calls.later (HC1.out _) | with_reducible exact Calls.later (HC2.out _) | with_reducible exact Calls.later (HM.out _)))
  clear k0 k1 k2 k3 k4 k5
  refine wpQuiet_nil ?_
  intro W1 hb1
  have HB := Lib.hid (chain HB hb1 (Nat.le_refl _))
  have H2 := Lib.hid (H3.on hb1)
  obtain ⟨a0, a1, a2, a3, a4, a5⟩ := H2.out.get3
  clear hb1 H3 H1
  go_wp2
  refine bodyPost_forget (fun W => Blk W (w.heap.size + 1 + 1) #[.bool r1, .string r2, .string r3] ∧ Below w.heap.size w W) ⟨by exact Blk.set3 H2.out _ _ _, below_set3 HB.out (by omega) _ _ _⟩ ?_
  rintro WR ⟨hr9, hb9⟩
  obtain ⟨y90, y91, y92, -, -, -⟩ := hr9.get3
  exact bodyPost_ret (v := .agg #[.bool r1, .string r2, .string r3]) (by simp [results, Tryz.results56, go_sem, y90, y91, y92]) rfl ⟨rfl, hb9⟩

set_option maxRecDepth 100000 in
set_option maxHeartbeats 400000 in
theorem size_any (i : Int) (w : World) (h1 : -9223372036854775808 ≤ i) (h2 : i ≤ 9223372036854775807) :
    Calls Tryz.prog 74 #[.int .i64 i] w fun e w' => e = .returned (.int .u64 (i.natAbs : Int)) ∧ w = w' := by
  by_cases h : i < 0
  · have e1 : IntKind.u64.wrap (IntKind.u64.wrap (-(i + 1)) + 1) = ((i.natAbs : Nat) : Int) := by
      simp only [IntKind.wrap, IntKind.bits, IntKind.signed]; simp; omega
    have HE := Lib.hid e1
    have h3 : -(i + 1) ≤ 9223372036854775807 := by omega
    have h4 : 0 ≤ -(i + 1) := by omega
    have h5 : -(i + 1) + 1 = (i.natAbs : Int) := by omega
    have HF := Lib.hid h5
    clear h5 e1
    go_enter Tryz.func74, Tryz.ntmps74
    go_wp2
    go_ret
    exact ⟨ret_int (by first | exact HF.out | exact HE.out | omega), rfl⟩
  · have e1 : i = ((i.natAbs : Nat) : Int) := by omega
    have HE := Lib.hid e1
    have h0 : 0 ≤ i := by omega
    clear e1
    go_enter Tryz.func74, Tryz.ntmps74
    go_wp2
    go_ret
    exact ⟨ret_int (by omega), rfl⟩

set_option maxRecDepth 100000 in
set_option maxHeartbeats 400000 in
theorem rint_any (i : Int) (w : World) (h1 : -9223372036854775808 ≤ i) (h2 : i ≤ 9223372036854775807) :
    Calls Tryz.prog 46 #[.int .i64 i] w fun e w' => e = .returned (.agg #[.bool (rn (i : Rat)), .string (rs (i : Rat)), .string (rd (i : Rat))]) ∧ Below w.heap.size w w' := by
  have e1 : rn (i : Rat) = decide (i < 0) := rfl
  have e2 : rs (i : Rat) = bn i.natAbs := rfl
  have e3 : rd (i : Rat) = ⟨#[]⟩ := rfl
  rw [e1, e2, e3]
  have HS := Lib.hid (fun w => size_any i w h1 h2)
  have HF := Lib.hid (fun w => rfromUint_any i.natAbs w (by omega))
  generalize bn i.natAbs = t at *
  generalize (i.natAbs : Int) = j at *
  clear e1 e2 e3
  go_enter Tryz.func46, Tryz.ntmps46
  go_wp2_with fail
  refine (HS.out _).mono ?_; rintro e w3 ⟨rfl, rfl⟩
  go_wp2_with fail
  refine (HF.out _).mono ?_; rintro e w3 ⟨rfl, hb3⟩
  obtain ⟨H2, HB⟩ := boxes1 hb3
  obtain ⟨b0, b1, b2, f0, f1, f2⟩ := H2.get3
  have HB := Lib.hid HB
  have H2 := Lib.hid H2
  clear hb3
  go_wp2
  refine bodyPost_forget (fun W => Blk W (w.heap.size) #[.bool (decide (i < 0)), .string t, .string ⟨#[]⟩] ∧ Below w.heap.size w W) ⟨by exact Blk.set3 H2.out _ _ _, below_set3 HB.out (by omega) _ _ _⟩ ?_
  rintro WR ⟨hr9, hb9⟩
  obtain ⟨y90, y91, y92, -, -, -⟩ := hr9.get3
  exact bodyPost_ret (v := .agg #[.bool (decide (i < 0)), .string t, .string ⟨#[]⟩]) (by simp [results, Tryz.results46, go_sem, y90, y91, y92]) rfl ⟨rfl, hb9⟩
end Go.Proofs.Ins

set_option linter.unusedSimpArgs false
set_option linter.unusedVariables false
namespace Go.Proofs.Ins
open Go.RowKit

set_option maxRecDepth 100000 in
set_option maxHeartbeats 400000 in
theorem rmake_yes (neg : Bool) (a b : ByteArray) (w : World) (ha : a.size ≤ 134217720) (hb : b.size ≤ 134217720) (h0 : 0 < nv b) :
    Calls Tryz.prog 72 #[.bool neg, .string a, .string b] w fun e w' => e = .returned (rvB (fr neg (nv a) (nv b)) true) ∧ Below w.heap.size w w' := by
  have HL := Lib.hid (fun w => rlimbs_any b w (by omega))
  have HA := Lib.hid (fun w => rlimbs_any a w (by omega))
  have ka : nv a < 256 ^ (a.size + b.size) := Nat.lt_of_lt_of_le (nv_lt a) (Nat.pow_le_pow_right (by omega) (by omega))
  have kb : nv b < 256 ^ (a.size + b.size) := Nat.lt_of_lt_of_le (nv_lt b) (Nat.pow_le_pow_right (by omega) (by omega))
  have KA := Lib.hid ka
  have KB := Lib.hid kb
  have HR := Lib.hid (fun w ax lx cx ay ly cy h1 h2 => rreduced_any neg ax ay lx ly cx cy (nv a) (nv b) (a.size + b.size) w h1 h2 h0 ka kb (by omega))
  unfold rvB
  generalize fr neg (nv a) (nv b) = r at *
  generalize rn r = r1 at *
  generalize rs r = r2 at *
  generalize rd r = r3 at *
  generalize nv a = x at *
  generalize nv b = y at *
  clear ka kb
  go_enter Tryz.func72, Tryz.ntmps72
  go_wp2_with fail
  refine (HL.out _).mono ?_; rintro e w3 ⟨ad, ld, cd, rfl, u1, u2, c3, c4⟩
  have hl : ld ≠ 0 := fun e => by have := c3.zero_iff.mpr e; omega
  have hl0 : ((ld : Int) == 0) = false := by simp; omega
  have l3 := RetLimbs.lim (w := w) c3 KB.out (by omega)
  obtain ⟨H2, HB⟩ := boxes1 c4
  have D3 := Lib.hid c3
  have HB3 := Lib.hid HB
  have H3 := Lib.hid H2
  clear c3 c4 H2 HB hl
  go_wp2_with fail
  refine (HA.out _).mono ?_; rintro e w4 ⟨an, ln, cn, rfl, u3, u4, c3, c4⟩
  have l4 := RetLimbs.lim (w := w) c3 KA.out (by omega)
  have N4 := Lib.hid c3
  have D4 := Lib.hid (D3.out.below c4 (Nat.le_refl _))
  have HB4 := Lib.hid (chain HB3.out c4 (Nat.le_refl _))
  have H4 := Lib.hid (H3.out.on c4)
  clear c3 c4 D3 HB3 H3
  go_wp2_with fail
  refine (HR.out _ _ _ _ _ _ _ ⟨u3, u4, by omega, N4.out⟩ ⟨u1, u2, by omega, D4.out⟩).mono ?_; rintro e w5 ⟨rfl, c4⟩
  have HB := Lib.hid (chain HB4.out c4 (Nat.le_refl _))
  have H2 := Lib.hid (H4.out.on c4)
  obtain ⟨b0, b1, b2, f0, f1, f2⟩ := H2.out.get3
  clear c4 D4 N4 HB4 H4
  go_wp2
  refine bodyPost_forget (fun W => Blk W w.heap.size #[.bool r1, .string r2, .string r3] ∧ Below w.heap.size w W) ⟨by exact Blk.set3 H2.out _ _ _, below_set3 HB.out (by omega) _ _ _⟩ ?_
  rintro WR ⟨hr9, hb9⟩
  obtain ⟨y90, y91, y92, -, -, -⟩ := hr9.get3
  exact bodyPost_ret (v := .tuple #[.agg #[.bool r1, .string r2, .string r3], .bool true]) (by simp [results, Tryz.results72, go_sem, y90, y91, y92]) rfl ⟨rfl, hb9⟩

theorem fr_ratio (i j : Int) (hj : 0 < j) : fr (!(decide (i < 0) == decide (j < 0))) i.natAbs j.natAbs = (i : Rat) / (j : Rat) := by
  have hj0 : (j : Rat) ≠ 0 := by
    intro e
    have : j = 0 := by exact_mod_cast e
    omega
  rw [fr_div hj0]
  have e1 : rn (i : Rat) = decide (i < 0) := rfl
  have e2 : rn (j : Rat) = decide (j < 0) := rfl
  have e3 : nm (i : Rat) = i.natAbs := rfl
  have e4 : nm (j : Rat) = j.natAbs := rfl
  have e5 : (i : Rat).den = 1 := rfl
  have e6 : (j : Rat).den = 1 := rfl
  rw [e1, e2, e3, e4, e5, e6, Nat.mul_one, Nat.one_mul]
  rfl

set_option maxRecDepth 100000 in
set_option maxHeartbeats 400000 in
theorem rfraction_any (i j : Int) (w : World) (h1 : -9223372036854775808 ≤ i) (h2 : i ≤ 9223372036854775807) (h3 : 0 < j) (h4 : j ≤ 9223372036854775807) :
    Calls Tryz.prog 43 #[.int .i64 i, .int .i64 j] w fun e w' => e = .returned (rvB ((i : Rat) / (j : Rat)) true) ∧ Below w.heap.size w w' := by
  have hs1 : (bn i.natAbs).size ≤ 8 := bn_size_le (by omega)
  have hs2 : (bn j.natAbs).size ≤ 8 := bn_size_le (by omega)
  have hM : ∀ w, Calls Tryz.prog 72 #[.bool (!(decide (i < 0) == decide (j < 0))), .string (bn i.natAbs), .string (bn j.natAbs)] w fun e w' => e = .returned (rvB ((i : Rat) / (j : Rat)) true) ∧ Below w.heap.size w w' := fun w => by
    have := rmake_yes (!(decide (i < 0) == decide (j < 0))) (bn i.natAbs) (bn j.natAbs) w (by omega) (by omega) (by rw [nv_bn]; omega)
    rw [nv_bn, nv_bn, fr_ratio i j h3] at this
    exact this
  have hj : decide (j < 0) = false := by simp; omega
  rw [hj] at hM
  have HS1 := Lib.hid (fun w => size_any i w h1 h2)
  have HS2 := Lib.hid (fun w => size_any j w (by omega) h4)
  have HF1 := Lib.hid (fun w => rfromUint_any i.natAbs w (by omega))
  have HF2 := Lib.hid (fun w => rfromUint_any j.natAbs w (by omega))
  have HM := Lib.hid hM
  unfold rvB at *
  generalize (i : Rat) / (j : Rat) = r at *
  generalize rn r = r1 at *
  generalize rs r = r2 at *
  generalize rd r = r3 at *
  generalize bn i.natAbs = t1 at *
  generalize bn j.natAbs = t2 at *
  generalize (i.natAbs : Int) = z1 at *
  generalize (j.natAbs : Int) = z2 at *
  clear hM
  have hnn : (!(decide (i < 0) == false)) = decide (i < 0) := by cases decide (i < 0) <;> rfl
  rw [hnn] at HM
  clear hnn
  by_cases hi : i < 0
  · rw [decide_eq_true hi] at HM
    as_aux_lemma =>
    go_enter Tryz.func43, Tryz.ntmps43
    go_wp2_with fail
    refine (HS1.out _).mono ?_; rintro e w3 ⟨rfl, rfl⟩
    go_wp2_with fail
    refine (HF1.out _).mono ?_; rintro e w3 ⟨rfl, c3⟩
    go_wp2_with fail
    refine (HS2.out _).mono ?_; rintro e w4 ⟨rfl, rfl⟩
    go_wp2_with fail
    refine (HF2.out _).mono ?_; rintro e w4 ⟨rfl, c4⟩
    go_wp2_with fail
    refine (HM.out _).mono ?_; rintro e w5 ⟨rfl, c5⟩
    obtain ⟨H2, HB⟩ := boxes1 (chain (chain c3 c4 (Nat.le_refl _)) c5 (Nat.le_refl _))
    obtain ⟨b0, b1, b2, f0, f1, f2⟩ := H2.get3
    have HB := Lib.hid HB
    have H2 := Lib.hid H2
    clear c3 c4 c5
    go_wp2
    refine bodyPost_forget (fun W => Blk W w.heap.size #[.bool r1, .string r2, .string r3] ∧ Below w.heap.size w W) ⟨by exact Blk.set3 H2.out _ _ _, below_set3 HB.out (by omega) _ _ _⟩ ?_
    rintro WR ⟨hr9, hb9⟩
    obtain ⟨y90, y91, y92, -, -, -⟩ := hr9.get3
    exact bodyPost_ret (v := .tuple #[.agg #[.bool r1, .string r2, .string r3], .bool true]) (by simp [results, Tryz.results43, go_sem, y90, y91, y92]) rfl ⟨rfl, hb9⟩
  · have hi3 := hi
    have hi2 : 0 ≤ i := by omega
    clear hi hi3
    as_aux_lemma =>
    go_enter Tryz.func43, Tryz.ntmps43
    go_wp2_with fail
    refine (HS1.out _).mono ?_; rintro e w3 ⟨rfl, rfl⟩
    go_wp2_with fail
    refine (HF1.out _).mono ?_; rintro e w3 ⟨rfl, c3⟩
    go_wp2_with fail
    refine (HS2.out _).mono ?_; rintro e w4 ⟨rfl, rfl⟩
    go_wp2_with fail
    refine (HF2.out _).mono ?_; rintro e w4 ⟨rfl, c4⟩
    go_wp2_with fail
    refine (HM.out _).mono ?_; rintro e w5 ⟨rfl, c5⟩
    obtain ⟨H2, HB⟩ := boxes1 (chain (chain c3 c4 (Nat.le_refl _)) c5 (Nat.le_refl _))
    obtain ⟨b0, b1, b2, f0, f1, f2⟩ := H2.get3
    have HB := Lib.hid HB
    have H2 := Lib.hid H2
    clear c3 c4 c5
    go_wp2
    refine bodyPost_forget (fun W => Blk W w.heap.size #[.bool r1, .string r2, .string r3] ∧ Below w.heap.size w W) ⟨by exact Blk.set3 H2.out _ _ _, below_set3 HB.out (by omega) _ _ _⟩ ?_
    rintro WR ⟨hr9, hb9⟩
    obtain ⟨y90, y91, y92, -, -, -⟩ := hr9.get3
    exact bodyPost_ret (v := .tuple #[.agg #[.bool r1, .string r2, .string r3], .bool true]) (by simp [results, Tryz.results43, go_sem, y90, y91, y92]) rfl ⟨rfl, hb9⟩
end Go.Proofs.Ins

set_option linter.unusedSimpArgs false
set_option linter.unusedVariables false
namespace Go.Proofs.Ins
open Go.RowKit

set_option maxRecDepth 100000 in
set_option maxHeartbeats 400000 in
theorem ratio_any (i j : Int) (w : World) (h1 : -9223372036854775808 ≤ i) (h2 : i ≤ 9223372036854775807) (h3 : 0 < j) (h4 : j ≤ 9223372036854775807) :
    Calls Tryz.prog 16 #[.int .i64 i, .int .i64 j] w fun e w' => e = .returned (.agg #[.bool (rn ((i : Rat) / (j : Rat))), .string (rs ((i : Rat) / (j : Rat))), .string (rd ((i : Rat) / (j : Rat)))]) ∧ Below w.heap.size w w' := by
  have HF := Lib.hid (fun w => rfraction_any i j w h1 h2 h3 h4)
  unfold rvB at HF
  generalize (i : Rat) / (j : Rat) = r at *
  generalize rn r = r1 at *
  generalize rs r = r2 at *
  generalize rd r = r3 at *
  go_enter Tryz.func16, Tryz.ntmps16
  go_wp2_with fail
  refine (HF.out _).mono ?_; rintro e w3 ⟨rfl, hb3⟩
  obtain ⟨H2, HB⟩ := boxes1 hb3
  have z := H2.lt
  obtain ⟨b0, b1, b2, f0, f1, f2⟩ := H2.get3
  have HB := Lib.hid HB
  have H2 := Lib.hid H2
  clear hb3
  have q9 := below_set3 HB.out (Nat.le_refl _) (.bool r1) (.string r2) (.string r3)
  go_wp2
  refine bodyPost_forget (fun W => Blk W w.heap.size #[.bool r1, .string r2, .string r3] ∧ Below w.heap.size w W) ⟨by exact (Blk.set3 H2.out _ _ _).alloc _, by exact q9.alloc q9.size _⟩ ?_
  rintro WR ⟨hr9, hb9⟩
  obtain ⟨y90, y91, y92, -, -, -⟩ := hr9.get3
  exact bodyPost_ret (v := .agg #[.bool r1, .string r2, .string r3]) (by simp [results, Tryz.results16, go_sem, y90, y91, y92]) rfl ⟨rfl, hb9⟩

set_option maxRecDepth 100000 in
set_option maxHeartbeats 400000 in
theorem whole_any (i : Int) (w : World) (h1 : -9223372036854775808 ≤ i) (h2 : i ≤ 9223372036854775807) :
    Calls Tryz.prog 19 #[.int .i64 i] w fun e w' => e = .returned (.agg #[.bool (rn (i : Rat)), .string (rs (i : Rat)), .string (rd (i : Rat))]) ∧ Below w.heap.size w w' := by
  have HF := Lib.hid (fun w => rint_any i w h1 h2)
  generalize (i : Rat) = r at *
  generalize rn r = r1 at *
  generalize rs r = r2 at *
  generalize rd r = r3 at *
  go_enter Tryz.func19, Tryz.ntmps19
  go_wp2_with fail
  refine (HF.out _).mono ?_; rintro e w3 ⟨rfl, hb3⟩
  obtain ⟨H2, HB⟩ := boxes1 hb3
  obtain ⟨b0, b1, b2, f0, f1, f2⟩ := H2.get3
  have HB := Lib.hid HB
  have H2 := Lib.hid H2
  clear hb3
  go_wp2
  refine bodyPost_forget (fun W => Blk W (w.heap.size) #[.bool r1, .string r2, .string r3] ∧ Below w.heap.size w W) ⟨by exact Blk.set3 H2.out _ _ _, below_set3 HB.out (by omega) _ _ _⟩ ?_
  rintro WR ⟨hr9, hb9⟩
  obtain ⟨y90, y91, y92, -, -, -⟩ := hr9.get3
  exact bodyPost_ret (v := .agg #[.bool r1, .string r2, .string r3]) (by simp [results, Tryz.results19, go_sem, y90, y91, y92]) rfl ⟨rfl, hb9⟩

/-- What Amount gives. -/
def amt (x : Nat) : Rat := if x % 5 = 0 then (((x / 5 % 23 : Nat) : Int) : Rat) / (((1 + x / 115 % 6 : Nat) : Int) : Rat) else if x % 5 = 1 then (((10 * (x / 5 % 4) : Nat) : Int) : Rat) else (((x / 5 % 13 : Nat) : Int) : Rat)

theorem amt_0 {x : Nat} (h : x % 5 = 0) : amt x = (((x / 5 % 23 : Nat) : Int) : Rat) / (((1 + x / 115 % 6 : Nat) : Int) : Rat) := by unfold amt; rw [if_pos h]
theorem amt_1 {x : Nat} (h : x % 5 = 1) : amt x = (((10 * (x / 5 % 4) : Nat) : Int) : Rat) := by unfold amt; rw [if_neg (by omega), if_pos h]
theorem amt_2 {x : Nat} (h : ¬ x % 5 = 0) (h1 : ¬ x % 5 = 1) : amt x = (((x / 5 % 13 : Nat) : Int) : Rat) := by unfold amt; rw [if_neg h, if_neg h1]

set_option maxRecDepth 100000 in
set_option maxHeartbeats 400000 in
theorem amount_any (x : Nat) (w : World) (hx : x ≤ 65535) :
    Calls Tryz.prog 27 #[.int .u16 (x : Int)] w fun e w' => e = .returned (.agg #[.bool (rn (amt x)), .string (rs (amt x)), .string (rd (amt x))]) ∧ Below w.heap.size w w' := by
  by_cases h : x % 5 = 0
  · have hF := fun w => ratio_any ((x / 5 % 23 : Nat) : Int) ((1 + x / 115 % 6 : Nat) : Int) w (by omega) (by omega) (by omega) (by omega)
    rw [← amt_0 h, show ((x / 5 % 23 : Nat) : Int) = (x : Int) / 5 % 23 by omega, show ((1 + x / 115 % 6 : Nat) : Int) = 1 + (x : Int) / 115 % 6 by omega] at hF
    have HF := Lib.hid hF
    generalize amt x = r at *
    generalize rn r = r1 at *
    generalize rs r = r2 at *
    generalize rd r = r3 at *
    clear hF
    go_enter Tryz.func27, Tryz.ntmps27
    go_wp2_with fail
    refine (HF.out _).mono ?_; rintro e w3 ⟨rfl, hb3⟩
    obtain ⟨H2, HB⟩ := boxes1 hb3
    obtain ⟨b0, b1, b2, f0, f1, f2⟩ := H2.get3
    have HB := Lib.hid HB
    have H2 := Lib.hid H2
    clear hb3
    go_wp2
    refine bodyPost_forget (fun W => Blk W (w.heap.size) #[.bool r1, .string r2, .string r3] ∧ Below w.heap.size w W) ⟨by exact Blk.set3 H2.out _ _ _, below_set3 HB.out (by omega) _ _ _⟩ ?_
    rintro WR ⟨hr9, hb9⟩
    obtain ⟨y90, y91, y92, -, -, -⟩ := hr9.get3
    exact bodyPost_ret (v := .agg #[.bool r1, .string r2, .string r3]) (by simp [results, Tryz.results27, go_sem, y90, y91, y92]) rfl ⟨rfl, hb9⟩
  · by_cases h1 : x % 5 = 1
    · have hF := fun w => whole_any ((10 * (x / 5 % 4) : Nat) : Int) w (by omega) (by omega)
      rw [← amt_1 h1, show ((10 * (x / 5 % 4) : Nat) : Int) = 10 * ((x : Int) / 5 % 4) by omega] at hF
      have HF := Lib.hid hF
      generalize amt x = r at *
      generalize rn r = r1 at *
      generalize rs r = r2 at *
      generalize rd r = r3 at *
      clear hF
      go_enter Tryz.func27, Tryz.ntmps27
      go_wp2_with fail
      refine (HF.out _).mono ?_; rintro e w3 ⟨rfl, hb3⟩
      obtain ⟨H2, HB⟩ := boxes1 hb3
      obtain ⟨b0, b1, b2, f0, f1, f2⟩ := H2.get3
      have HB := Lib.hid HB
      have H2 := Lib.hid H2
      clear hb3
      go_wp2
      refine bodyPost_forget (fun W => Blk W (w.heap.size) #[.bool r1, .string r2, .string r3] ∧ Below w.heap.size w W) ⟨by exact Blk.set3 H2.out _ _ _, below_set3 HB.out (by omega) _ _ _⟩ ?_
      rintro WR ⟨hr9, hb9⟩
      obtain ⟨y90, y91, y92, -, -, -⟩ := hr9.get3
      exact bodyPost_ret (v := .agg #[.bool r1, .string r2, .string r3]) (by simp [results, Tryz.results27, go_sem, y90, y91, y92]) rfl ⟨rfl, hb9⟩
    · have hF := fun w => whole_any ((x / 5 % 13 : Nat) : Int) w (by omega) (by omega)
      rw [← amt_2 h h1, show ((x / 5 % 13 : Nat) : Int) = (x : Int) / 5 % 13 by omega] at hF
      have HF := Lib.hid hF
      have h3 : ((x : Int) % 5 == 0) = false := by simp; omega
      have h4 : ((x : Int) % 5 == 1) = false := by simp; omega
      generalize amt x = r at *
      generalize rn r = r1 at *
      generalize rs r = r2 at *
      generalize rd r = r3 at *
      clear hF
      go_enter Tryz.func27, Tryz.ntmps27
      go_wp2_with fail
      refine (HF.out _).mono ?_; rintro e w3 ⟨rfl, hb3⟩
      obtain ⟨H2, HB⟩ := boxes1 hb3
      obtain ⟨b0, b1, b2, f0, f1, f2⟩ := H2.get3
      have HB := Lib.hid HB
      have H2 := Lib.hid H2
      clear hb3
      go_wp2
      refine bodyPost_forget (fun W => Blk W (w.heap.size) #[.bool r1, .string r2, .string r3] ∧ Below w.heap.size w W) ⟨by exact Blk.set3 H2.out _ _ _, below_set3 HB.out (by omega) _ _ _⟩ ?_
      rintro WR ⟨hr9, hb9⟩
      obtain ⟨y90, y91, y92, -, -, -⟩ := hr9.get3
      exact bodyPost_ret (v := .agg #[.bool r1, .string r2, .string r3]) (by simp [results, Tryz.results27, go_sem, y90, y91, y92]) rfl ⟨rfl, hb9⟩

set_option maxRecDepth 100000 in
set_option maxHeartbeats 400000 in
theorem few_any (n : Bool) (s d : ByteArray) (w : World) (hs : s.size ≤ 140737488351232) (hd : d.size ≤ 140737488351232) :
    Calls Tryz.prog 14 #[.agg #[.bool n, .string s, .string d]] w fun e w' => e = .returned (.bool (decide (s.size ≤ 24 ∧ d.size ≤ 24))) ∧ Below w.heap.size w w' := by
  by_cases h : s.size ≤ 24
  · by_cases h1 : d.size ≤ 24
    · rw [decide_eq_true ⟨h, h1⟩]
      have h3 : decide ((d.size : Int) ≤ 24) = true := by simp; omega
      go_enter Tryz.func14, Tryz.ntmps14
      go_wp2
      go_ret
      exact ⟨rfl, (Below.refl _ _).alloc (Nat.le_refl _) _⟩
    · rw [decide_eq_false (fun e => h1 e.2)]
      have h2 : decide (d.size ≤ 24) = false := decide_eq_false h1
      have h3 : decide ((d.size : Int) ≤ 24) = false := by simp; omega
      go_enter Tryz.func14, Tryz.ntmps14
      go_wp2
      go_ret
      exact ⟨rfl, (Below.refl _ _).alloc (Nat.le_refl _) _⟩
  · rw [decide_eq_false (fun e => h e.1)]
    have h2 : decide (s.size ≤ 24) = false := decide_eq_false h
    have h3 : decide ((s.size : Int) ≤ 24) = false := by simp; omega
    go_enter Tryz.func14, Tryz.ntmps14
    go_wp2
    go_ret
    exact ⟨rfl, (Below.refl _ _).alloc (Nat.le_refl _) _⟩
end Go.Proofs.Ins

set_option linter.unusedSimpArgs false
set_option linter.unusedVariables false
namespace Go.Proofs.Ins
open Go.RowKit

/-- n elements of sz cells each, from a place on. -/
def SReads (w : World) (b off sz n : Nat) (F : Nat → List Value) : Prop := ∀ i j, i < n → j < sz → w.cell? ⟨b, off + i * sz + j, none⟩ = (F i)[j]?

theorem SReads.lt {w : World} {b off sz n : Nat} {F : Nat → List Value} (h : SReads w b off sz n F) (hF : ∀ i, i < n → (F i).length = sz) (hn : 0 < n) (hs : 0 < sz) : b < w.heap.size := by
  have h1 := h 0 0 hn hs
  have h2 := hF 0 hn
  rw [List.getElem?_eq_getElem (by omega)] at h1
  exact block_lt_of_cell h1

theorem SReads.below {w w' : World} {b off sz n B : Nat} {F : Nat → List Value} (h : SReads w b off sz n F) (hb : Below B w w') (hB : b < B) : SReads w' b off sz n F := fun i j hi hj => by
  rw [World.cell?_of_block (w := w) (a := ⟨b, off + i * sz + j, none⟩) (hb.block b hB)]; exact h i j hi hj

/-- What a slice value of n such elements is. -/
def SArg (w : World) (a : Option Addr) (n sz : Nat) (F : Nat → List Value) : Prop := n = 0 ∨ ∃ b off, a = some ⟨b, off, none⟩ ∧ b < w.heap.size ∧ SReads w b off sz n F

theorem SArg.on {w w' : World} {a : Option Addr} {n sz : Nat} {F : Nat → List Value} (h : SArg w a n sz F) (hb : Below w.heap.size w w') : SArg w' a n sz F := by
  rcases h with h | ⟨b, off, ha, hl, hr⟩
  · exact .inl h
  · exact .inr ⟨b, off, ha, Nat.lt_of_lt_of_le hl hb.size, hr.below hb hl⟩

/-- A slice of the call's own, of structs. -/
def SOwn (w : World) (base : Nat) (T : TypeId) (sz : Nat) (v : Value) (n : Nat) (F : Nat → List Value) : Prop :=
  w.ownsRow base T sz v n ((List.range n).flatMap F) ∧ ∀ i, i < n → (F i).length = sz

theorem SOwn.nil (w : World) (base : Nat) (T : TypeId) (sz : Nat) (F : Nat → List Value) : SOwn w base T sz (.slice none 0 0) 0 F := ⟨⟨by simp, .inl ⟨rfl, rfl⟩⟩, fun i hi => by omega⟩

theorem SOwn.below {w w' : World} {base B : Nat} {T : TypeId} {sz : Nat} {v : Value} {n : Nat} {F : Nat → List Value} (h : SOwn w base T sz v n F) (hb : Below B w w') (hB : w.heap.size ≤ B) : SOwn w' base T sz v n F := by
  obtain ⟨⟨h1, h2⟩, h3⟩ := h
  refine ⟨⟨h1, ?_⟩, h3⟩
  rcases h2 with h2 | ⟨g, cap, cur, rfl, hb2, hg, hn, hm, hs, ht⟩
  · exact .inl h2
  · exact .inr ⟨g, cap, cur, rfl, hb2, (hb.block g (Nat.lt_of_lt_of_le (Array.getElem?_eq_some_iff.mp hg).1 hB)).trans hg, hn, hm, hs, ht⟩

theorem flatMap_get {F : Nat → List Value} {sz : Nat} : ∀ (n : Nat), (∀ i, i < n → (F i).length = sz) → ∀ i j, i < n → j < sz → ((List.range n).flatMap F)[i * sz + j]? = (F i)[j]?
  | 0, _, i, j, hi, _ => by omega
  | n + 1, hF, i, j, hi, hj => by
    rw [List.range_succ, List.flatMap_append]
    have hlen : ((List.range n).flatMap F).length = n * sz := by
      clear hi
      induction n with
      | zero => simp
      | succ n ih =>
        rw [List.range_succ, List.flatMap_append, List.length_append, ih (fun i hi => hF i (by omega))]
        simp [hF n (by omega), Nat.succ_mul]
    by_cases h : i < n
    · have h4 : i * sz + j < n * sz := by
        have := Nat.mul_le_mul_right sz (show i + 1 ≤ n by omega)
        rw [Nat.succ_mul] at this; omega
      rw [List.getElem?_append_left (by omega)]
      exact flatMap_get n (fun i hi => hF i (by omega)) i j h hj
    · obtain rfl : i = n := by omega
      rw [List.getElem?_append_right (by omega), hlen, show i * sz + j - i * sz = j by omega]
      simp

theorem SOwn.form {w : World} {base : Nat} {T : TypeId} {sz : Nat} {v : Value} {n : Nat} {F : Nat → List Value} (h : SOwn w base T sz v n F) :
    (v = .slice none 0 0 ∧ n = 0) ∨ ∃ g cap, v = .slice (some ⟨g, 0, none⟩) n cap ∧ base ≤ g ∧ n ≤ cap ∧ cap ≤ 9223372036854775807 ∧ g < w.heap.size ∧ SReads w g 0 sz n F := by
  obtain ⟨h0, h3⟩ := h
  obtain ⟨h1, h2⟩ := h0
  rcases h2 with h2 | ⟨g, cap, cur, rfl, hb, hg, hn, hm, hs, ht⟩
  · exact .inl h2
  · refine .inr ⟨g, cap, rfl, hb, hn, hm, (Array.getElem?_eq_some_iff.mp hg).1, fun i j hi hj => ?_⟩
    have hlt : i * sz + j < n * sz := by
      have := Nat.mul_le_mul_right sz (show i + 1 ≤ n by omega)
      rw [Nat.succ_mul] at this; omega
    have := World.ownsRow.cellAt ⟨h1, .inr ⟨g, cap, cur, rfl, hb, hg, hn, hm, hs, ht⟩⟩ (i * sz + j) hlt
    rw [Nat.zero_add, this]
    exact flatMap_get n h3 i j hi hj

/-- The value, as an argument. -/
theorem SOwn.arg {w : World} {base : Nat} {T : TypeId} {sz : Nat} {v : Value} {n : Nat} {F : Nat → List Value} (h : SOwn w base T sz v n F) :
    ∃ a cap, v = .slice a n cap ∧ n ≤ cap ∧ cap ≤ 9223372036854775807 ∧ SArg w a n sz F := by
  rcases h.form with ⟨rfl, rfl⟩ | ⟨g, cap, rfl, hb, hn, hm, hl, hr⟩
  · exact ⟨none, 0, rfl, Nat.le_refl _, by omega, .inl rfl⟩
  · exact ⟨_, cap, rfl, hn, hm, .inr ⟨g, 0, rfl, hl, hr⟩⟩

theorem below_grownS {base sz : Nat} {w w' : World} {T : TypeId} {v : Value} {n : Nat} {xs : List Value} (h : w.ownsRow base T sz v n xs) (hg : w.grownBy w' v.ownBlock) (hb : base ≤ w.heap.size) : Below base w w' := by
  refine (Below.refl _ _).grown hg hb ?_
  intro k hk
  rcases h.2 with ⟨rfl, _⟩ | ⟨g, cap, cur, rfl, hb2, _⟩
  · cases hk
  · have : g = k := Option.some.inj hk
    omega

theorem info_sz {P : Program} {T : TypeId} {sz bytes : Nat} (h : (P.info? T).map (fun i => (i.zero.map (fun z => z.cells.size), i.size, i.bytes)) = some (some sz, sz, bytes)) :
    ∃ i z, P.info? T = some i ∧ i.zero = some z ∧ z.cells.size = sz ∧ i.size = sz ∧ i.bytes = bytes := by
  cases hi : P.info? T with
  | none => rw [hi] at h; cases h
  | some i =>
    rw [hi] at h
    simp only [Option.map_some, Option.some.injEq, Prod.mk.injEq] at h
    obtain ⟨h1, h2, h3⟩ := h
    cases hz : i.zero with
    | none => rw [hz] at h1; cases h1
    | some z =>
      rw [hz] at h1
      exact ⟨i, z, rfl, hz, Option.some.inj h1, h2, h3⟩

/-- 'append(s, x)' for an element of sz cells, laid into a new block just before. -/
theorem wp_appendS {P : Program} {w : World} {o : Oper} {a : Act} {K : Act → World → Prop} {Q : Exit → Act → World → Prop}
    (s x : Operand) (t T : TypeId) (sz bytes : Nat) (base : Nat) (v : Value) (n : Nat) (F : Nat → List Value) (E : List Value)
    (hop : o.op = .call { callee := .builtin .append, args := #[s, x], argTypes := #[t, t] })
    (h1 : P.underlying t = some (.slice T)) (h2 : (P.info? T).map (fun i => (i.zero.map (fun z => z.cells.size), i.size, i.bytes)) = some (some sz, sz, bytes)) (hsz : 0 < sz)
    (hs : a.eval s = v) (hE : E.length = sz) (h1c : ∀ u ∈ E, u.oneCell' = true) (hx : a.eval x = .slice (some ⟨w.heap.size, 0, none⟩) 1 1) (hown : SOwn w base T sz v n F) (hn : (n + 1) * bytes ≤ 140737488355328) (hn2 : n + 1 ≤ 4294967296) (hbase : base ≤ w.heap.size)
    (h : ∀ v' w', SOwn w' base T sz v' (n + 1) (fun j => if j < n then F j else E) → Below base w w' → K (a.put o.dst v') w') :
    o.wp P a (w.alloc (.cells E.toArray T)) K Q := by
  obtain ⟨i, z, hi, hz, hzs, hsize, hbb⟩ := info_sz h2
  refine wp_append_own _ s x t hop base T i z sz bytes h1 hi hz hsize hbb hzs hsz v n _ hs (World.ownsRow.alloc hown.1 _) ⟨w.heap.size, 0, none⟩ 1 1 E hx (by rw [hE, Nat.one_mul]) ?_ h1c (by unfold maxLen; omega) hn (by simp; omega) ?_
  · intro j u hj
    have e : (⟨w.heap.size, 0, none⟩ : Addr).add j = ⟨w.heap.size, j, none⟩ := by unfold Addr.add; split <;> simp_all
    rw [e, cell_of_row _ _ _ _ _ (0, 0) (heap_alloc_new w _)]
    simpa using hj
  · intro v' w' ho hgr _
    have hbl : Below base w w' := ((Below.refl _ _).alloc hbase _).trans (below_grownS (World.ownsRow.alloc hown.1 _) hgr (by simp; omega))
    refine h v' w' ⟨?_, fun i hi => ?_⟩ hbl
    · have e : (List.range n).flatMap F ++ E = (List.range (n + 1)).flatMap (fun j => if j < n then F j else E) := by
        rw [List.range_succ, List.flatMap_append]
        congr 1
        · have hc : ∀ (m : Nat), m ≤ n → (List.range m).flatMap F = (List.range m).flatMap (fun j => if j < n then F j else E) := by
            intro m
            induction m with
            | zero => intro _; rfl
            | succ m ih =>
              intro hm
              rw [List.range_succ, List.flatMap_append, List.flatMap_append, ih (by omega)]
              simp [show m < n by omega]
          exact hc n (Nat.le_refl _)
        · simp
      rw [← e]; exact ho
    · by_cases h : i < n
      · simp only [h, if_true]; exact hown.2 i h
      · simp only [h, if_false]; exact hE

theorem wpList_appendS {P : Program} {w : World} {ops : Array Oper} {rest : List Oper} {o : Oper} {a : Act} {Q : Exit → Act → World → Prop}
    (s x : Operand) (t T : TypeId) (sz bytes : Nat) (base : Nat) (v : Value) (n : Nat) (F : Nat → List Value) (E : List Value)
    (hg : o.guard = none) (hop : o.op = .call { callee := .builtin .append, args := #[s, x], argTypes := #[t, t] })
    (h1 : P.underlying t = some (.slice T)) (h2 : (P.info? T).map (fun i => (i.zero.map (fun z => z.cells.size), i.size, i.bytes)) = some (some sz, sz, bytes)) (hsz : 0 < sz)
    (hs : a.eval s = v) (hE : E.length = sz) (h1c : ∀ u ∈ E, u.oneCell' = true) (hx : a.eval x = .slice (some ⟨w.heap.size, 0, none⟩) 1 1) (hown : SOwn w base T sz v n F) (hn : (n + 1) * bytes ≤ 140737488355328) (hn2 : n + 1 ≤ 4294967296) (hbase : base ≤ w.heap.size)
    (h : ∀ v' w', SOwn w' base T sz v' (n + 1) (fun j => if j < n then F j else E) → Below base w w' → wpList P ops Q rest (a.put o.dst v') w') :
    wpList P ops Q (o :: rest) a (w.alloc (.cells E.toArray T)) :=
  wpList_plain hg fun _ hK => wp_appendS s x t T sz bytes base v n F E hop h1 h2 hsz hs hE h1c hx hown hn hn2 hbase fun v' w' ho hb => hK _ _ (h v' w' ho hb)

theorem SOwn.congr {w : World} {base : Nat} {T : TypeId} {sz : Nat} {v : Value} {n : Nat} {F G : Nat → List Value} (h : SOwn w base T sz v n F) (hg : ∀ i, i < n → F i = G i) : SOwn w base T sz v n G := by
  obtain ⟨h1, h2⟩ := h
  refine ⟨?_, fun i hi => by rw [← hg i hi]; exact h2 i hi⟩
  have hc : ∀ (m : Nat), m ≤ n → (List.range m).flatMap F = (List.range m).flatMap G := by
    intro m
    induction m with
    | zero => intro _; rfl
    | succ m ih =>
      intro hm
      rw [List.range_succ, List.flatMap_append, List.flatMap_append, ih (by omega)]
      simp [hg m (by omega)]
  rw [← hc n (Nat.le_refl _)]; exact h1
end Go.Proofs.Ins

set_option linter.unusedSimpArgs false
set_option linter.unusedVariables false
namespace Go.Proofs.Ins
open Go.RowKit

/-- A number as it comes: three fields, valid or not. -/
structure R3 where
  n : Bool
  s : ByteArray
  d : ByteArray
instance : Inhabited R3 := ⟨⟨false, ⟨#[]⟩, ⟨#[]⟩⟩⟩
def R3.c (r : R3) : List Value := [.bool r.n, .string r.s, .string r.d]
def R3.q (r : R3) : Rat := rq r.n r.s r.d
def R3.small (r : R3) : Prop := r.s.size ≤ 24 ∧ r.d.size ≤ 24
instance (r : R3) : Decidable r.small := by unfold R3.small; infer_instance
def R3.fits (r : R3) (k : Nat) : Prop := r.s.size ≤ k ∧ r.d.size ≤ k
def ofQ (q : Rat) : R3 := ⟨rn q, rs q, rd q⟩
theorem ofQ_q (q : Rat) : (ofQ q).q = q := rq_of q
theorem ofQ_fits {q : Rat} {k : Nat} (h : Sm k q) : (ofQ q).fits k := ⟨h.rs, h.rd⟩
/-- A voter as it comes. -/
structure V8 where
  p : Int
  a : R3
  k : R3
  x : Bool
instance : Inhabited V8 := ⟨⟨0, default, default, false⟩⟩
def V8.c (v : V8) : List Value := [.int .i64 v.p, .bool v.a.n, .string v.a.s, .string v.a.d, .bool v.k.n, .string v.k.s, .string v.k.d, .bool v.x]
/-- The three cells of element i. -/
theorem SReads.r3 {w : World} {b off n : Nat} {Q : Nat → R3} (h : SReads w b off 3 n fun i => (Q i).c) {i : Nat} (hi : i < n) :
    w.cell? ⟨b, off + i * 3, none⟩ = some (.bool (Q i).n) ∧ w.cell? ⟨b, off + i * 3 + 1, none⟩ = some (.string (Q i).s) ∧ w.cell? ⟨b, off + i * 3 + 2, none⟩ = some (.string (Q i).d) :=
  ⟨h i 0 hi (by omega), h i 1 hi (by omega), h i 2 hi (by omega)⟩

/-- The eight cells of element i. -/
theorem SReads.v8 {w : World} {b off n : Nat} {V : Nat → V8} (h : SReads w b off 8 n fun i => (V i).c) {i : Nat} (hi : i < n) :
    w.cell? ⟨b, off + i * 8, none⟩ = some (.int .i64 (V i).p) ∧ w.cell? ⟨b, off + i * 8 + 1, none⟩ = some (.bool (V i).a.n) ∧ w.cell? ⟨b, off + i * 8 + 2, none⟩ = some (.string (V i).a.s) ∧ w.cell? ⟨b, off + i * 8 + 3, none⟩ = some (.string (V i).a.d) ∧
    w.cell? ⟨b, off + i * 8 + 4, none⟩ = some (.bool (V i).k.n) ∧ w.cell? ⟨b, off + i * 8 + 5, none⟩ = some (.string (V i).k.s) ∧ w.cell? ⟨b, off + i * 8 + 6, none⟩ = some (.string (V i).k.d) ∧ w.cell? ⟨b, off + i * 8 + 7, none⟩ = some (.bool (V i).x) :=
  ⟨h i 0 hi (by omega), h i 1 hi (by omega), h i 2 hi (by omega), h i 3 hi (by omega), h i 4 hi (by omega), h i 5 hi (by omega), h i 6 hi (by omega), h i 7 hi (by omega)⟩

end Go.Proofs.Ins

set_option linter.unusedSimpArgs false
set_option linter.unusedVariables false
namespace Go.Proofs.Ins
open Go.RowKit

def smallB (r : R3) : Bool := decide (r.s.size ≤ 24 ∧ r.d.size ≤ 24)
theorem few_r3 (r : R3) (w : World) (h : r.fits 140737488351232) :
    Calls Tryz.prog 14 #[.agg #[.bool r.n, .string r.s, .string r.d]] w fun e w' => e = .returned (.bool (smallB r)) ∧ Below w.heap.size w w' := few_any r.n r.s r.d w h.1 h.2

end Go.Proofs.Ins
