/- The walks of insolvencyref1: Sign, Compare, Min, Max, Multiply, Divide, Make, Int, Fraction. -/
import Derived.Test.YtobbllakdjampaaGreatDoorR13
set_option linter.unusedSimpArgs false
set_option linter.unusedVariables false
namespace Go.Proofs.Ins
open Go.RowKit

/-- A bound for both of two numbers as they come. -/
theorem sm_two (n1 : Bool) (s1 d1 : ByteArray) (n2 : Bool) (s2 d2 : ByteArray) : Sm (s1.size + d1.size + (s2.size + d2.size) + 1) (rq n1 s1 d1) ∧ Sm (s1.size + d1.size + (s2.size + d2.size) + 1) (rq n2 s2 d2) :=
  ⟨(sm_raw n1 s1 d1).mono (by omega), (sm_raw n2 s2 d2).mono (by omega)⟩

set_option maxRecDepth 100000 in
set_option maxHeartbeats 400000 in
theorem rsign_any (n : Bool) (s d : ByteArray) (w : World) (hs : s.size ≤ 134217728) (hd : d.size ≤ 134217728) :
    Calls Tryz.prog 38 #[.agg #[.bool n, .string s, .string d]] w fun e w' => e = .returned (.int .i64 (sg (rq n s d))) ∧ Below w.heap.size w w' := by
  have HC := Lib.hid (fun w => fix_agg n s d w (by omega) (by omega))
  generalize rq n s d = q at *
  have HS := Lib.hid (fun w => signum_any q w)
  generalize sg q = i at *
  go_enter Tryz.func38, Tryz.ntmps38
  go_wp2_with fail
  refine (HC.out _).mono ?_; rintro e w3 ⟨rfl, hb3⟩
  go_wp2_with fail
  refine (HS.out _).mono ?_; rintro e w4 ⟨rfl, hb4⟩
  obtain ⟨H2, HB⟩ := boxes1 (chain hb3 hb4 (Nat.le_refl _))
  have HB := Lib.hid HB
  clear hb3 hb4
  go_wp2
  go_ret
  exact ⟨rfl, HB.out⟩

set_option maxRecDepth 100000 in
set_option maxHeartbeats 400000 in
theorem rcompare_any (n1 : Bool) (s1 d1 : ByteArray) (n2 : Bool) (s2 d2 : ByteArray) (w : World) (h1 : s1.size + d1.size ≤ 134217720) (h2 : s2.size + d2.size ≤ 134217720) :
    Calls Tryz.prog 20 #[.agg #[.bool n1, .string s1, .string d1], .agg #[.bool n2, .string s2, .string d2]] w fun e w' => e = .returned (.int .i64 (cmpR (rq n1 s1 d1) (rq n2 s2 d2))) ∧ Below w.heap.size w w' := by
  have HC1 := Lib.hid (fun w => fix_agg n1 s1 d1 w (by omega) (by omega))
  have HC2 := Lib.hid (fun w => fix_agg n2 s2 d2 w (by omega) (by omega))
  obtain ⟨m1, m2⟩ := sm_two n1 s1 d1 n2 s2 d2
  have HM := Lib.hid (fun w => rminus_any _ _ _ w m1 m2 (by omega))
  clear m1 m2
  unfold cmpR
  generalize rq n1 s1 d1 = p at *
  generalize rq n2 s2 d2 = q at *
  have HS := Lib.hid (fun w => signum_any (p - q) w)
  generalize p - q = r at *
  generalize sg r = i at *
  generalize rn r = r1 at *
  generalize rs r = r2 at *
  generalize rd r = r3 at *
  generalize rn p = p1 at *
  generalize rs p = p2 at *
  generalize rd p = p3 at *
  generalize rn q = q1 at *
  generalize rs q = q2 at *
  generalize rd q = q3 at *
  go_enter Tryz.func20, Tryz.ntmps20
  go_wp2
  refine wp_forget (fun W => Blk W w.heap.size #[.bool n1, .string s1, .string d1] ∧ Blk W (w.heap.size + 1) #[.bool n2, .string s2, .string d2] ∧ Below w.heap.size w W) (two_boxes w _ _ _ _) ?_
  rintro W ⟨H1, H2, HB⟩
  obtain ⟨k0, k1, k2⟩ := H1.later3
  obtain ⟨k3, k4, k5⟩ := H2.later3
  refine wp_region_qb (by kernel_rfl) (by kernel_rfl) ?_
  repeat (first | go_big_quiet_skip | quiet_step (first | with_reducible exact Calls.later (HC1.out _) | with_reducible exact Calls.later (HC2.out _) | with_reducible exact Calls.later (HM.out _) | with_reducible exact Calls.later (HS.out _)))
  clear k0 k1 k2 k3 k4 k5
  refine wpQuiet_nil ?_
  intro W1 hb1
  have HB := Lib.hid (chain HB hb1 (Nat.le_refl _))
  clear hb1 H1 H2
  go_wp2
  go_ret
  exact ⟨rfl, HB.out⟩

set_option maxRecDepth 100000 in
set_option maxHeartbeats 400000 in
theorem rmin_any (n1 : Bool) (s1 d1 : ByteArray) (n2 : Bool) (s2 d2 : ByteArray) (w : World) (h1 : s1.size + d1.size ≤ 134217720) (h2 : s2.size + d2.size ≤ 134217720) :
    Calls Tryz.prog 21 #[.agg #[.bool n1, .string s1, .string d1], .agg #[.bool n2, .string s2, .string d2]] w fun e w' => e = .returned (rv (lesR (rq n1 s1 d1) (rq n2 s2 d2))) ∧ Below w.heap.size w w' := by
  have HC1 := Lib.hid (fun w => fix_agg n1 s1 d1 w (by omega) (by omega))
  have HC2 := Lib.hid (fun w => fix_agg n2 s2 d2 w (by omega) (by omega))
  obtain ⟨m1, m2⟩ := sm_two n1 s1 d1 n2 s2 d2
  have HM := Lib.hid (fun w => rlesser_any _ _ _ w m1 m2 (by omega))
  clear m1 m2
  unfold rv
  generalize rq n1 s1 d1 = p at *
  generalize rq n2 s2 d2 = q at *
  generalize lesR (p) (q) = r at *
  generalize rn r = r1 at *
  generalize rs r = r2 at *
  generalize rd r = r3 at *
  generalize rn p = p1 at *
  generalize rs p = p2 at *
  generalize rd p = p3 at *
  generalize rn q = q1 at *
  generalize rs q = q2 at *
  generalize rd q = q3 at *
  go_enter Tryz.func21, Tryz.ntmps21
  go_wp2
  refine wp_forget (fun W => Blk W w.heap.size #[.bool n1, .string s1, .string d1] ∧ Blk W (w.heap.size + 1) #[.bool n2, .string s2, .string d2] ∧ Blk W (w.heap.size + 1 + 1) #[.bool false, .string ⟨#[]⟩, .string ⟨#[]⟩] ∧ Below w.heap.size w W) (three_boxes w _ _ _ _ _ _) ?_
  rintro W ⟨H1, H2, H3, HB⟩
  obtain ⟨k0, k1, k2⟩ := H1.later3
  obtain ⟨k3, k4, k5⟩ := H2.later3
  refine wp_region_qbt 5 (by kernel_rfl) (by kernel_rfl) ?_
  simp only [List.take_succ_cons, List.take_zero, List.drop_succ_cons, List.drop_zero]
  repeat (first | go_big_quiet_skip | quiet_step (first | with_reducible exact Calls.later (HC1.out _) | with_reducible exact Calls.later (HC2.out _) | with_reducible exact Calls.later (HM.out _)))
  clear k0 k1 k2 k3 k4 k5
  refine wpQuiet_nil ?_
  intro W1 hb1
  have HB := Lib.hid (chain HB hb1 (Nat.le_refl _))
  have H2 := Lib.hid (H3.on hb1)
  obtain ⟨a0, a1, a2, a3, a4, a5⟩ := H2.out.get3
  clear hb1 H3 H1
  go_wp2
  refine bodyPost_forget (fun W => Blk W (w.heap.size + 1 + 1) #[.bool r1, .string r2, .string r3] ∧ Below w.heap.size w W) ⟨by exact Blk.set3 H2.out _ _ _, below_set3 HB.out (by omega) _ _ _⟩ ?_
  rintro WR ⟨hr9, hb9⟩
  obtain ⟨y90, y91, y92, -, -, -⟩ := hr9.get3
  exact bodyPost_ret (v := .agg #[.bool r1, .string r2, .string r3]) (by simp [results, Tryz.results21, go_sem, y90, y91, y92]) rfl ⟨rfl, hb9⟩


set_option maxRecDepth 100000 in
set_option maxHeartbeats 400000 in
theorem rmultiply_any (n1 : Bool) (s1 d1 : ByteArray) (n2 : Bool) (s2 d2 : ByteArray) (w : World) (h1 : s1.size + d1.size ≤ 134217720) (h2 : s2.size + d2.size ≤ 134217720) :
    Calls Tryz.prog 56 #[.agg #[.bool n1, .string s1, .string d1], .agg #[.bool n2, .string s2, .string d2]] w fun e w' => e = .returned (rv (rq n1 s1 d1 * rq n2 s2 d2)) ∧ Below w.heap.size w w' := by
  have HC1 := Lib.hid (fun w => fix_agg n1 s1 d1 w (by omega) (by omega))
  have HC2 := Lib.hid (fun w => fix_agg n2 s2 d2 w (by omega) (by omega))
  obtain ⟨m1, m2⟩ := sm_two n1 s1 d1 n2 s2 d2
  have HM := Lib.hid (fun w => rtimes_any _ _ _ w m1 m2 (by omega))
  clear m1 m2
  unfold rv
  generalize rq n1 s1 d1 = p at *
  generalize rq n2 s2 d2 = q at *
  generalize p * q = r at *
  generalize rn r = r1 at *
  generalize rs r = r2 at *
  generalize rd r = r3 at *
  generalize rn p = p1 at *
  generalize rs p = p2 at *
  generalize rd p = p3 at *
  generalize rn q = q1 at *
  generalize rs q = q2 at *
  generalize rd q = q3 at *
  go_enter Tryz.func56, Tryz.ntmps56
  go_wp2
  refine wp_forget (fun W => Blk W w.heap.size #[.bool n1, .string s1, .string d1] ∧ Blk W (w.heap.size + 1) #[.bool n2, .string s2, .string d2] ∧ Blk W (w.heap.size + 1 + 1) #[.bool false, .string ⟨#[]⟩, .string ⟨#[]⟩] ∧ Below w.heap.size w W) (three_boxes w _ _ _ _ _ _) ?_
  rintro W ⟨H1, H2, H3, HB⟩
  obtain ⟨k0, k1, k2⟩ := H1.later3
  obtain ⟨k3, k4, k5⟩ := H2.later3
  refine wp_region_qbt 5 (by kernel_rfl) (by kernel_rfl) ?_
  simp only [List.take_succ_cons, List.take_zero, List.drop_succ_cons, List.drop_zero]
  repeat (first | go_big_quiet_skip | quiet_step (first | with_reducible exact Calls.later (HC1.out _) | with_reducible exact Calls.later (HC2.out _) | with_reducible exact Calls.later (HM.out _)))
  clear k0 k1 k2 k3 k4 k5
  refine wpQuiet_nil ?_
  intro W1 hb1
  have HB := Lib.hid (chain HB hb1 (Nat.le_refl _))
  have H2 := Lib.hid (H3.on hb1)
  obtain ⟨a0, a1, a2, a3, a4, a5⟩ := H2.out.get3
  clear hb1 H3 H1
  go_wp2
  refine bodyPost_forget (fun W => Blk W (w.heap.size + 1 + 1) #[.bool r1, .string r2, .string r3] ∧ Below w.heap.size w W) ⟨by exact Blk.set3 H2.out _ _ _, below_set3 HB.out (by omega) _ _ _⟩ ?_
  rintro WR ⟨hr9, hb9⟩
  obtain ⟨y90, y91, y92, -, -, -⟩ := hr9.get3
  exact bodyPost_ret (v := .agg #[.bool r1, .string r2, .string r3]) (by simp [results, Tryz.results56, go_sem, y90, y91, y92]) rfl ⟨rfl, hb9⟩

set_option maxRecDepth 100000 in
set_option maxHeartbeats 400000 in
theorem rdiv_no (n1 : Bool) (s1 d1 : ByteArray) (n2 : Bool) (s2 d2 : ByteArray) (w : World) (h1 : s1.size + d1.size ≤ 134217720) (h2 : s2.size + d2.size ≤ 134217720) (h0 : rq n2 s2 d2 = 0) :
    Calls Tryz.prog 36 #[.agg #[.bool n1, .string s1, .string d1], .agg #[.bool n2, .string s2, .string d2]] w fun e w' => e = .returned (rvB 0 false) ∧ Below w.heap.size w w' := by
  have HC2 := Lib.hid (fun w => fix_agg n2 s2 d2 w (by omega) (by omega))
  rw [h0, rn_zero, rs_zero, rd_zero] at HC2
  clear h0
  go_enter Tryz.func36, Tryz.ntmps36
  go_wp2_with fail
  refine (HC2.out _).mono ?_; rintro e w3 ⟨rfl, hb3⟩
  obtain ⟨H1, H2, H3, HB⟩ := boxes3 hb3
  obtain ⟨a0, a1, a2, a3, a4, a5⟩ := H2.get3
  obtain ⟨b0, b1, b2, b3, b4, b5⟩ := H3.get3
  have HB := Lib.hid HB
  have H3 := Lib.hid H3
  clear hb3 H1 H2
  go_wp2
  refine bodyPost_forget (fun W => Blk W (w.heap.size + 1 + 1) #[.bool false, .string ⟨#[]⟩, .string ⟨#[]⟩] ∧ Below w.heap.size w W) ⟨by exact Blk.set3 (Blk.set3Other H3.out (by omega) _ _ _) _ _ _, below_set3 (below_set3 HB.out (by omega) _ _ _) (by omega) _ _ _⟩ ?_
  rintro WR ⟨hr9, hb9⟩
  obtain ⟨y90, y91, y92, -, -, -⟩ := hr9.get3
  exact bodyPost_ret (v := rvB 0 false) (by simp [results, Tryz.results36, go_sem, y90, y91, y92, rvB, rn_zero, rs_zero, rd_zero]) rfl ⟨rfl, hb9⟩

set_option maxRecDepth 100000 in
set_option maxHeartbeats 400000 in
theorem rdiv_yes (n1 : Bool) (s1 d1 : ByteArray) (n2 : Bool) (s2 d2 : ByteArray) (w : World) (h1 : s1.size + d1.size ≤ 134217720) (h2 : s2.size + d2.size ≤ 134217720) (h0 : rq n2 s2 d2 ≠ 0) :
    Calls Tryz.prog 36 #[.agg #[.bool n1, .string s1, .string d1], .agg #[.bool n2, .string s2, .string d2]] w fun e w' => e = .returned (rvB (rq n1 s1 d1 / rq n2 s2 d2) true) ∧ Below w.heap.size w w' := by
  have HC1 := Lib.hid (fun w => fix_agg n1 s1 d1 w (by omega) (by omega))
  have HC2 := Lib.hid (fun w => fix_agg n2 s2 d2 w (by omega) (by omega))
  obtain ⟨m1, m2⟩ := sm_two n1 s1 d1 n2 s2 d2
  have HM := Lib.hid (fun w => rover_any _ _ _ w m1 m2 (by omega) h0)
  obtain ⟨g1, g2⟩ := rs_ne h0
  clear m1 m2
  generalize rq n1 s1 d1 = p at *
  generalize rq n2 s2 d2 = q at *
  unfold rvB
  generalize p / q = r at *
  generalize rn r = r1 at *
  generalize rs r = r2 at *
  generalize rd r = r3 at *
  generalize rn p = p1 at *
  generalize rs p = p2 at *
  generalize rd p = p3 at *
  generalize rn q = q1 at *
  generalize rs q = q2 at *
  generalize rd q = q3 at *
  clear h0
  go_enter Tryz.func36, Tryz.ntmps36
  go_wp2_with fail
  refine (HC2.out _).mono ?_; rintro e w3 ⟨rfl, hb3⟩
  obtain ⟨H1, H2, H3, HB⟩ := boxes3 hb3
  obtain ⟨a0, a1, a2, a3, a4, a5⟩ := H2.get3
  have HB := Lib.hid HB
  have H1 := Lib.hid H1
  have H2 := Lib.hid H2
  have H3 := Lib.hid H3
  clear hb3
  go_wp2
  clear a0 a1 a2 a3 a4 a5 g1 g2
  refine wp_forget (fun W => Blk W w.heap.size #[.bool n1, .string s1, .string d1] ∧ Blk W (w.heap.size + 1) #[.bool q1, .string q2, .string q3] ∧ Blk W (w.heap.size + 1 + 1) #[.bool false, .string ⟨#[]⟩, .string ⟨#[]⟩] ∧ Below w.heap.size w W) ⟨by exact Blk.set3Other H1.out (by omega) _ _ _, by exact Blk.set3 H2.out _ _ _, by exact Blk.set3Other H3.out (by omega) _ _ _, below_set3 HB.out (by omega) _ _ _⟩ ?_
  clear H1 H2 H3 HB
  rintro W ⟨H1, H2, H3, HB⟩
  obtain ⟨k0, k1, k2⟩ := H1.later3
  obtain ⟨k3, k4, k5⟩ := H2.later3
  refine wp_region_qbt 4 (by kernel_rfl) (by kernel_rfl) ?_
  simp only [List.take_succ_cons, List.take_zero, List.drop_succ_cons, List.drop_zero]
  repeat (first | go_big_quiet_skip | quiet_step (first | with_reducible exact Calls.later (HC1.out _) | with_reducible exact Calls.later (HC2.out _) | with_reducible exact Calls.later (HM.out _)))
  clear k0 k1 k2 k3 k4 k5
  refine wpQuiet_nil ?_
  intro W1 hb1
  have HB := Lib.hid (chain HB hb1 (Nat.le_refl _))
  have H2 := Lib.hid (H3.on hb1)
  obtain ⟨a0, a1, a2, a3, a4, a5⟩ := H2.out.get3
  clear hb1 H3 H1
  go_wp2
  refine bodyPost_forget (fun W => Blk W (w.heap.size + 1 + 1) #[.bool r1, .string r2, .string r3] ∧ Below w.heap.size w W) ⟨by exact Blk.set3 H2.out _ _ _, below_set3 HB.out (by omega) _ _ _⟩ ?_
  rintro WR ⟨hr9, hb9⟩
  obtain ⟨y90, y91, y92, -, -, -⟩ := hr9.get3
  exact bodyPost_ret (v := .tuple #[.agg #[.bool r1, .string r2, .string r3], .bool true]) (by simp [results, Tryz.results36, go_sem, y90, y91, y92]) rfl ⟨rfl, hb9⟩

theorem rdivideR_any (n1 : Bool) (s1 d1 : ByteArray) (n2 : Bool) (s2 d2 : ByteArray) (w : World) (h1 : s1.size + d1.size ≤ 134217720) (h2 : s2.size + d2.size ≤ 134217720) :
    Calls Tryz.prog 36 #[.agg #[.bool n1, .string s1, .string d1], .agg #[.bool n2, .string s2, .string d2]] w fun e w' => e = .returned (rvB (divR (rq n1 s1 d1) (rq n2 s2 d2)) (okR (rq n2 s2 d2))) ∧ Below w.heap.size w w' := by
  unfold divR okR
  by_cases h : rq n2 s2 d2 = 0
  · rw [if_pos h, decide_eq_true h]; exact rdiv_no n1 s1 d1 n2 s2 d2 w h1 h2 h
  · rw [if_neg h, decide_eq_false h]; exact rdiv_yes n1 s1 d1 n2 s2 d2 w h1 h2 h

set_option maxRecDepth 100000 in
set_option maxHeartbeats 400000 in
theorem size_any (i : Int) (w : World) (h1 : -9223372036854775808 ≤ i) (h2 : i ≤ 9223372036854775807) :
    Calls Tryz.prog 74 #[.int .i64 i] w fun e w' => e = .returned (.int .u64 (i.natAbs : Int)) ∧ w = w' := by
  by_cases h : i < 0
  · have e1 : IntKind.u64.wrap (IntKind.u64.wrap (-(i + 1)) + 1) = ((i.natAbs : Nat) : Int) := by
      simp only [IntKind.wrap, IntKind.bits, IntKind.signed]; simp; omega
    have HE := Lib.hid e1
    have h3 : -(i + 1) ≤ 9223372036854775807 := by omega
    have h4 : 0 ≤ -(i + 1) := by omega
    have h5 : -(i + 1) + 1 = (i.natAbs : Int) := by omega
    have HF := Lib.hid h5
    clear h5 e1
    go_enter Tryz.func74, Tryz.ntmps74
    go_wp2
    go_ret
    exact ⟨ret_int (by first | exact HF.out | exact HE.out | omega), rfl⟩
  · have e1 : i = ((i.natAbs : Nat) : Int) := by omega
    have HE := Lib.hid e1
    have h0 : 0 ≤ i := by omega
    clear e1
    go_enter Tryz.func74, Tryz.ntmps74
    go_wp2
    go_ret
    exact ⟨ret_int (by omega), rfl⟩

set_option maxRecDepth 100000 in
set_option maxHeartbeats 400000 in
theorem rint_any (i : Int) (w : World) (h1 : -9223372036854775808 ≤ i) (h2 : i ≤ 9223372036854775807) :
    Calls Tryz.prog 46 #[.int .i64 i] w fun e w' => e = .returned (.agg #[.bool (rn (i : Rat)), .string (rs (i : Rat)), .string (rd (i : Rat))]) ∧ Below w.heap.size w w' := by
  have e1 : rn (i : Rat) = decide (i < 0) := rfl
  have e2 : rs (i : Rat) = bn i.natAbs := rfl
  have e3 : rd (i : Rat) = ⟨#[]⟩ := rfl
  rw [e1, e2, e3]
  have HS := Lib.hid (fun w => size_any i w h1 h2)
  have HF := Lib.hid (fun w => rfromUint_any i.natAbs w (by omega))
  generalize bn i.natAbs = t at *
  generalize (i.natAbs : Int) = j at *
  clear e1 e2 e3
  go_enter Tryz.func46, Tryz.ntmps46
  go_wp2_with fail
  refine (HS.out _).mono ?_; rintro e w3 ⟨rfl, rfl⟩
  go_wp2_with fail
  refine (HF.out _).mono ?_; rintro e w3 ⟨rfl, hb3⟩
  obtain ⟨H2, HB⟩ := boxes1 hb3
  obtain ⟨b0, b1, b2, f0, f1, f2⟩ := H2.get3
  have HB := Lib.hid HB
  have H2 := Lib.hid H2
  clear hb3
  go_wp2
  refine bodyPost_forget (fun W => Blk W (w.heap.size) #[.bool (decide (i < 0)), .string t, .string ⟨#[]⟩] ∧ Below w.heap.size w W) ⟨by exact Blk.set3 H2.out _ _ _, below_set3 HB.out (by omega) _ _ _⟩ ?_
  rintro WR ⟨hr9, hb9⟩
  obtain ⟨y90, y91, y92, -, -, -⟩ := hr9.get3
  exact bodyPost_ret (v := .agg #[.bool (decide (i < 0)), .string t, .string ⟨#[]⟩]) (by simp [results, Tryz.results46, go_sem, y90, y91, y92]) rfl ⟨rfl, hb9⟩
end Go.Proofs.Ins
