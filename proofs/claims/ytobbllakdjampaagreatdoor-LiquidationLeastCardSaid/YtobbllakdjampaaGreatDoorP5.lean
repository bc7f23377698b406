/- The walks of rational.Multiply, Divide, Min, Max. -/
import Derived.Test.YtobbllakdjampaaGreatDoorP4
set_option linter.unusedSimpArgs false
set_option linter.unusedVariables false
namespace Go.Proofs.Ins
open Go.RowKit

/-- What Multiply needs of its callees, at two numbers. -/
structure MulC (p1 : Bool) (p2 p3 : ByteArray) (q1 : Bool) (q2 q3 : ByteArray) (P1 P2 X Y : ByteArray) (r1 : Bool) (r2 r3 : ByteArray) : Prop where
  dp : ∀ w, Calls Tryz.prog 85 #[.agg #[.bool p1, .string p2, .string p3]] w fun e w' => e = .returned (.string P1) ∧ Below w.heap.size w w'
  dq : ∀ w, Calls Tryz.prog 85 #[.agg #[.bool q1, .string q2, .string q3]] w fun e w' => e = .returned (.string P2) ∧ Below w.heap.size w w'
  mx : ∀ w, Calls Tryz.prog 84 #[.string p2, .string q2] w fun e w' => e = .returned (.string X) ∧ Below w.heap.size w w'
  my : ∀ w, Calls Tryz.prog 84 #[.string P1, .string P2] w fun e w' => e = .returned (.string Y) ∧ Below w.heap.size w w'
  rd : ∀ w, Calls Tryz.prog 67 #[.bool (!(p1 == q1)), .string X, .string Y] w fun e w' => e = .returned (.agg #[.bool r1, .string r2, .string r3]) ∧ Below w.heap.size w w'

theorem red_call (n : Bool) (x y k l : Nat) (w : World) (hx : x < 256 ^ k) (hy : y < 256 ^ l) (hk : k ≤ 1073741824) (hl : l ≤ 1073741824) (h0 : 0 < y) :
    Calls Tryz.prog 67 #[.bool n, .string (bn x), .string (bn y)] w fun e w' => e = .returned (.agg #[.bool (rn (fr n x y)), .string (rs (fr n x y)), .string (rd (fr n x y))]) ∧ Below w.heap.size w w' := by
  have := reduced_agg n (bn x) (bn y) w (bn_small hx hk) (bn_small hy hl) (by rw [nv_bn]; exact h0)
  rw [nv_bn, nv_bn] at this; exact this

theorem mulC_of (p q : Rat) (k l : Nat) (hp : Sm k p) (hq : Sm l q) (hkl : k + l ≤ 1073741824) :
    MulC (rn p) (rs p) (rd p) (rn q) (rs q) (rd q) (bn p.den) (bn q.den) (bn (nm p * nm q)) (bn (p.den * q.den)) (rn (p * q)) (rs (p * q)) (rd (p * q)) := by
  have h1 := pow_mul_lt hp.1 hq.1
  have h2 := pow_mul_lt hp.2 hq.2
  refine ⟨fun w => den_rat p w, fun w => den_rat q w, fun w => mul_call _ _ k l w hp.1 hq.1 (by omega) (by omega), fun w => mul_call _ _ k l w hp.2 hq.2 (by omega) (by omega), fun w => ?_⟩
  have := red_call (rn p != rn q) _ _ _ _ w h1 h2 hkl hkl (Nat.mul_pos p.den_pos q.den_pos)
  rw [← fr_mul] at this; exact this

set_option maxRecDepth 100000 in
set_option maxHeartbeats 400000 in
theorem multiply_rat (n1 : Bool) (s1 d1 : ByteArray) (n2 : Bool) (s2 d2 : ByteArray) (w : World) (h1 : s1.size + d1.size ≤ 268435456) (h2 : s2.size + d2.size ≤ 268435456) :
    Calls Tryz.prog 53 #[.agg #[.bool n1, .string s1, .string d1], .agg #[.bool n2, .string s2, .string d2]] w fun e w' => e = .returned (rv (rq n1 s1 d1 * rq n2 s2 d2)) ∧ Below w.heap.size w w' := by
  have HC1 := Lib.hid (fun w => clean_agg n1 s1 d1 w (by omega) (by omega))
  have HC2 := Lib.hid (fun w => clean_agg n2 s2 d2 w (by omega) (by omega))
  have HCC := mulC_of _ _ _ _ (sm_raw n1 s1 d1) (sm_raw n2 s2 d2) (by omega)
  generalize rq n1 s1 d1 = p at *
  generalize rq n2 s2 d2 = q at *
  unfold rv
  generalize bn (nm p * nm q) = X at *
  generalize bn (p.den * q.den) = Y at *
  generalize bn p.den = P1 at *
  generalize bn q.den = P2 at *
  generalize rn (p * q) = r1 at *
  generalize rs (p * q) = r2 at *
  generalize rd (p * q) = r3 at *
  generalize rn p = p1 at *
  generalize rs p = p2 at *
  generalize rd p = p3 at *
  generalize rn q = q1 at *
  generalize rs q = q2 at *
  generalize rd q = q3 at *
  have HD := Lib.hid HCC
  clear HCC
  go_enter Tryz.func53, Tryz.ntmps53
  go_wp2
  refine wp_forget (fun W => Blk W w.heap.size #[.bool n1, .string s1, .string d1] ∧ Blk W (w.heap.size + 1) #[.bool n2, .string s2, .string d2] ∧ Blk W (w.heap.size + 1 + 1) #[.bool false, .string ⟨#[]⟩, .string ⟨#[]⟩] ∧ Below w.heap.size w W) (three_boxes w _ _ _ _ _ _) ?_
  rintro W ⟨H1, H2, H3, HB⟩
  obtain ⟨k0, k1, k2⟩ := H1.later3
  obtain ⟨k3, k4, k5⟩ := H2.later3
  refine wp_region_qbt 4 (by kernel_rfl) (by kernel_rfl) ?_
  simp only [List.take_succ_cons, List.take_zero, List.drop_succ_cons, List.drop_zero]
  repeat (first | go_big_quiet_skip | quiet_step (first | with_reducible exact Calls.later (HC1.out _) | with_reducible exact Calls.later (HC2.out _)))
  clear k0 k1 k2 k3 k4 k5
  refine wpQuiet_nil ?_
  intro W1 hb1
  have J1 := Lib.hid (H1.on hb1)
  have J2 := Lib.hid (H2.on hb1)
  have J3 := Lib.hid (H3.on hb1)
  have JB := Lib.hid (chain HB hb1 (Nat.le_refl _))
  clear H1 H2 H3 HB hb1
  obtain ⟨a0, a1, a2, a3, a4, a5⟩ := J1.out.get3
  obtain ⟨b0, b1, b2, b3, b4, b5⟩ := J2.out.get3
  go_wp2
  clear a0 a1 a2 a3 a4 a5 b0 b1 b2 b3 b4 b5
  refine wp_forget (fun W => (Blk W w.heap.size #[.bool p1, .string p2, .string p3] ∧ Blk W (w.heap.size + 1) #[.bool q1, .string q2, .string q3] ∧ Below w.heap.size w W) ∧ Blk W (w.heap.size + 1 + 1) #[.bool false, .string ⟨#[]⟩, .string ⟨#[]⟩]) ⟨two_stored _ _ _ _ _ _ J1.out J2.out JB.out (by omega) (Nat.le_refl _) (by omega), (J3.out.set3Other (by omega) _ _ _).set3Other (by omega) _ _ _⟩ ?_
  clear J1 J2 J3 JB
  rintro W3 ⟨⟨H1, H2, HB⟩, H3⟩
  obtain ⟨k0, k1, k2⟩ := H1.later3
  obtain ⟨k3, k4, k5⟩ := H2.later3
  refine wp_region_qbt 16 (by kernel_rfl) (by kernel_rfl) ?_
  simp only [List.take_succ_cons, List.take_zero, List.drop_succ_cons, List.drop_zero]
  repeat (first | go_big_quiet_skip | quiet_step (first | with_reducible exact Calls.later (HD.out.dp _) | with_reducible exact Calls.later (HD.out.dq _) | with_reducible exact Calls.later (HD.out.mx _) | with_reducible exact Calls.later (HD.out.my _) | with_reducible exact Calls.later (HD.out.rd _)))
  clear k0 k1 k2 k3 k4 k5
  refine wpQuiet_nil ?_
  intro W5 hb5
  have HB := Lib.hid (chain HB hb5 (Nat.le_refl _))
  have H2 := Lib.hid (H3.on hb5)
  obtain ⟨a0, a1, a2, a3, a4, a5⟩ := H2.out.get3
  clear hb5 H3 H1
  go_wp2
  refine bodyPost_forget (fun W => Blk W (w.heap.size + 1 + 1) #[.bool r1, .string r2, .string r3] ∧ Below w.heap.size w W) ⟨by exact Blk.set3 H2.out _ _ _, below_set3 HB.out (by omega) _ _ _⟩ ?_
  rintro WR ⟨hr9, hb9⟩
  obtain ⟨y90, y91, y92, -, -, -⟩ := hr9.get3
  exact bodyPost_ret (v := .agg #[.bool r1, .string r2, .string r3]) (by simp [results, Tryz.results53, go_sem, y90, y91, y92]) rfl ⟨rfl, hb9⟩

/-- What Divide needs of its callees, at two numbers. -/
structure DivC (p1 : Bool) (p2 p3 : ByteArray) (q1 : Bool) (q2 q3 : ByteArray) (P1 P2 X Y : ByteArray) (r1 : Bool) (r2 r3 : ByteArray) (ok : Bool) : Prop where
  dp : ∀ w, Calls Tryz.prog 85 #[.agg #[.bool p1, .string p2, .string p3]] w fun e w' => e = .returned (.string P1) ∧ Below w.heap.size w w'
  dq : ∀ w, Calls Tryz.prog 85 #[.agg #[.bool q1, .string q2, .string q3]] w fun e w' => e = .returned (.string P2) ∧ Below w.heap.size w w'
  mx : ∀ w, Calls Tryz.prog 84 #[.string p2, .string P2] w fun e w' => e = .returned (.string X) ∧ Below w.heap.size w w'
  my : ∀ w, Calls Tryz.prog 84 #[.string P1, .string q2] w fun e w' => e = .returned (.string Y) ∧ Below w.heap.size w w'
  mke : ∀ w, Calls Tryz.prog 96 #[.bool (!(p1 == q1)), .string X, .string Y] w fun e w' => e = .returned (.tuple #[.agg #[.bool r1, .string r2, .string r3], .bool ok]) ∧ Below w.heap.size w w'

/-- The quotient, 0 where the divisor is 0. -/
def divR (p q : Rat) : Rat := if q = 0 then 0 else p / q
def okR (q : Rat) : Bool := !decide (q = 0)

theorem divC_of (p q : Rat) (k l : Nat) (hp : Sm k p) (hq : Sm l q) (hkl : k + l ≤ 1073741824) :
    DivC (rn p) (rs p) (rd p) (rn q) (rs q) (rd q) (bn p.den) (bn q.den) (bn (nm p * q.den)) (bn (p.den * nm q)) (rn (divR p q)) (rs (divR p q)) (rd (divR p q)) (okR q) := by
  have h1 := pow_mul_lt hp.1 hq.2
  have h2 := pow_mul_lt hp.2 hq.1
  refine ⟨fun w => den_rat p w, fun w => den_rat q w, fun w => mul_call _ _ k l w hp.1 hq.2 (by omega) (by omega), fun w => mul_call _ _ k l w hp.2 hq.1 (by omega) (by omega), fun w => ?_⟩
  by_cases h : q = 0
  · have hy : p.den * nm q = 0 := by rw [nm_zero.mpr h, Nat.mul_zero]
    have := make_no (rn p != rn q) (bn (nm p * q.den)) (bn (p.den * nm q)) w (bn_small h2 hkl) (by rw [nv_bn, hy])
    unfold divR okR
    rw [if_pos h, decide_eq_true h]
    exact this
  · have hy : 0 < p.den * nm q := Nat.mul_pos p.den_pos (Nat.pos_of_ne_zero fun e => h (nm_zero.mp e))
    have := make_yes (rn p != rn q) (bn (nm p * q.den)) (bn (p.den * nm q)) w (bn_small h1 hkl) (bn_small h2 hkl) (by rw [nv_bn]; exact hy)
    rw [nv_bn, nv_bn, ← fr_div h] at this
    unfold divR okR
    rw [if_neg h, decide_eq_false h]
    exact this

set_option maxRecDepth 100000 in
set_option maxHeartbeats 400000 in
theorem divide_rat (n1 : Bool) (s1 d1 : ByteArray) (n2 : Bool) (s2 d2 : ByteArray) (w : World) (h1 : s1.size + d1.size ≤ 268435456) (h2 : s2.size + d2.size ≤ 268435456) :
    Calls Tryz.prog 66 #[.agg #[.bool n1, .string s1, .string d1], .agg #[.bool n2, .string s2, .string d2]] w fun e w' => e = .returned (rvB (divR (rq n1 s1 d1) (rq n2 s2 d2)) (okR (rq n2 s2 d2))) ∧ Below w.heap.size w w' := by
  have HC1 := Lib.hid (fun w => clean_agg n1 s1 d1 w (by omega) (by omega))
  have HC2 := Lib.hid (fun w => clean_agg n2 s2 d2 w (by omega) (by omega))
  have HCC := divC_of _ _ _ _ (sm_raw n1 s1 d1) (sm_raw n2 s2 d2) (by omega)
  generalize rq n1 s1 d1 = p at *
  generalize rq n2 s2 d2 = q at *
  unfold rvB
  generalize okR q = ok at *
  generalize rn (divR p q) = r1 at *
  generalize rs (divR p q) = r2 at *
  generalize rd (divR p q) = r3 at *
  generalize bn (nm p * q.den) = X at *
  generalize bn (p.den * nm q) = Y at *
  generalize bn p.den = P1 at *
  generalize bn q.den = P2 at *
  generalize rn p = p1 at *
  generalize rs p = p2 at *
  generalize rd p = p3 at *
  generalize rn q = q1 at *
  generalize rs q = q2 at *
  generalize rd q = q3 at *
  have HD := Lib.hid HCC
  clear HCC
  go_enter Tryz.func66, Tryz.ntmps66
  go_wp2
  refine wp_forget (fun W => Blk W w.heap.size #[.bool n1, .string s1, .string d1] ∧ Blk W (w.heap.size + 1) #[.bool n2, .string s2, .string d2] ∧ Blk W (w.heap.size + 1 + 1) #[.bool false, .string ⟨#[]⟩, .string ⟨#[]⟩] ∧ Below w.heap.size w W) (three_boxes w _ _ _ _ _ _) ?_
  rintro W ⟨H1, H2, H3, HB⟩
  obtain ⟨k0, k1, k2⟩ := H1.later3
  obtain ⟨k3, k4, k5⟩ := H2.later3
  refine wp_region_qbt 4 (by kernel_rfl) (by kernel_rfl) ?_
  simp only [List.take_succ_cons, List.take_zero, List.drop_succ_cons, List.drop_zero]
  repeat (first | go_big_quiet_skip | quiet_step (first | with_reducible exact Calls.later (HC1.out _) | with_reducible exact Calls.later (HC2.out _)))
  clear k0 k1 k2 k3 k4 k5
  refine wpQuiet_nil ?_
  intro W1 hb1
  have J1 := Lib.hid (H1.on hb1)
  have J2 := Lib.hid (H2.on hb1)
  have J3 := Lib.hid (H3.on hb1)
  have JB := Lib.hid (chain HB hb1 (Nat.le_refl _))
  clear H1 H2 H3 HB hb1
  obtain ⟨a0, a1, a2, a3, a4, a5⟩ := J1.out.get3
  obtain ⟨b0, b1, b2, b3, b4, b5⟩ := J2.out.get3
  go_wp2
  clear a0 a1 a2 a3 a4 a5 b0 b1 b2 b3 b4 b5
  refine wp_forget (fun W => (Blk W w.heap.size #[.bool p1, .string p2, .string p3] ∧ Blk W (w.heap.size + 1) #[.bool q1, .string q2, .string q3] ∧ Below w.heap.size w W) ∧ Blk W (w.heap.size + 1 + 1) #[.bool false, .string ⟨#[]⟩, .string ⟨#[]⟩]) ⟨two_stored _ _ _ _ _ _ J1.out J2.out JB.out (by omega) (Nat.le_refl _) (by omega), (J3.out.set3Other (by omega) _ _ _).set3Other (by omega) _ _ _⟩ ?_
  clear J1 J2 J3 JB
  rintro W3 ⟨⟨H1, H2, HB⟩, H3⟩
  obtain ⟨k0, k1, k2⟩ := H1.later3
  obtain ⟨k3, k4, k5⟩ := H2.later3
  refine wp_region_qbt 18 (by kernel_rfl) (by kernel_rfl) ?_
  simp only [List.take_succ_cons, List.take_zero, List.drop_succ_cons, List.drop_zero]
  repeat (first | go_big_quiet_skip | quiet_step (first | with_reducible exact Calls.later (HD.out.dp _) | with_reducible exact Calls.later (HD.out.dq _) | with_reducible exact Calls.later (HD.out.mx _) | with_reducible exact Calls.later (HD.out.my _) | with_reducible exact Calls.later (HD.out.mke _)))
  clear k0 k1 k2 k3 k4 k5
  refine wpQuiet_nil ?_
  intro W5 hb5
  have HB := Lib.hid (chain HB hb5 (Nat.le_refl _))
  have H2 := Lib.hid (H3.on hb5)
  obtain ⟨a0, a1, a2, a3, a4, a5⟩ := H2.out.get3
  clear hb5 H3 H1
  go_wp2
  refine bodyPost_forget (fun W => Blk W (w.heap.size + 1 + 1) #[.bool r1, .string r2, .string r3] ∧ Below w.heap.size w W) ⟨by exact Blk.set3 H2.out _ _ _, below_set3 HB.out (by omega) _ _ _⟩ ?_
  rintro WR ⟨hr9, hb9⟩
  obtain ⟨y90, y91, y92, -, -, -⟩ := hr9.get3
  exact bodyPost_ret (v := .tuple #[.agg #[.bool r1, .string r2, .string r3], .bool ok]) (by simp [results, Tryz.results66, go_sem, y90, y91, y92]) rfl ⟨rfl, hb9⟩

theorem cmp_size (n1 : Bool) (s1 d1 : ByteArray) (h1 : s1.size + d1.size ≤ 268435456) : s1.size ≤ 1073741824 ∧ d1.size ≤ 1073741824 := by omega


/-- Go's Min. -/
def minR (p q : Rat) : Rat := if cmpR p q ≤ 0 then p else q

set_option maxRecDepth 100000 in
set_option maxHeartbeats 400000 in
theorem min_rat (n1 : Bool) (s1 d1 : ByteArray) (n2 : Bool) (s2 d2 : ByteArray) (w : World) (h1 : s1.size + d1.size ≤ 268435456) (h2 : s2.size + d2.size ≤ 268435456) :
    Calls Tryz.prog 31 #[.agg #[.bool n1, .string s1, .string d1], .agg #[.bool n2, .string s2, .string d2]] w fun e w' => e = .returned (rv (minR (rq n1 s1 d1) (rq n2 s2 d2))) ∧ Below w.heap.size w w' := by
  have HC1 := Lib.hid (fun w => clean_agg n1 s1 d1 w (by omega) (by omega))
  have HC2 := Lib.hid (fun w => clean_agg n2 s2 d2 w (by omega) (by omega))
  have HCC := Lib.hid (fun w => compare_rat n1 s1 d1 n2 s2 d2 w h1 h2)
  generalize rq n1 s1 d1 = p at *
  generalize rq n2 s2 d2 = q at *
  unfold rv minR
  generalize cmpR p q = c at *
  by_cases hc : c ≤ 0
  · rw [if_pos hc]
    generalize rn p = p1 at *
    generalize rs p = p2 at *
    generalize rd p = p3 at *
    as_aux_lemma =>
    go_enter Tryz.func31, Tryz.ntmps31
    go_wp2_with fail
    refine (HCC.out _).mono ?_; rintro e w3 ⟨rfl, hb3⟩
    obtain ⟨H1, H2, H3, HB⟩ := boxes3 hb3
    obtain ⟨a0, a1, a2, a3, a4, a5⟩ := H1.get3
    have H3 := Lib.hid H3
    clear hb3 H1 H2
    go_wp2_with fail
    refine (HC1.out _).mono ?_; rintro e w4 ⟨rfl, hb4⟩
    have HB := Lib.hid (chain HB hb4 (Nat.le_refl _))
    have H2 := Lib.hid (H3.out.on hb4)
    obtain ⟨b0, b1, b2, b3, b4, b5⟩ := H2.out.get3
    clear hb4 H3 a0 a1 a2 a3 a4 a5
    go_wp2
    refine bodyPost_forget (fun W => Blk W (w.heap.size + 1 + 1) #[.bool p1, .string p2, .string p3] ∧ Below w.heap.size w W) ⟨by exact Blk.set3 H2.out _ _ _, below_set3 HB.out (by omega) _ _ _⟩ ?_
    rintro WR ⟨hr9, hb9⟩
    obtain ⟨y90, y91, y92, -, -, -⟩ := hr9.get3
    exact bodyPost_ret (v := .agg #[.bool p1, .string p2, .string p3]) (by simp [results, Tryz.results31, go_sem, y90, y91, y92]) rfl ⟨rfl, hb9⟩
  · rw [if_neg hc]
    generalize rn q = p1 at *
    generalize rs q = p2 at *
    generalize rd q = p3 at *
    have hc2 : decide (c ≤ 0) = false := by simp; omega
    clear hc
    as_aux_lemma =>
    go_enter Tryz.func31, Tryz.ntmps31
    go_wp2_with fail
    refine (HCC.out _).mono ?_; rintro e w3 ⟨rfl, hb3⟩
    obtain ⟨H1, H2, H3, HB⟩ := boxes3 hb3
    obtain ⟨a0, a1, a2, a3, a4, a5⟩ := H2.get3
    have H3 := Lib.hid H3
    clear hb3 H1 H2
    go_wp2_with fail
    refine (HC2.out _).mono ?_; rintro e w4 ⟨rfl, hb4⟩
    have HB := Lib.hid (chain HB hb4 (Nat.le_refl _))
    have H2 := Lib.hid (H3.out.on hb4)
    obtain ⟨b0, b1, b2, b3, b4, b5⟩ := H2.out.get3
    clear hb4 H3 a0 a1 a2 a3 a4 a5
    go_wp2
    refine bodyPost_forget (fun W => Blk W (w.heap.size + 1 + 1) #[.bool p1, .string p2, .string p3] ∧ Below w.heap.size w W) ⟨by exact Blk.set3 H2.out _ _ _, below_set3 HB.out (by omega) _ _ _⟩ ?_
    rintro WR ⟨hr9, hb9⟩
    obtain ⟨y90, y91, y92, -, -, -⟩ := hr9.get3
    exact bodyPost_ret (v := .agg #[.bool p1, .string p2, .string p3]) (by simp [results, Tryz.results31, go_sem, y90, y91, y92]) rfl ⟨rfl, hb9⟩

/-- Go's Max. -/
def maxR (p q : Rat) : Rat := if 0 ≤ cmpR p q then p else q

set_option maxRecDepth 100000 in
set_option maxHeartbeats 400000 in
theorem max_rat (n1 : Bool) (s1 d1 : ByteArray) (n2 : Bool) (s2 d2 : ByteArray) (w : World) (h1 : s1.size + d1.size ≤ 268435456) (h2 : s2.size + d2.size ≤ 268435456) :
    Calls Tryz.prog 29 #[.agg #[.bool n1, .string s1, .string d1], .agg #[.bool n2, .string s2, .string d2]] w fun e w' => e = .returned (rv (maxR (rq n1 s1 d1) (rq n2 s2 d2))) ∧ Below w.heap.size w w' := by
  have HC1 := Lib.hid (fun w => clean_agg n1 s1 d1 w (by omega) (by omega))
  have HC2 := Lib.hid (fun w => clean_agg n2 s2 d2 w (by omega) (by omega))
  have HCC := Lib.hid (fun w => compare_rat n1 s1 d1 n2 s2 d2 w h1 h2)
  generalize rq n1 s1 d1 = p at *
  generalize rq n2 s2 d2 = q at *
  unfold rv maxR
  generalize cmpR p q = c at *
  by_cases hc : 0 ≤ c
  · rw [if_pos hc]
    generalize rn p = p1 at *
    generalize rs p = p2 at *
    generalize rd p = p3 at *
    as_aux_lemma =>
    go_enter Tryz.func29, Tryz.ntmps29
    go_wp2_with fail
    refine (HCC.out _).mono ?_; rintro e w3 ⟨rfl, hb3⟩
    obtain ⟨H1, H2, H3, HB⟩ := boxes3 hb3
    obtain ⟨a0, a1, a2, a3, a4, a5⟩ := H1.get3
    have H3 := Lib.hid H3
    clear hb3 H1 H2
    go_wp2_with fail
    refine (HC1.out _).mono ?_; rintro e w4 ⟨rfl, hb4⟩
    have HB := Lib.hid (chain HB hb4 (Nat.le_refl _))
    have H2 := Lib.hid (H3.out.on hb4)
    obtain ⟨b0, b1, b2, b3, b4, b5⟩ := H2.out.get3
    clear hb4 H3 a0 a1 a2 a3 a4 a5
    go_wp2
    refine bodyPost_forget (fun W => Blk W (w.heap.size + 1 + 1) #[.bool p1, .string p2, .string p3] ∧ Below w.heap.size w W) ⟨by exact Blk.set3 H2.out _ _ _, below_set3 HB.out (by omega) _ _ _⟩ ?_
    rintro WR ⟨hr9, hb9⟩
    obtain ⟨y90, y91, y92, -, -, -⟩ := hr9.get3
    exact bodyPost_ret (v := .agg #[.bool p1, .string p2, .string p3]) (by simp [results, Tryz.results29, go_sem, y90, y91, y92]) rfl ⟨rfl, hb9⟩
  · rw [if_neg hc]
    generalize rn q = p1 at *
    generalize rs q = p2 at *
    generalize rd q = p3 at *
    have hc2 : decide (0 ≤ c) = false := by simp; omega
    clear hc
    as_aux_lemma =>
    go_enter Tryz.func29, Tryz.ntmps29
    go_wp2_with fail
    refine (HCC.out _).mono ?_; rintro e w3 ⟨rfl, hb3⟩
    obtain ⟨H1, H2, H3, HB⟩ := boxes3 hb3
    obtain ⟨a0, a1, a2, a3, a4, a5⟩ := H2.get3
    have H3 := Lib.hid H3
    clear hb3 H1 H2
    go_wp2_with fail
    refine (HC2.out _).mono ?_; rintro e w4 ⟨rfl, hb4⟩
    have HB := Lib.hid (chain HB hb4 (Nat.le_refl _))
    have H2 := Lib.hid (H3.out.on hb4)
    obtain ⟨b0, b1, b2, b3, b4, b5⟩ := H2.out.get3
    clear hb4 H3 a0 a1 a2 a3 a4 a5
    go_wp2
    refine bodyPost_forget (fun W => Blk W (w.heap.size + 1 + 1) #[.bool p1, .string p2, .string p3] ∧ Below w.heap.size w W) ⟨by exact Blk.set3 H2.out _ _ _, below_set3 HB.out (by omega) _ _ _⟩ ?_
    rintro WR ⟨hr9, hb9⟩
    obtain ⟨y90, y91, y92, -, -, -⟩ := hr9.get3
    exact bodyPost_ret (v := .agg #[.bool p1, .string p2, .string p3]) (by simp [results, Tryz.results29, go_sem, y90, y91, y92]) rfl ⟨rfl, hb9⟩
end Go.Proofs.Ins
