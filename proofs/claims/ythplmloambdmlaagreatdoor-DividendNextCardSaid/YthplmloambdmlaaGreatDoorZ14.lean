/- The walks of insolvencylaw0: Ratio, Whole, Amount, Few. -/
import Derived.Test.YthplmloambdmlaaGreatDoorZ13

set_option linter.unusedSimpArgs false
set_option linter.unusedVariables false
namespace Go.Proofs.Ins
open Go.RowKit

set_option maxRecDepth 100000 in
set_option maxHeartbeats 400000 in
theorem plus_left (p1 : Bool) (p3 : ByteArray) (q1 : Bool) (q2 q3 : ByteArray) (w : World) :
    Calls Tryz.prog 182 #[.agg #[.bool p1, .string ⟨#[]⟩, .string p3], .agg #[.bool q1, .string q2, .string q3]] w fun e w' => e = .returned (.agg #[.bool q1, .string q2, .string q3]) ∧ Below w.heap.size w w' := by
  go_enter Tryz.func182, Tryz.ntmps182
  go_wp2
  exact bodyPost_ret (v := .agg #[.bool q1, .string q2, .string q3]) (by simp [results, Tryz.results182, go_sem]) rfl ⟨rfl, (three_boxes w _ _ _ _ _ _).2.2.2⟩

set_option maxRecDepth 100000 in
set_option maxHeartbeats 400000 in
theorem plus_right (p1 : Bool) (p2 p3 : ByteArray) (q1 : Bool) (q3 : ByteArray) (w : World) (h1 : p2.toList.isEmpty = false) (h2 : ¬ p2.toList = []) :
    Calls Tryz.prog 182 #[.agg #[.bool p1, .string p2, .string p3], .agg #[.bool q1, .string ⟨#[]⟩, .string q3]] w fun e w' => e = .returned (.agg #[.bool p1, .string p2, .string p3]) ∧ Below w.heap.size w w' := by
  go_enter Tryz.func182, Tryz.ntmps182
  go_wp2
  exact bodyPost_ret (v := .agg #[.bool p1, .string p2, .string p3]) (by simp [results, Tryz.results182, go_sem]) rfl ⟨rfl, (three_boxes w _ _ _ _ _ _).2.2.2⟩

theorem rplus_any (p q : Rat) (k : Nat) (w : World) (hp : Sm k p) (hq : Sm k q) (hk : k ≤ 268435456) :
    Calls Tryz.prog 182 #[.agg #[.bool (rn p), .string (rs p), .string (rd p)], .agg #[.bool (rn q), .string (rs q), .string (rd q)]] w fun e w' => e = .returned (.agg #[.bool (rn (p + q)), .string (rs (p + q)), .string (rd (p + q))]) ∧ Below w.heap.size w w' := by
  by_cases h1 : p = 0
  · subst h1; rw [Rat.zero_add]; exact plus_left _ _ _ _ _ w
  · by_cases h2 : q = 0
    · subst h2; rw [Rat.add_zero]; exact plus_right _ _ _ _ _ w (rs_ne h1).1 (rs_ne h1).2
    · exact plus_pos _ _ _ _ _ _ _ _ _ _ _ _ _ _ (pluC_of p q k hp hq hk) hk (rs_ne h1).1 (rs_ne h1).2 (rs_ne h2).1 (rs_ne h2).2 w

set_option maxRecDepth 100000 in
set_option maxHeartbeats 400000 in
theorem signum_any (q : Rat) (w : World) :
    Calls Tryz.prog 166 #[.agg #[.bool (rn q), .string (rs q), .string (rd q)]] w fun e w' => e = .returned (.int .i64 (sg q)) ∧ Below w.heap.size w w' := by
  by_cases h : nm q = 0
  · have e := nm_zero.mp h
    subst e
    rw [sg_zero h, rn_zero, rs_zero, rd_zero]
    clear h
    go_enter Tryz.func166, Tryz.ntmps166
    go_wp2
    go_ret
    exact ⟨rfl, (Below.refl _ _).alloc (Nat.le_refl _) _⟩
  · obtain ⟨h1, h2⟩ := bn_ne (x := nm q) (by omega)
    have e : rs q = bn (nm q) := rfl
    rw [e]
    generalize bn (nm q) = t at *
    cases hn : rn q
    · rw [sg_pos hn h]
      clear h hn e
      go_enter Tryz.func166, Tryz.ntmps166
      go_wp2
      go_ret
      exact ⟨rfl, (Below.refl _ _).alloc (Nat.le_refl _) _⟩
    · rw [sg_neg hn]
      clear h hn e
      go_enter Tryz.func166, Tryz.ntmps166
      go_wp2
      go_ret
      exact ⟨rfl, (Below.refl _ _).alloc (Nat.le_refl _) _⟩

theorem two_boxes' (w : World) (v1 v2 v3 x : Value) (us : Array Value) (T U : TypeId) :
    Below w.heap.size w (((w.alloc (.cells #[v1, v2, v3] T)).alloc (.cells us U)).setCell ⟨w.heap.size, 0, none⟩ x) := (two_boxes w _ _ _ _).2.2.setCell (Nat.le_refl _) _

set_option maxRecDepth 100000 in
set_option maxHeartbeats 400000 in
theorem opposite_any (q : Rat) (w : World) :
    Calls Tryz.prog 241 #[.agg #[.bool (rn q), .string (rs q), .string (rd q)]] w fun e w' => e = .returned (.agg #[.bool (rn (-q)), .string (rs (-q)), .string (rd (-q))]) ∧ Below w.heap.size w w' := by
  by_cases h : q = 0
  · subst h
    rw [Rat.neg_zero, rn_zero, rs_zero, rd_zero]
    go_enter Tryz.func241, Tryz.ntmps241
    go_wp2
    exact bodyPost_ret (v := .agg #[.bool false, .string ⟨#[]⟩, .string ⟨#[]⟩]) (by simp [results, Tryz.results241, go_sem]) rfl ⟨rfl, (two_boxes w _ _ _ _).2.2⟩
  · rw [rn_neg (fun e => h (nm_zero.mp e)), rs_neg, rd_neg]
    obtain ⟨h1, h2⟩ := rs_ne h
    generalize rn q = n at *
    generalize rs q = s at *
    generalize rd q = d at *
    clear h
    go_enter Tryz.func241, Tryz.ntmps241
    go_wp2
    refine bodyPost_forget (fun W => Blk W (w.heap.size + 1) #[.bool (!n), .string s, .string d] ∧ Below w.heap.size w W) ⟨by exact (two_boxes _ _ _ _ _).2.1, by exact (two_boxes w _ _ _ _).2.2⟩ ?_
    rintro WR ⟨hr9, hb9⟩
    obtain ⟨y90, y91, y92, -, -, -⟩ := hr9.get3
    exact bodyPost_ret (v := .agg #[.bool (!n), .string s, .string d]) (by simp [results, Tryz.results241, go_sem, y90, y91, y92]) rfl ⟨rfl, hb9⟩

/-- Less, as a truth value. -/
def ltB (p q : Rat) : Bool := decide (p < q)
theorem ltB_true {p q : Rat} (h : p < q) : ltB p q = true := decide_eq_true h
theorem ltB_false {p q : Rat} (h : ¬ p < q) : ltB p q = false := decide_eq_false h
theorem ltB_sg (p q : Rat) : ltB p q = decide (sg (p - q) < 0) := by
  show _ = decide (cmpR p q < 0)
  by_cases h : p < q
  · rw [ltB_true h, decide_eq_true (cmpR_lt_zero.mpr h)]
  · rw [ltB_false h, decide_eq_false (fun e => h (cmpR_lt_zero.mp e))]

set_option maxRecDepth 100000 in
set_option maxHeartbeats 400000 in
theorem rminus_any (p q : Rat) (k : Nat) (w : World) (hp : Sm k p) (hq : Sm k q) (hk : k ≤ 268435456) :
    Calls Tryz.prog 167 #[.agg #[.bool (rn p), .string (rs p), .string (rd p)], .agg #[.bool (rn q), .string (rs q), .string (rd q)]] w fun e w' => e = .returned (.agg #[.bool (rn (p - q)), .string (rs (p - q)), .string (rd (p - q))]) ∧ Below w.heap.size w w' := by
  have HO := Lib.hid (fun w => opposite_any q w)
  have HP := Lib.hid (fun w => rplus_any p (-q) k w hp hq.neg hk)
  rw [← Rat.sub_eq_add_neg] at HP
  generalize p - q = r at *
  generalize rn r = r1 at *
  generalize rs r = r2 at *
  generalize rd r = r3 at *
  generalize rn (-q) = o1 at *
  generalize rs (-q) = o2 at *
  generalize rd (-q) = o3 at *
  generalize rn p = p1 at *
  generalize rs p = p2 at *
  generalize rd p = p3 at *
  generalize rn q = q1 at *
  generalize rs q = q2 at *
  generalize rd q = q3 at *
  go_enter Tryz.func167, Tryz.ntmps167
  go_wp2
  refine wp_forget (fun W => Blk W w.heap.size #[.bool p1, .string p2, .string p3] ∧ Blk W (w.heap.size + 1) #[.bool q1, .string q2, .string q3] ∧ Blk W (w.heap.size + 1 + 1) #[.bool false, .string ⟨#[]⟩, .string ⟨#[]⟩] ∧ Below w.heap.size w W) (three_boxes w _ _ _ _ _ _) ?_
  rintro W ⟨H1, H2, H3, HB⟩
  obtain ⟨k0, k1, k2⟩ := H1.later3
  obtain ⟨k3, k4, k5⟩ := H2.later3
  refine wp_region_qbt 4 (by kernel_rfl) (by kernel_rfl) ?_
  simp only [List.take_succ_cons, List.take_zero, List.drop_succ_cons, List.drop_zero]
  repeat (first | go_big_quiet_skip | quiet_step (first | with_reducible exact Calls.later (HO.out _) | with_reducible exact Calls.later (HP.out _)))
  clear k0 k1 k2 k3 k4 k5
  refine wpQuiet_nil ?_
  intro W1 hb1
  have HB := Lib.hid (chain HB hb1 (Nat.le_refl _))
  have H2 := Lib.hid (H3.on hb1)
  obtain ⟨a0, a1, a2, a3, a4, a5⟩ := H2.out.get3
  clear hb1 H3 H1
  go_wp2
  refine bodyPost_forget (fun W => Blk W (w.heap.size + 1 + 1) #[.bool r1, .string r2, .string r3] ∧ Below w.heap.size w W) ⟨by exact Blk.set3 H2.out _ _ _, below_set3 HB.out (by omega) _ _ _⟩ ?_
  rintro WR ⟨hr9, hb9⟩
  obtain ⟨y90, y91, y92, -, -, -⟩ := hr9.get3
  exact bodyPost_ret (v := .agg #[.bool r1, .string r2, .string r3]) (by simp [results, Tryz.results167, go_sem, y90, y91, y92]) rfl ⟨rfl, hb9⟩

set_option maxRecDepth 100000 in
set_option maxHeartbeats 400000 in
theorem rless_any (p q : Rat) (k : Nat) (w : World) (hp : Sm k p) (hq : Sm k q) (hk : k ≤ 268435456) :
    Calls Tryz.prog 97 #[.agg #[.bool (rn p), .string (rs p), .string (rd p)], .agg #[.bool (rn q), .string (rs q), .string (rd q)]] w fun e w' => e = .returned (.bool (ltB p q)) ∧ Below w.heap.size w w' := by
  have HM := Lib.hid (fun w => rminus_any p q k w hp hq hk)
  have HS := Lib.hid (fun w => signum_any (p - q) w)
  rw [ltB_sg]
  generalize p - q = r at *
  generalize sg r = i at *
  generalize rn r = r1 at *
  generalize rs r = r2 at *
  generalize rd r = r3 at *
  generalize rn p = p1 at *
  generalize rs p = p2 at *
  generalize rd p = p3 at *
  generalize rn q = q1 at *
  generalize rs q = q2 at *
  generalize rd q = q3 at *
  go_enter Tryz.func97, Tryz.ntmps97
  go_wp2_with fail
  refine (HM.out _).mono ?_; rintro e w3 ⟨rfl, hb3⟩
  go_wp2_with fail
  refine (HS.out _).mono ?_; rintro e w4 ⟨rfl, hb4⟩
  have HB := Lib.hid (boxes2 (chain hb3 hb4 (Nat.le_refl _))).2.2
  clear hb3 hb4
  go_wp2
  go_ret
  exact ⟨rfl, HB.out⟩

/-- The lesser and the greater one. -/
def lesR (p q : Rat) : Rat := if q < p then q else p
def greR (p q : Rat) : Rat := if p < q then q else p

set_option maxRecDepth 100000 in
set_option maxHeartbeats 400000 in
theorem rlesser_any (p q : Rat) (k : Nat) (w : World) (hp : Sm k p) (hq : Sm k q) (hk : k ≤ 268435456) :
    Calls Tryz.prog 280 #[.agg #[.bool (rn p), .string (rs p), .string (rd p)], .agg #[.bool (rn q), .string (rs q), .string (rd q)]] w fun e w' => e = .returned (.agg #[.bool (rn (lesR p q)), .string (rs (lesR p q)), .string (rd (lesR p q))]) ∧ Below w.heap.size w w' := by
  have HL := Lib.hid (fun w => rless_any q p k w hq hp hk)
  unfold lesR
  by_cases h : q < p
  · rw [if_pos h]
    rw [ltB_true h] at HL
    generalize rn p = p1 at *
    generalize rs p = p2 at *
    generalize rd p = p3 at *
    generalize rn q = q1 at *
    generalize rs q = q2 at *
    generalize rd q = q3 at *
    clear hp hq h
    go_enter Tryz.func280, Tryz.ntmps280
    go_wp2_with fail
    refine (HL.out _).mono ?_; rintro e w3 ⟨rfl, hb3⟩
    obtain ⟨H1, H2, H3, HB⟩ := boxes3 hb3
    obtain ⟨a0, a1, a2, a3, a4, a5⟩ := keep6 H1 H2 (Below.refl _ _)
    obtain ⟨b0, b1, b2, b3, b4, b5⟩ := H3.get3
    have HB := Lib.hid HB
    have H2 := Lib.hid H3
    clear hb3 H1 H3
    go_wp2
    refine bodyPost_forget (fun W => Blk W (w.heap.size + 1 + 1) #[.bool q1, .string q2, .string q3] ∧ Below w.heap.size w W) ⟨by exact Blk.set3 H2.out _ _ _, below_set3 HB.out (by omega) _ _ _⟩ ?_
    rintro WR ⟨hr9, hb9⟩
    obtain ⟨y90, y91, y92, -, -, -⟩ := hr9.get3
    exact bodyPost_ret (v := .agg #[.bool q1, .string q2, .string q3]) (by simp [results, Tryz.results280, go_sem, y90, y91, y92]) rfl ⟨rfl, hb9⟩
  · rw [if_neg h]
    rw [ltB_false h] at HL
    generalize rn p = p1 at *
    generalize rs p = p2 at *
    generalize rd p = p3 at *
    generalize rn q = q1 at *
    generalize rs q = q2 at *
    generalize rd q = q3 at *
    clear hp hq h
    go_enter Tryz.func280, Tryz.ntmps280
    go_wp2_with fail
    refine (HL.out _).mono ?_; rintro e w3 ⟨rfl, hb3⟩
    obtain ⟨H1, H2, H3, HB⟩ := boxes3 hb3
    obtain ⟨a0, a1, a2, a3, a4, a5⟩ := keep6 H1 H2 (Below.refl _ _)
    obtain ⟨b0, b1, b2, b3, b4, b5⟩ := H3.get3
    have HB := Lib.hid HB
    have H2 := Lib.hid H3
    clear hb3 H1 H3
    go_wp2
    refine bodyPost_forget (fun W => Blk W (w.heap.size + 1 + 1) #[.bool p1, .string p2, .string p3] ∧ Below w.heap.size w W) ⟨by exact Blk.set3 H2.out _ _ _, below_set3 HB.out (by omega) _ _ _⟩ ?_
    rintro WR ⟨hr9, hb9⟩
    obtain ⟨y90, y91, y92, -, -, -⟩ := hr9.get3
    exact bodyPost_ret (v := .agg #[.bool p1, .string p2, .string p3]) (by simp [results, Tryz.results280, go_sem, y90, y91, y92]) rfl ⟨rfl, hb9⟩
set_option maxRecDepth 100000 in
set_option maxHeartbeats 400000 in
theorem rgreater_any (p q : Rat) (k : Nat) (w : World) (hp : Sm k p) (hq : Sm k q) (hk : k ≤ 268435456) :
    Calls Tryz.prog 325 #[.agg #[.bool (rn p), .string (rs p), .string (rd p)], .agg #[.bool (rn q), .string (rs q), .string (rd q)]] w fun e w' => e = .returned (.agg #[.bool (rn (greR p q)), .string (rs (greR p q)), .string (rd (greR p q))]) ∧ Below w.heap.size w w' := by
  have HL := Lib.hid (fun w => rless_any p q k w hp hq hk)
  unfold greR
  by_cases h : p < q
  · rw [if_pos h]
    rw [ltB_true h] at HL
    generalize rn p = p1 at *
    generalize rs p = p2 at *
    generalize rd p = p3 at *
    generalize rn q = q1 at *
    generalize rs q = q2 at *
    generalize rd q = q3 at *
    clear hp hq h
    go_enter Tryz.func325, Tryz.ntmps325
    go_wp2_with fail
    refine (HL.out _).mono ?_; rintro e w3 ⟨rfl, hb3⟩
    obtain ⟨H1, H2, H3, HB⟩ := boxes3 hb3
    obtain ⟨a0, a1, a2, a3, a4, a5⟩ := keep6 H1 H2 (Below.refl _ _)
    obtain ⟨b0, b1, b2, b3, b4, b5⟩ := H3.get3
    have HB := Lib.hid HB
    have H2 := Lib.hid H3
    clear hb3 H1 H3
    go_wp2
    refine bodyPost_forget (fun W => Blk W (w.heap.size + 1 + 1) #[.bool q1, .string q2, .string q3] ∧ Below w.heap.size w W) ⟨by exact Blk.set3 H2.out _ _ _, below_set3 HB.out (by omega) _ _ _⟩ ?_
    rintro WR ⟨hr9, hb9⟩
    obtain ⟨y90, y91, y92, -, -, -⟩ := hr9.get3
    exact bodyPost_ret (v := .agg #[.bool q1, .string q2, .string q3]) (by simp [results, Tryz.results325, go_sem, y90, y91, y92]) rfl ⟨rfl, hb9⟩
  · rw [if_neg h]
    rw [ltB_false h] at HL
    generalize rn p = p1 at *
    generalize rs p = p2 at *
    generalize rd p = p3 at *
    generalize rn q = q1 at *
    generalize rs q = q2 at *
    generalize rd q = q3 at *
    clear hp hq h
    go_enter Tryz.func325, Tryz.ntmps325
    go_wp2_with fail
    refine (HL.out _).mono ?_; rintro e w3 ⟨rfl, hb3⟩
    obtain ⟨H1, H2, H3, HB⟩ := boxes3 hb3
    obtain ⟨a0, a1, a2, a3, a4, a5⟩ := keep6 H1 H2 (Below.refl _ _)
    obtain ⟨b0, b1, b2, b3, b4, b5⟩ := H3.get3
    have HB := Lib.hid HB
    have H2 := Lib.hid H3
    clear hb3 H1 H3
    go_wp2
    refine bodyPost_forget (fun W => Blk W (w.heap.size + 1 + 1) #[.bool p1, .string p2, .string p3] ∧ Below w.heap.size w W) ⟨by exact Blk.set3 H2.out _ _ _, below_set3 HB.out (by omega) _ _ _⟩ ?_
    rintro WR ⟨hr9, hb9⟩
    obtain ⟨y90, y91, y92, -, -, -⟩ := hr9.get3
    exact bodyPost_ret (v := .agg #[.bool p1, .string p2, .string p3]) (by simp [results, Tryz.results325, go_sem, y90, y91, y92]) rfl ⟨rfl, hb9⟩

set_option maxRecDepth 100000 in
set_option maxHeartbeats 400000 in
theorem rone_any (w : World) :
    Calls Tryz.prog 185 #[] w fun e w' => e = .returned (.agg #[.bool (rn 1), .string (rs 1), .string (rd 1)]) ∧ Below w.heap.size w w' := by
  have e1 : rn 1 = false := by decide
  have e2 : rs 1 = ⟨#[1]⟩ := by show bn 1 = _; exact bn_one
  have e3 : rd 1 = ⟨#[]⟩ := rfl
  rw [e1, e2, e3]
  clear e1 e2 e3
  go_enter Tryz.func185, Tryz.ntmps185
  go_wp2
  exact bodyPost_ret (v := .agg #[.bool false, .string ⟨#[1]⟩, .string ⟨#[]⟩]) (by simp [results, Tryz.results185, go_sem]) rfl ⟨rfl, (Below.refl _ _).alloc (Nat.le_refl _) _⟩
end Go.Proofs.Ins

set_option linter.unusedSimpArgs false
set_option linter.unusedVariables false
namespace Go.Proofs.Ins
open Go.RowKit

/-- A bound for both of two numbers as they come. -/
theorem sm_two (n1 : Bool) (s1 d1 : ByteArray) (n2 : Bool) (s2 d2 : ByteArray) : Sm (s1.size + d1.size + (s2.size + d2.size) + 1) (rq n1 s1 d1) ∧ Sm (s1.size + d1.size + (s2.size + d2.size) + 1) (rq n2 s2 d2) :=
  ⟨(sm_raw n1 s1 d1).mono (by omega), (sm_raw n2 s2 d2).mono (by omega)⟩

set_option maxRecDepth 100000 in
set_option maxHeartbeats 400000 in
theorem rsign_any (n : Bool) (s d : ByteArray) (w : World) (hs : s.size ≤ 134217728) (hd : d.size ≤ 134217728) :
    Calls Tryz.prog 171 #[.agg #[.bool n, .string s, .string d]] w fun e w' => e = .returned (.int .i64 (sg (rq n s d))) ∧ Below w.heap.size w w' := by
  have HC := Lib.hid (fun w => fix_agg n s d w (by omega) (by omega))
  generalize rq n s d = q at *
  have HS := Lib.hid (fun w => signum_any q w)
  generalize sg q = i at *
  go_enter Tryz.func171, Tryz.ntmps171
  go_wp2_with fail
  refine (HC.out _).mono ?_; rintro e w3 ⟨rfl, hb3⟩
  go_wp2_with fail
  refine (HS.out _).mono ?_; rintro e w4 ⟨rfl, hb4⟩
  obtain ⟨H2, HB⟩ := boxes1 (chain hb3 hb4 (Nat.le_refl _))
  have HB := Lib.hid HB
  clear hb3 hb4
  go_wp2
  go_ret
  exact ⟨rfl, HB.out⟩

set_option maxRecDepth 100000 in
set_option maxHeartbeats 400000 in
theorem rmin_any (n1 : Bool) (s1 d1 : ByteArray) (n2 : Bool) (s2 d2 : ByteArray) (w : World) (h1 : s1.size + d1.size ≤ 134217720) (h2 : s2.size + d2.size ≤ 134217720) :
    Calls Tryz.prog 279 #[.agg #[.bool n1, .string s1, .string d1], .agg #[.bool n2, .string s2, .string d2]] w fun e w' => e = .returned (rv (lesR (rq n1 s1 d1) (rq n2 s2 d2))) ∧ Below w.heap.size w w' := by
  have HC1 := Lib.hid (fun w => fix_agg n1 s1 d1 w (by omega) (by omega))
  have HC2 := Lib.hid (fun w => fix_agg n2 s2 d2 w (by omega) (by omega))
  obtain ⟨m1, m2⟩ := sm_two n1 s1 d1 n2 s2 d2
  have HM := Lib.hid (fun w => rlesser_any _ _ _ w m1 m2 (by omega))
  clear m1 m2
  unfold rv
  generalize rq n1 s1 d1 = p at *
  generalize rq n2 s2 d2 = q at *
  generalize lesR (p) (q) = r at *
  generalize rn r = r1 at *
  generalize rs r = r2 at *
  generalize rd r = r3 at *
  generalize rn p = p1 at *
  generalize rs p = p2 at *
  generalize rd p = p3 at *
  generalize rn q = q1 at *
  generalize rs q = q2 at *
  generalize rd q = q3 at *
  go_enter Tryz.func279, Tryz.ntmps279
  go_wp2
  refine wp_forget (fun W => Blk W w.heap.size #[.bool n1, .string s1, .string d1] ∧ Blk W (w.heap.size + 1) #[.bool n2, .string s2, .string d2] ∧ Blk W (w.heap.size + 1 + 1) #[.bool false, .string ⟨#[]⟩, .string ⟨#[]⟩] ∧ Below w.heap.size w W) (three_boxes w _ _ _ _ _ _) ?_
  rintro W ⟨H1, H2, H3, HB⟩
  obtain ⟨k0, k1, k2⟩ := H1.later3
  obtain ⟨k3, k4, k5⟩ := H2.later3
  refine wp_region_qbt 5 (by kernel_rfl) (by kernel_rfl) ?_
  simp only [List.take_succ_cons, List.take_zero, List.drop_succ_cons, List.drop_zero]
  repeat (first | go_big_quiet_skip | quiet_step (first | with_reducible exact Calls.later (HC1.out _) | with_reducible exact Calls.later (HC2.out _) | with_reducible exact Calls.later (HM.out _)))
  clear k0 k1 k2 k3 k4 k5
  refine wpQuiet_nil ?_
  intro W1 hb1
  have HB := Lib.hid (chain HB hb1 (Nat.le_refl _))
  have H2 := Lib.hid (H3.on hb1)
  obtain ⟨a0, a1, a2, a3, a4, a5⟩ := H2.out.get3
  clear hb1 H3 H1
  go_wp2
  refine bodyPost_forget (fun W => Blk W (w.heap.size + 1 + 1) #[.bool r1, .string r2, .string r3] ∧ Below w.heap.size w W) ⟨by exact Blk.set3 H2.out _ _ _, below_set3 HB.out (by omega) _ _ _⟩ ?_
  rintro WR ⟨hr9, hb9⟩
  obtain ⟨y90, y91, y92, -, -, -⟩ := hr9.get3
  exact bodyPost_ret (v := .agg #[.bool r1, .string r2, .string r3]) (by simp [results, Tryz.results279, go_sem, y90, y91, y92]) rfl ⟨rfl, hb9⟩

set_option maxRecDepth 100000 in
set_option maxHeartbeats 400000 in
theorem rmax_any (n1 : Bool) (s1 d1 : ByteArray) (n2 : Bool) (s2 d2 : ByteArray) (w : World) (h1 : s1.size + d1.size ≤ 134217720) (h2 : s2.size + d2.size ≤ 134217720) :
    Calls Tryz.prog 278 #[.agg #[.bool n1, .string s1, .string d1], .agg #[.bool n2, .string s2, .string d2]] w fun e w' => e = .returned (rv (greR (rq n1 s1 d1) (rq n2 s2 d2))) ∧ Below w.heap.size w w' := by
  have HC1 := Lib.hid (fun w => fix_agg n1 s1 d1 w (by omega) (by omega))
  have HC2 := Lib.hid (fun w => fix_agg n2 s2 d2 w (by omega) (by omega))
  obtain ⟨m1, m2⟩ := sm_two n1 s1 d1 n2 s2 d2
  have HM := Lib.hid (fun w => rgreater_any _ _ _ w m1 m2 (by omega))
  clear m1 m2
  unfold rv
  generalize rq n1 s1 d1 = p at *
  generalize rq n2 s2 d2 = q at *
  generalize greR (p) (q) = r at *
  generalize rn r = r1 at *
  generalize rs r = r2 at *
  generalize rd r = r3 at *
  generalize rn p = p1 at *
  generalize rs p = p2 at *
  generalize rd p = p3 at *
  generalize rn q = q1 at *
  generalize rs q = q2 at *
  generalize rd q = q3 at *
  go_enter Tryz.func278, Tryz.ntmps278
  go_wp2
  refine wp_forget (fun W => Blk W w.heap.size #[.bool n1, .string s1, .string d1] ∧ Blk W (w.heap.size + 1) #[.bool n2, .string s2, .string d2] ∧ Blk W (w.heap.size + 1 + 1) #[.bool false, .string ⟨#[]⟩, .string ⟨#[]⟩] ∧ Below w.heap.size w W) (three_boxes w _ _ _ _ _ _) ?_
  rintro W ⟨H1, H2, H3, HB⟩
  obtain ⟨k0, k1, k2⟩ := H1.later3
  obtain ⟨k3, k4, k5⟩ := H2.later3
  refine wp_region_qbt 5 (by kernel_rfl) (by kernel_rfl) ?_
  simp only [List.take_succ_cons, List.take_zero, List.drop_succ_cons, List.drop_zero]
  repeat (first | go_big_quiet_skip | quiet_step (first | with_reducible exact Calls.later (HC1.out _) | with_reducible exact Calls.later (HC2.out _) | with_reducible exact Calls.later (HM.out _)))
  clear k0 k1 k2 k3 k4 k5
  refine wpQuiet_nil ?_
  intro W1 hb1
  have HB := Lib.hid (chain HB hb1 (Nat.le_refl _))
  have H2 := Lib.hid (H3.on hb1)
  obtain ⟨a0, a1, a2, a3, a4, a5⟩ := H2.out.get3
  clear hb1 H3 H1
  go_wp2
  refine bodyPost_forget (fun W => Blk W (w.heap.size + 1 + 1) #[.bool r1, .string r2, .string r3] ∧ Below w.heap.size w W) ⟨by exact Blk.set3 H2.out _ _ _, below_set3 HB.out (by omega) _ _ _⟩ ?_
  rintro WR ⟨hr9, hb9⟩
  obtain ⟨y90, y91, y92, -, -, -⟩ := hr9.get3
  exact bodyPost_ret (v := .agg #[.bool r1, .string r2, .string r3]) (by simp [results, Tryz.results278, go_sem, y90, y91, y92]) rfl ⟨rfl, hb9⟩


set_option maxRecDepth 100000 in
set_option maxHeartbeats 400000 in
theorem size_any (i : Int) (w : World) (h1 : -9223372036854775808 ≤ i) (h2 : i ≤ 9223372036854775807) :
    Calls Tryz.prog 207 #[.int .i64 i] w fun e w' => e = .returned (.int .u64 (i.natAbs : Int)) ∧ w = w' := by
  by_cases h : i < 0
  · have e1 : IntKind.u64.wrap (IntKind.u64.wrap (-(i + 1)) + 1) = ((i.natAbs : Nat) : Int) := by
      simp only [IntKind.wrap, IntKind.bits, IntKind.signed]; simp; omega
    have HE := Lib.hid e1
    have h3 : -(i + 1) ≤ 9223372036854775807 := by omega
    have h4 : 0 ≤ -(i + 1) := by omega
    have h5 : -(i + 1) + 1 = (i.natAbs : Int) := by omega
    have HF := Lib.hid h5
    clear h5 e1
    go_enter Tryz.func207, Tryz.ntmps207
    go_wp2
    go_ret
    exact ⟨ret_int (by first | exact HF.out | exact HE.out | omega), rfl⟩
  · have e1 : i = ((i.natAbs : Nat) : Int) := by omega
    have HE := Lib.hid e1
    have h0 : 0 ≤ i := by omega
    clear e1
    go_enter Tryz.func207, Tryz.ntmps207
    go_wp2
    go_ret
    exact ⟨ret_int (by omega), rfl⟩

set_option maxRecDepth 100000 in
set_option maxHeartbeats 400000 in
theorem rint_any (i : Int) (w : World) (h1 : -9223372036854775808 ≤ i) (h2 : i ≤ 9223372036854775807) :
    Calls Tryz.prog 134 #[.int .i64 i] w fun e w' => e = .returned (.agg #[.bool (rn (i : Rat)), .string (rs (i : Rat)), .string (rd (i : Rat))]) ∧ Below w.heap.size w w' := by
  have e1 : rn (i : Rat) = decide (i < 0) := rfl
  have e2 : rs (i : Rat) = bn i.natAbs := rfl
  have e3 : rd (i : Rat) = ⟨#[]⟩ := rfl
  rw [e1, e2, e3]
  have HS := Lib.hid (fun w => size_any i w h1 h2)
  have HF := Lib.hid (fun w => rfromUint_any i.natAbs w (by omega))
  generalize bn i.natAbs = t at *
  generalize (i.natAbs : Int) = j at *
  clear e1 e2 e3
  go_enter Tryz.func134, Tryz.ntmps134
  go_wp2_with fail
  refine (HS.out _).mono ?_; rintro e w3 ⟨rfl, rfl⟩
  go_wp2_with fail
  refine (HF.out _).mono ?_; rintro e w3 ⟨rfl, hb3⟩
  obtain ⟨H2, HB⟩ := boxes1 hb3
  obtain ⟨b0, b1, b2, f0, f1, f2⟩ := H2.get3
  have HB := Lib.hid HB
  have H2 := Lib.hid H2
  clear hb3
  go_wp2
  refine bodyPost_forget (fun W => Blk W (w.heap.size) #[.bool (decide (i < 0)), .string t, .string ⟨#[]⟩] ∧ Below w.heap.size w W) ⟨by exact Blk.set3 H2.out _ _ _, below_set3 HB.out (by omega) _ _ _⟩ ?_
  rintro WR ⟨hr9, hb9⟩
  obtain ⟨y90, y91, y92, -, -, -⟩ := hr9.get3
  exact bodyPost_ret (v := .agg #[.bool (decide (i < 0)), .string t, .string ⟨#[]⟩]) (by simp [results, Tryz.results134, go_sem, y90, y91, y92]) rfl ⟨rfl, hb9⟩
end Go.Proofs.Ins

set_option linter.unusedSimpArgs false
set_option linter.unusedVariables false
namespace Go.Proofs.Ins
open Go.RowKit

set_option maxRecDepth 100000 in
set_option maxHeartbeats 400000 in
theorem rmake_no (neg : Bool) (a b : ByteArray) (w : World) (hb : b.size ≤ 134217720) (h0 : nv b = 0) :
    Calls Tryz.prog 234 #[.bool neg, .string a, .string b] w fun e w' => e = .returned (rvB 0 false) ∧ Below w.heap.size w w' := by
  have HL := Lib.hid (fun w => rlimbs_any b w (by omega))
  rw [h0] at HL
  clear h0
  go_enter Tryz.func234, Tryz.ntmps234
  go_wp2_with fail
  refine (HL.out _).mono ?_; rintro e w3 ⟨ad, ld, cd, rfl, u1, u2, c3, c4⟩
  have hl := c3.zero_iff.mp rfl
  subst hl
  obtain ⟨H2, HB⟩ := boxes1 c4
  obtain ⟨b0, b1, b2, f0, f1, f2⟩ := H2.get3
  have HB := Lib.hid HB
  have H2 := Lib.hid H2
  clear c3 c4
  go_wp2
  refine bodyPost_forget (fun W => Blk W w.heap.size #[.bool false, .string ⟨#[]⟩, .string ⟨#[]⟩] ∧ Below w.heap.size w W) ⟨by exact Blk.set3 H2.out _ _ _, below_set3 HB.out (by omega) _ _ _⟩ ?_
  rintro WR ⟨hr9, hb9⟩
  obtain ⟨y90, y91, y92, -, -, -⟩ := hr9.get3
  exact bodyPost_ret (v := rvB 0 false) (by simp [results, Tryz.results234, go_sem, y90, y91, y92, rvB, rn_zero, rs_zero, rd_zero]) rfl ⟨rfl, hb9⟩

set_option maxRecDepth 100000 in
set_option maxHeartbeats 400000 in
theorem rmake_yes (neg : Bool) (a b : ByteArray) (w : World) (ha : a.size ≤ 134217720) (hb : b.size ≤ 134217720) (h0 : 0 < nv b) :
    Calls Tryz.prog 234 #[.bool neg, .string a, .string b] w fun e w' => e = .returned (rvB (fr neg (nv a) (nv b)) true) ∧ Below w.heap.size w w' := by
  have HL := Lib.hid (fun w => rlimbs_any b w (by omega))
  have HA := Lib.hid (fun w => rlimbs_any a w (by omega))
  have ka : nv a < 256 ^ (a.size + b.size) := Nat.lt_of_lt_of_le (nv_lt a) (Nat.pow_le_pow_right (by omega) (by omega))
  have kb : nv b < 256 ^ (a.size + b.size) := Nat.lt_of_lt_of_le (nv_lt b) (Nat.pow_le_pow_right (by omega) (by omega))
  have KA := Lib.hid ka
  have KB := Lib.hid kb
  have HR := Lib.hid (fun w ax lx cx ay ly cy h1 h2 => rreduced_any neg ax ay lx ly cx cy (nv a) (nv b) (a.size + b.size) w h1 h2 h0 ka kb (by omega))
  unfold rvB
  generalize fr neg (nv a) (nv b) = r at *
  generalize rn r = r1 at *
  generalize rs r = r2 at *
  generalize rd r = r3 at *
  generalize nv a = x at *
  generalize nv b = y at *
  clear ka kb
  go_enter Tryz.func234, Tryz.ntmps234
  go_wp2_with fail
  refine (HL.out _).mono ?_; rintro e w3 ⟨ad, ld, cd, rfl, u1, u2, c3, c4⟩
  have hl : ld ≠ 0 := fun e => by have := c3.zero_iff.mpr e; omega
  have hl0 : ((ld : Int) == 0) = false := by simp; omega
  have l3 := RetLimbs.lim (w := w) c3 KB.out (by omega)
  obtain ⟨H2, HB⟩ := boxes1 c4
  have D3 := Lib.hid c3
  have HB3 := Lib.hid HB
  have H3 := Lib.hid H2
  clear c3 c4 H2 HB hl
  go_wp2_with fail
  refine (HA.out _).mono ?_; rintro e w4 ⟨an, ln, cn, rfl, u3, u4, c3, c4⟩
  have l4 := RetLimbs.lim (w := w) c3 KA.out (by omega)
  have N4 := Lib.hid c3
  have D4 := Lib.hid (D3.out.below c4 (Nat.le_refl _))
  have HB4 := Lib.hid (chain HB3.out c4 (Nat.le_refl _))
  have H4 := Lib.hid (H3.out.on c4)
  clear c3 c4 D3 HB3 H3
  go_wp2_with fail
  refine (HR.out _ _ _ _ _ _ _ ⟨u3, u4, by omega, N4.out⟩ ⟨u1, u2, by omega, D4.out⟩).mono ?_; rintro e w5 ⟨rfl, c4⟩
  have HB := Lib.hid (chain HB4.out c4 (Nat.le_refl _))
  have H2 := Lib.hid (H4.out.on c4)
  obtain ⟨b0, b1, b2, f0, f1, f2⟩ := H2.out.get3
  clear c4 D4 N4 HB4 H4
  go_wp2
  refine bodyPost_forget (fun W => Blk W w.heap.size #[.bool r1, .string r2, .string r3] ∧ Below w.heap.size w W) ⟨by exact Blk.set3 H2.out _ _ _, below_set3 HB.out (by omega) _ _ _⟩ ?_
  rintro WR ⟨hr9, hb9⟩
  obtain ⟨y90, y91, y92, -, -, -⟩ := hr9.get3
  exact bodyPost_ret (v := .tuple #[.agg #[.bool r1, .string r2, .string r3], .bool true]) (by simp [results, Tryz.results234, go_sem, y90, y91, y92]) rfl ⟨rfl, hb9⟩

theorem fr_ratio (i j : Int) (hj : 0 < j) : fr (!(decide (i < 0) == decide (j < 0))) i.natAbs j.natAbs = (i : Rat) / (j : Rat) := by
  have hj0 : (j : Rat) ≠ 0 := by
    intro e
    have : j = 0 := by exact_mod_cast e
    omega
  rw [fr_div hj0]
  have e1 : rn (i : Rat) = decide (i < 0) := rfl
  have e2 : rn (j : Rat) = decide (j < 0) := rfl
  have e3 : nm (i : Rat) = i.natAbs := rfl
  have e4 : nm (j : Rat) = j.natAbs := rfl
  have e5 : (i : Rat).den = 1 := rfl
  have e6 : (j : Rat).den = 1 := rfl
  rw [e1, e2, e3, e4, e5, e6, Nat.mul_one, Nat.one_mul]
  rfl

set_option maxRecDepth 100000 in
set_option maxHeartbeats 400000 in
theorem rfraction_any (i j : Int) (w : World) (h1 : -9223372036854775808 ≤ i) (h2 : i ≤ 9223372036854775807) (h3 : 0 < j) (h4 : j ≤ 9223372036854775807) :
    Calls Tryz.prog 159 #[.int .i64 i, .int .i64 j] w fun e w' => e = .returned (rvB ((i : Rat) / (j : Rat)) true) ∧ Below w.heap.size w w' := by
  have hs1 : (bn i.natAbs).size ≤ 8 := bn_size_le (by omega)
  have hs2 : (bn j.natAbs).size ≤ 8 := bn_size_le (by omega)
  have hM : ∀ w, Calls Tryz.prog 234 #[.bool (!(decide (i < 0) == decide (j < 0))), .string (bn i.natAbs), .string (bn j.natAbs)] w fun e w' => e = .returned (rvB ((i : Rat) / (j : Rat)) true) ∧ Below w.heap.size w w' := fun w => by
    have := rmake_yes (!(decide (i < 0) == decide (j < 0))) (bn i.natAbs) (bn j.natAbs) w (by omega) (by omega) (by rw [nv_bn]; omega)
    rw [nv_bn, nv_bn, fr_ratio i j h3] at this
    exact this
  have hj : decide (j < 0) = false := by simp; omega
  rw [hj] at hM
  have HS1 := Lib.hid (fun w => size_any i w h1 h2)
  have HS2 := Lib.hid (fun w => size_any j w (by omega) h4)
  have HF1 := Lib.hid (fun w => rfromUint_any i.natAbs w (by omega))
  have HF2 := Lib.hid (fun w => rfromUint_any j.natAbs w (by omega))
  have HM := Lib.hid hM
  unfold rvB at *
  generalize (i : Rat) / (j : Rat) = r at *
  generalize rn r = r1 at *
  generalize rs r = r2 at *
  generalize rd r = r3 at *
  generalize bn i.natAbs = t1 at *
  generalize bn j.natAbs = t2 at *
  generalize (i.natAbs : Int) = z1 at *
  generalize (j.natAbs : Int) = z2 at *
  clear hM
  have hnn : (!(decide (i < 0) == false)) = decide (i < 0) := by cases decide (i < 0) <;> rfl
  rw [hnn] at HM
  clear hnn
  by_cases hi : i < 0
  · rw [decide_eq_true hi] at HM
    as_aux_lemma =>
    go_enter Tryz.func159, Tryz.ntmps159
    go_wp2_with fail
    refine (HS1.out _).mono ?_; rintro e w3 ⟨rfl, rfl⟩
    go_wp2_with fail
    refine (HF1.out _).mono ?_; rintro e w3 ⟨rfl, c3⟩
    go_wp2_with fail
    refine (HS2.out _).mono ?_; rintro e w4 ⟨rfl, rfl⟩
    go_wp2_with fail
    refine (HF2.out _).mono ?_; rintro e w4 ⟨rfl, c4⟩
    go_wp2_with fail
    refine (HM.out _).mono ?_; rintro e w5 ⟨rfl, c5⟩
    obtain ⟨H2, HB⟩ := boxes1 (chain (chain c3 c4 (Nat.le_refl _)) c5 (Nat.le_refl _))
    obtain ⟨b0, b1, b2, f0, f1, f2⟩ := H2.get3
    have HB := Lib.hid HB
    have H2 := Lib.hid H2
    clear c3 c4 c5
    go_wp2
    refine bodyPost_forget (fun W => Blk W w.heap.size #[.bool r1, .string r2, .string r3] ∧ Below w.heap.size w W) ⟨by exact Blk.set3 H2.out _ _ _, below_set3 HB.out (by omega) _ _ _⟩ ?_
    rintro WR ⟨hr9, hb9⟩
    obtain ⟨y90, y91, y92, -, -, -⟩ := hr9.get3
    exact bodyPost_ret (v := .tuple #[.agg #[.bool r1, .string r2, .string r3], .bool true]) (by simp [results, Tryz.results159, go_sem, y90, y91, y92]) rfl ⟨rfl, hb9⟩
  · have hi3 := hi
    have hi2 : 0 ≤ i := by omega
    clear hi hi3
    as_aux_lemma =>
    go_enter Tryz.func159, Tryz.ntmps159
    go_wp2_with fail
    refine (HS1.out _).mono ?_; rintro e w3 ⟨rfl, rfl⟩
    go_wp2_with fail
    refine (HF1.out _).mono ?_; rintro e w3 ⟨rfl, c3⟩
    go_wp2_with fail
    refine (HS2.out _).mono ?_; rintro e w4 ⟨rfl, rfl⟩
    go_wp2_with fail
    refine (HF2.out _).mono ?_; rintro e w4 ⟨rfl, c4⟩
    go_wp2_with fail
    refine (HM.out _).mono ?_; rintro e w5 ⟨rfl, c5⟩
    obtain ⟨H2, HB⟩ := boxes1 (chain (chain c3 c4 (Nat.le_refl _)) c5 (Nat.le_refl _))
    obtain ⟨b0, b1, b2, f0, f1, f2⟩ := H2.get3
    have HB := Lib.hid HB
    have H2 := Lib.hid H2
    clear c3 c4 c5
    go_wp2
    refine bodyPost_forget (fun W => Blk W w.heap.size #[.bool r1, .string r2, .string r3] ∧ Below w.heap.size w W) ⟨by exact Blk.set3 H2.out _ _ _, below_set3 HB.out (by omega) _ _ _⟩ ?_
    rintro WR ⟨hr9, hb9⟩
    obtain ⟨y90, y91, y92, -, -, -⟩ := hr9.get3
    exact bodyPost_ret (v := .tuple #[.agg #[.bool r1, .string r2, .string r3], .bool true]) (by simp [results, Tryz.results159, go_sem, y90, y91, y92]) rfl ⟨rfl, hb9⟩
end Go.Proofs.Ins

set_option linter.unusedSimpArgs false
set_option linter.unusedVariables false
namespace Go.Proofs.Ins
open Go.RowKit

set_option maxRecDepth 100000 in
set_option maxHeartbeats 400000 in
theorem ratio_any (i j : Int) (w : World) (h1 : -9223372036854775808 ≤ i) (h2 : i ≤ 9223372036854775807) (h3 : 0 < j) (h4 : j ≤ 9223372036854775807) :
    Calls Tryz.prog 82 #[.int .i64 i, .int .i64 j] w fun e w' => e = .returned (.agg #[.bool (rn ((i : Rat) / (j : Rat))), .string (rs ((i : Rat) / (j : Rat))), .string (rd ((i : Rat) / (j : Rat)))]) ∧ Below w.heap.size w w' := by
  have HF := Lib.hid (fun w => rfraction_any i j w h1 h2 h3 h4)
  unfold rvB at HF
  generalize (i : Rat) / (j : Rat) = r at *
  generalize rn r = r1 at *
  generalize rs r = r2 at *
  generalize rd r = r3 at *
  go_enter Tryz.func82, Tryz.ntmps82
  go_wp2_with fail
  refine (HF.out _).mono ?_; rintro e w3 ⟨rfl, hb3⟩
  obtain ⟨H2, HB⟩ := boxes1 hb3
  have z := H2.lt
  obtain ⟨b0, b1, b2, f0, f1, f2⟩ := H2.get3
  have HB := Lib.hid HB
  have H2 := Lib.hid H2
  clear hb3
  have q9 := below_set3 HB.out (Nat.le_refl _) (.bool r1) (.string r2) (.string r3)
  go_wp2
  refine bodyPost_forget (fun W => Blk W w.heap.size #[.bool r1, .string r2, .string r3] ∧ Below w.heap.size w W) ⟨by exact (Blk.set3 H2.out _ _ _).alloc _, by exact q9.alloc q9.size _⟩ ?_
  rintro WR ⟨hr9, hb9⟩
  obtain ⟨y90, y91, y92, -, -, -⟩ := hr9.get3
  exact bodyPost_ret (v := .agg #[.bool r1, .string r2, .string r3]) (by simp [results, Tryz.results82, go_sem, y90, y91, y92]) rfl ⟨rfl, hb9⟩

set_option maxRecDepth 100000 in
set_option maxHeartbeats 400000 in
theorem whole_any (i : Int) (w : World) (h1 : -9223372036854775808 ≤ i) (h2 : i ≤ 9223372036854775807) :
    Calls Tryz.prog 59 #[.int .i64 i] w fun e w' => e = .returned (.agg #[.bool (rn (i : Rat)), .string (rs (i : Rat)), .string (rd (i : Rat))]) ∧ Below w.heap.size w w' := by
  have HF := Lib.hid (fun w => rint_any i w h1 h2)
  generalize (i : Rat) = r at *
  generalize rn r = r1 at *
  generalize rs r = r2 at *
  generalize rd r = r3 at *
  go_enter Tryz.func59, Tryz.ntmps59
  go_wp2_with fail
  refine (HF.out _).mono ?_; rintro e w3 ⟨rfl, hb3⟩
  obtain ⟨H2, HB⟩ := boxes1 hb3
  obtain ⟨b0, b1, b2, f0, f1, f2⟩ := H2.get3
  have HB := Lib.hid HB
  have H2 := Lib.hid H2
  clear hb3
  go_wp2
  refine bodyPost_forget (fun W => Blk W (w.heap.size) #[.bool r1, .string r2, .string r3] ∧ Below w.heap.size w W) ⟨by exact Blk.set3 H2.out _ _ _, below_set3 HB.out (by omega) _ _ _⟩ ?_
  rintro WR ⟨hr9, hb9⟩
  obtain ⟨y90, y91, y92, -, -, -⟩ := hr9.get3
  exact bodyPost_ret (v := .agg #[.bool r1, .string r2, .string r3]) (by simp [results, Tryz.results59, go_sem, y90, y91, y92]) rfl ⟨rfl, hb9⟩

/-- What Amount gives. -/
def amt (x : Nat) : Rat := if x % 5 = 0 then (((x / 5 % 23 : Nat) : Int) : Rat) / (((1 + x / 115 % 6 : Nat) : Int) : Rat) else if x % 5 = 1 then (((10 * (x / 5 % 4) : Nat) : Int) : Rat) else (((x / 5 % 13 : Nat) : Int) : Rat)

theorem amt_0 {x : Nat} (h : x % 5 = 0) : amt x = (((x / 5 % 23 : Nat) : Int) : Rat) / (((1 + x / 115 % 6 : Nat) : Int) : Rat) := by unfold amt; rw [if_pos h]
theorem amt_1 {x : Nat} (h : x % 5 = 1) : amt x = (((10 * (x / 5 % 4) : Nat) : Int) : Rat) := by unfold amt; rw [if_neg (by omega), if_pos h]
theorem amt_2 {x : Nat} (h : ¬ x % 5 = 0) (h1 : ¬ x % 5 = 1) : amt x = (((x / 5 % 13 : Nat) : Int) : Rat) := by unfold amt; rw [if_neg h, if_neg h1]

set_option maxRecDepth 100000 in
set_option maxHeartbeats 400000 in
theorem amount_any (x : Nat) (w : World) (hx : x ≤ 65535) :
    Calls Tryz.prog 62 #[.int .u16 (x : Int)] w fun e w' => e = .returned (.agg #[.bool (rn (amt x)), .string (rs (amt x)), .string (rd (amt x))]) ∧ Below w.heap.size w w' := by
  by_cases h : x % 5 = 0
  · have hF := fun w => ratio_any ((x / 5 % 23 : Nat) : Int) ((1 + x / 115 % 6 : Nat) : Int) w (by omega) (by omega) (by omega) (by omega)
    rw [← amt_0 h, show ((x / 5 % 23 : Nat) : Int) = (x : Int) / 5 % 23 by omega, show ((1 + x / 115 % 6 : Nat) : Int) = 1 + (x : Int) / 115 % 6 by omega] at hF
    have HF := Lib.hid hF
    generalize amt x = r at *
    generalize rn r = r1 at *
    generalize rs r = r2 at *
    generalize rd r = r3 at *
    clear hF
    go_enter Tryz.func62, Tryz.ntmps62
    go_wp2_with fail
    refine (HF.out _).mono ?_; rintro e w3 ⟨rfl, hb3⟩
    obtain ⟨H2, HB⟩ := boxes1 hb3
    obtain ⟨b0, b1, b2, f0, f1, f2⟩ := H2.get3
    have HB := Lib.hid HB
    have H2 := Lib.hid H2
    clear hb3
    go_wp2
    refine bodyPost_forget (fun W => Blk W (w.heap.size) #[.bool r1, .string r2, .string r3] ∧ Below w.heap.size w W) ⟨by exact Blk.set3 H2.out _ _ _, below_set3 HB.out (by omega) _ _ _⟩ ?_
    rintro WR ⟨hr9, hb9⟩
    obtain ⟨y90, y91, y92, -, -, -⟩ := hr9.get3
    exact bodyPost_ret (v := .agg #[.bool r1, .string r2, .string r3]) (by simp [results, Tryz.results62, go_sem, y90, y91, y92]) rfl ⟨rfl, hb9⟩
  · by_cases h1 : x % 5 = 1
    · have hF := fun w => whole_any ((10 * (x / 5 % 4) : Nat) : Int) w (by omega) (by omega)
      rw [← amt_1 h1, show ((10 * (x / 5 % 4) : Nat) : Int) = 10 * ((x : Int) / 5 % 4) by omega] at hF
      have HF := Lib.hid hF
      generalize amt x = r at *
      generalize rn r = r1 at *
      generalize rs r = r2 at *
      generalize rd r = r3 at *
      clear hF
      go_enter Tryz.func62, Tryz.ntmps62
      go_wp2_with fail
      refine (HF.out _).mono ?_; rintro e w3 ⟨rfl, hb3⟩
      obtain ⟨H2, HB⟩ := boxes1 hb3
      obtain ⟨b0, b1, b2, f0, f1, f2⟩ := H2.get3
      have HB := Lib.hid HB
      have H2 := Lib.hid H2
      clear hb3
      go_wp2
      refine bodyPost_forget (fun W => Blk W (w.heap.size) #[.bool r1, .string r2, .string r3] ∧ Below w.heap.size w W) ⟨by exact Blk.set3 H2.out _ _ _, below_set3 HB.out (by omega) _ _ _⟩ ?_
      rintro WR ⟨hr9, hb9⟩
      obtain ⟨y90, y91, y92, -, -, -⟩ := hr9.get3
      exact bodyPost_ret (v := .agg #[.bool r1, .string r2, .string r3]) (by simp [results, Tryz.results62, go_sem, y90, y91, y92]) rfl ⟨rfl, hb9⟩
    · have hF := fun w => whole_any ((x / 5 % 13 : Nat) : Int) w (by omega) (by omega)
      rw [← amt_2 h h1, show ((x / 5 % 13 : Nat) : Int) = (x : Int) / 5 % 13 by omega] at hF
      have HF := Lib.hid hF
      have h3 : ((x : Int) % 5 == 0) = false := by simp; omega
      have h4 : ((x : Int) % 5 == 1) = false := by simp; omega
      generalize amt x = r at *
      generalize rn r = r1 at *
      generalize rs r = r2 at *
      generalize rd r = r3 at *
      clear hF
      go_enter Tryz.func62, Tryz.ntmps62
      go_wp2_with fail
      refine (HF.out _).mono ?_; rintro e w3 ⟨rfl, hb3⟩
      obtain ⟨H2, HB⟩ := boxes1 hb3
      obtain ⟨b0, b1, b2, f0, f1, f2⟩ := H2.get3
      have HB := Lib.hid HB
      have H2 := Lib.hid H2
      clear hb3
      go_wp2
      refine bodyPost_forget (fun W => Blk W (w.heap.size) #[.bool r1, .string r2, .string r3] ∧ Below w.heap.size w W) ⟨by exact Blk.set3 H2.out _ _ _, below_set3 HB.out (by omega) _ _ _⟩ ?_
      rintro WR ⟨hr9, hb9⟩
      obtain ⟨y90, y91, y92, -, -, -⟩ := hr9.get3
      exact bodyPost_ret (v := .agg #[.bool r1, .string r2, .string r3]) (by simp [results, Tryz.results62, go_sem, y90, y91, y92]) rfl ⟨rfl, hb9⟩

set_option maxRecDepth 100000 in
set_option maxHeartbeats 400000 in
theorem few_any (n : Bool) (s d : ByteArray) (w : World) (hs : s.size ≤ 140737488351232) (hd : d.size ≤ 140737488351232) :
    Calls Tryz.prog 86 #[.agg #[.bool n, .string s, .string d]] w fun e w' => e = .returned (.bool (decide (s.size ≤ 24 ∧ d.size ≤ 24))) ∧ Below w.heap.size w w' := by
  by_cases h : s.size ≤ 24
  · by_cases h1 : d.size ≤ 24
    · rw [decide_eq_true ⟨h, h1⟩]
      have h3 : decide ((d.size : Int) ≤ 24) = true := by simp; omega
      go_enter Tryz.func86, Tryz.ntmps86
      go_wp2
      go_ret
      exact ⟨rfl, (Below.refl _ _).alloc (Nat.le_refl _) _⟩
    · rw [decide_eq_false (fun e => h1 e.2)]
      have h2 : decide (d.size ≤ 24) = false := decide_eq_false h1
      have h3 : decide ((d.size : Int) ≤ 24) = false := by simp; omega
      go_enter Tryz.func86, Tryz.ntmps86
      go_wp2
      go_ret
      exact ⟨rfl, (Below.refl _ _).alloc (Nat.le_refl _) _⟩
  · rw [decide_eq_false (fun e => h e.1)]
    have h2 : decide (s.size ≤ 24) = false := decide_eq_false h
    have h3 : decide ((s.size : Int) ≤ 24) = false := by simp; omega
    go_enter Tryz.func86, Tryz.ntmps86
    go_wp2
    go_ret
    exact ⟨rfl, (Below.refl _ _).alloc (Nat.le_refl _) _⟩
end Go.Proofs.Ins
