/- The walks of insolvencyref1: Plus at all numbers, Signum, Opposite, Minus, Less, Lesser, Greater, One. -/
import Derived.Test.YtobbllakdjampaaGreatDoorR12
set_option linter.unusedSimpArgs false
set_option linter.unusedVariables false
namespace Go.Proofs.Ins
open Go.RowKit

set_option maxRecDepth 100000 in
set_option maxHeartbeats 400000 in
theorem plus_left (p1 : Bool) (p3 : ByteArray) (q1 : Bool) (q2 q3 : ByteArray) (w : World) :
    Calls Tryz.prog 75 #[.agg #[.bool p1, .string ⟨#[]⟩, .string p3], .agg #[.bool q1, .string q2, .string q3]] w fun e w' => e = .returned (.agg #[.bool q1, .string q2, .string q3]) ∧ Below w.heap.size w w' := by
  go_enter Tryz.func75, Tryz.ntmps75
  go_wp2
  exact bodyPost_ret (v := .agg #[.bool q1, .string q2, .string q3]) (by simp [results, Tryz.results75, go_sem]) rfl ⟨rfl, (three_boxes w _ _ _ _ _ _).2.2.2⟩

set_option maxRecDepth 100000 in
set_option maxHeartbeats 400000 in
theorem plus_right (p1 : Bool) (p2 p3 : ByteArray) (q1 : Bool) (q3 : ByteArray) (w : World) (h1 : p2.toList.isEmpty = false) (h2 : ¬ p2.toList = []) :
    Calls Tryz.prog 75 #[.agg #[.bool p1, .string p2, .string p3], .agg #[.bool q1, .string ⟨#[]⟩, .string q3]] w fun e w' => e = .returned (.agg #[.bool p1, .string p2, .string p3]) ∧ Below w.heap.size w w' := by
  go_enter Tryz.func75, Tryz.ntmps75
  go_wp2
  exact bodyPost_ret (v := .agg #[.bool p1, .string p2, .string p3]) (by simp [results, Tryz.results75, go_sem]) rfl ⟨rfl, (three_boxes w _ _ _ _ _ _).2.2.2⟩

theorem rplus_any (p q : Rat) (k : Nat) (w : World) (hp : Sm k p) (hq : Sm k q) (hk : k ≤ 268435456) :
    Calls Tryz.prog 75 #[.agg #[.bool (rn p), .string (rs p), .string (rd p)], .agg #[.bool (rn q), .string (rs q), .string (rd q)]] w fun e w' => e = .returned (.agg #[.bool (rn (p + q)), .string (rs (p + q)), .string (rd (p + q))]) ∧ Below w.heap.size w w' := by
  by_cases h1 : p = 0
  · subst h1; rw [Rat.zero_add]; exact plus_left _ _ _ _ _ w
  · by_cases h2 : q = 0
    · subst h2; rw [Rat.add_zero]; exact plus_right _ _ _ _ _ w (rs_ne h1).1 (rs_ne h1).2
    · exact plus_pos _ _ _ _ _ _ _ _ _ _ _ _ _ _ (pluC_of p q k hp hq hk) hk (rs_ne h1).1 (rs_ne h1).2 (rs_ne h2).1 (rs_ne h2).2 w

set_option maxRecDepth 100000 in
set_option maxHeartbeats 400000 in
theorem signum_any (q : Rat) (w : World) :
    Calls Tryz.prog 47 #[.agg #[.bool (rn q), .string (rs q), .string (rd q)]] w fun e w' => e = .returned (.int .i64 (sg q)) ∧ Below w.heap.size w w' := by
  by_cases h : nm q = 0
  · have e := nm_zero.mp h
    subst e
    rw [sg_zero h, rn_zero, rs_zero, rd_zero]
    clear h
    go_enter Tryz.func47, Tryz.ntmps47
    go_wp2
    go_ret
    exact ⟨rfl, (Below.refl _ _).alloc (Nat.le_refl _) _⟩
  · obtain ⟨h1, h2⟩ := bn_ne (x := nm q) (by omega)
    have e : rs q = bn (nm q) := rfl
    rw [e]
    generalize bn (nm q) = t at *
    cases hn : rn q
    · rw [sg_pos hn h]
      clear h hn e
      go_enter Tryz.func47, Tryz.ntmps47
      go_wp2
      go_ret
      exact ⟨rfl, (Below.refl _ _).alloc (Nat.le_refl _) _⟩
    · rw [sg_neg hn]
      clear h hn e
      go_enter Tryz.func47, Tryz.ntmps47
      go_wp2
      go_ret
      exact ⟨rfl, (Below.refl _ _).alloc (Nat.le_refl _) _⟩

theorem two_boxes' (w : World) (v1 v2 v3 x : Value) (us : Array Value) (T U : TypeId) :
    Below w.heap.size w (((w.alloc (.cells #[v1, v2, v3] T)).alloc (.cells us U)).setCell ⟨w.heap.size, 0, none⟩ x) := (two_boxes w _ _ _ _).2.2.setCell (Nat.le_refl _) _

set_option maxRecDepth 100000 in
set_option maxHeartbeats 400000 in
theorem opposite_any (q : Rat) (w : World) :
    Calls Tryz.prog 76 #[.agg #[.bool (rn q), .string (rs q), .string (rd q)]] w fun e w' => e = .returned (.agg #[.bool (rn (-q)), .string (rs (-q)), .string (rd (-q))]) ∧ Below w.heap.size w w' := by
  by_cases h : q = 0
  · subst h
    rw [Rat.neg_zero, rn_zero, rs_zero, rd_zero]
    go_enter Tryz.func76, Tryz.ntmps76
    go_wp2
    exact bodyPost_ret (v := .agg #[.bool false, .string ⟨#[]⟩, .string ⟨#[]⟩]) (by simp [results, Tryz.results76, go_sem]) rfl ⟨rfl, (two_boxes w _ _ _ _).2.2⟩
  · rw [rn_neg (fun e => h (nm_zero.mp e)), rs_neg, rd_neg]
    obtain ⟨h1, h2⟩ := rs_ne h
    generalize rn q = n at *
    generalize rs q = s at *
    generalize rd q = d at *
    clear h
    go_enter Tryz.func76, Tryz.ntmps76
    go_wp2
    refine bodyPost_forget (fun W => Blk W (w.heap.size + 1) #[.bool (!n), .string s, .string d] ∧ Below w.heap.size w W) ⟨by exact (two_boxes _ _ _ _ _).2.1, by exact (two_boxes w _ _ _ _).2.2⟩ ?_
    rintro WR ⟨hr9, hb9⟩
    obtain ⟨y90, y91, y92, -, -, -⟩ := hr9.get3
    exact bodyPost_ret (v := .agg #[.bool (!n), .string s, .string d]) (by simp [results, Tryz.results76, go_sem, y90, y91, y92]) rfl ⟨rfl, hb9⟩

/-- Less, as a truth value. -/
def ltB (p q : Rat) : Bool := decide (p < q)
theorem ltB_true {p q : Rat} (h : p < q) : ltB p q = true := decide_eq_true h
theorem ltB_false {p q : Rat} (h : ¬ p < q) : ltB p q = false := decide_eq_false h
theorem ltB_sg (p q : Rat) : ltB p q = decide (sg (p - q) < 0) := by
  show _ = decide (cmpR p q < 0)
  by_cases h : p < q
  · rw [ltB_true h, decide_eq_true (cmpR_lt_zero.mpr h)]
  · rw [ltB_false h, decide_eq_false (fun e => h (cmpR_lt_zero.mp e))]

set_option maxRecDepth 100000 in
set_option maxHeartbeats 400000 in
theorem rminus_any (p q : Rat) (k : Nat) (w : World) (hp : Sm k p) (hq : Sm k q) (hk : k ≤ 268435456) :
    Calls Tryz.prog 48 #[.agg #[.bool (rn p), .string (rs p), .string (rd p)], .agg #[.bool (rn q), .string (rs q), .string (rd q)]] w fun e w' => e = .returned (.agg #[.bool (rn (p - q)), .string (rs (p - q)), .string (rd (p - q))]) ∧ Below w.heap.size w w' := by
  have HO := Lib.hid (fun w => opposite_any q w)
  have HP := Lib.hid (fun w => rplus_any p (-q) k w hp hq.neg hk)
  rw [← Rat.sub_eq_add_neg] at HP
  generalize p - q = r at *
  generalize rn r = r1 at *
  generalize rs r = r2 at *
  generalize rd r = r3 at *
  generalize rn (-q) = o1 at *
  generalize rs (-q) = o2 at *
  generalize rd (-q) = o3 at *
  generalize rn p = p1 at *
  generalize rs p = p2 at *
  generalize rd p = p3 at *
  generalize rn q = q1 at *
  generalize rs q = q2 at *
  generalize rd q = q3 at *
  go_enter Tryz.func48, Tryz.ntmps48
  go_wp2
  refine wp_forget (fun W => Blk W w.heap.size #[.bool p1, .string p2, .string p3] ∧ Blk W (w.heap.size + 1) #[.bool q1, .string q2, .string q3] ∧ Blk W (w.heap.size + 1 + 1) #[.bool false, .string ⟨#[]⟩, .string ⟨#[]⟩] ∧ Below w.heap.size w W) (three_boxes w _ _ _ _ _ _) ?_
  rintro W ⟨H1, H2, H3, HB⟩
  obtain ⟨k0, k1, k2⟩ := H1.later3
  obtain ⟨k3, k4, k5⟩ := H2.later3
  refine wp_region_qbt 4 (by kernel_rfl) (by kernel_rfl) ?_
  simp only [List.take_succ_cons, List.take_zero, List.drop_succ_cons, List.drop_zero]
  repeat (first | go_big_quiet_skip | quiet_step (first | with_reducible exact Calls.later (HO.out _) | with_reducible exact Calls.later (HP.out _)))
  clear k0 k1 k2 k3 k4 k5
  refine wpQuiet_nil ?_
  intro W1 hb1
  have HB := Lib.hid (chain HB hb1 (Nat.le_refl _))
  have H2 := Lib.hid (H3.on hb1)
  obtain ⟨a0, a1, a2, a3, a4, a5⟩ := H2.out.get3
  clear hb1 H3 H1
  go_wp2
  refine bodyPost_forget (fun W => Blk W (w.heap.size + 1 + 1) #[.bool r1, .string r2, .string r3] ∧ Below w.heap.size w W) ⟨by exact Blk.set3 H2.out _ _ _, below_set3 HB.out (by omega) _ _ _⟩ ?_
  rintro WR ⟨hr9, hb9⟩
  obtain ⟨y90, y91, y92, -, -, -⟩ := hr9.get3
  exact bodyPost_ret (v := .agg #[.bool r1, .string r2, .string r3]) (by simp [results, Tryz.results48, go_sem, y90, y91, y92]) rfl ⟨rfl, hb9⟩

set_option maxRecDepth 100000 in
set_option maxHeartbeats 400000 in
theorem rless_any (p q : Rat) (k : Nat) (w : World) (hp : Sm k p) (hq : Sm k q) (hk : k ≤ 268435456) :
    Calls Tryz.prog 71 #[.agg #[.bool (rn p), .string (rs p), .string (rd p)], .agg #[.bool (rn q), .string (rs q), .string (rd q)]] w fun e w' => e = .returned (.bool (ltB p q)) ∧ Below w.heap.size w w' := by
  have HM := Lib.hid (fun w => rminus_any p q k w hp hq hk)
  have HS := Lib.hid (fun w => signum_any (p - q) w)
  rw [ltB_sg]
  generalize p - q = r at *
  generalize sg r = i at *
  generalize rn r = r1 at *
  generalize rs r = r2 at *
  generalize rd r = r3 at *
  generalize rn p = p1 at *
  generalize rs p = p2 at *
  generalize rd p = p3 at *
  generalize rn q = q1 at *
  generalize rs q = q2 at *
  generalize rd q = q3 at *
  go_enter Tryz.func71, Tryz.ntmps71
  go_wp2_with fail
  refine (HM.out _).mono ?_; rintro e w3 ⟨rfl, hb3⟩
  go_wp2_with fail
  refine (HS.out _).mono ?_; rintro e w4 ⟨rfl, hb4⟩
  have HB := Lib.hid (boxes2 (chain hb3 hb4 (Nat.le_refl _))).2.2
  clear hb3 hb4
  go_wp2
  go_ret
  exact ⟨rfl, HB.out⟩

/-- The lesser and the greater one. -/
def lesR (p q : Rat) : Rat := if q < p then q else p
def greR (p q : Rat) : Rat := if p < q then q else p

set_option maxRecDepth 100000 in
set_option maxHeartbeats 400000 in
theorem rlesser_any (p q : Rat) (k : Nat) (w : World) (hp : Sm k p) (hq : Sm k q) (hk : k ≤ 268435456) :
    Calls Tryz.prog 37 #[.agg #[.bool (rn p), .string (rs p), .string (rd p)], .agg #[.bool (rn q), .string (rs q), .string (rd q)]] w fun e w' => e = .returned (.agg #[.bool (rn (lesR p q)), .string (rs (lesR p q)), .string (rd (lesR p q))]) ∧ Below w.heap.size w w' := by
  have HL := Lib.hid (fun w => rless_any q p k w hq hp hk)
  unfold lesR
  by_cases h : q < p
  · rw [if_pos h]
    rw [ltB_true h] at HL
    generalize rn p = p1 at *
    generalize rs p = p2 at *
    generalize rd p = p3 at *
    generalize rn q = q1 at *
    generalize rs q = q2 at *
    generalize rd q = q3 at *
    clear hp hq h
    go_enter Tryz.func37, Tryz.ntmps37
    go_wp2_with fail
    refine (HL.out _).mono ?_; rintro e w3 ⟨rfl, hb3⟩
    obtain ⟨H1, H2, H3, HB⟩ := boxes3 hb3
    obtain ⟨a0, a1, a2, a3, a4, a5⟩ := keep6 H1 H2 (Below.refl _ _)
    obtain ⟨b0, b1, b2, b3, b4, b5⟩ := H3.get3
    have HB := Lib.hid HB
    have H2 := Lib.hid H3
    clear hb3 H1 H3
    go_wp2
    refine bodyPost_forget (fun W => Blk W (w.heap.size + 1 + 1) #[.bool q1, .string q2, .string q3] ∧ Below w.heap.size w W) ⟨by exact Blk.set3 H2.out _ _ _, below_set3 HB.out (by omega) _ _ _⟩ ?_
    rintro WR ⟨hr9, hb9⟩
    obtain ⟨y90, y91, y92, -, -, -⟩ := hr9.get3
    exact bodyPost_ret (v := .agg #[.bool q1, .string q2, .string q3]) (by simp [results, Tryz.results37, go_sem, y90, y91, y92]) rfl ⟨rfl, hb9⟩
  · rw [if_neg h]
    rw [ltB_false h] at HL
    generalize rn p = p1 at *
    generalize rs p = p2 at *
    generalize rd p = p3 at *
    generalize rn q = q1 at *
    generalize rs q = q2 at *
    generalize rd q = q3 at *
    clear hp hq h
    go_enter Tryz.func37, Tryz.ntmps37
    go_wp2_with fail
    refine (HL.out _).mono ?_; rintro e w3 ⟨rfl, hb3⟩
    obtain ⟨H1, H2, H3, HB⟩ := boxes3 hb3
    obtain ⟨a0, a1, a2, a3, a4, a5⟩ := keep6 H1 H2 (Below.refl _ _)
    obtain ⟨b0, b1, b2, b3, b4, b5⟩ := H3.get3
    have HB := Lib.hid HB
    have H2 := Lib.hid H3
    clear hb3 H1 H3
    go_wp2
    refine bodyPost_forget (fun W => Blk W (w.heap.size + 1 + 1) #[.bool p1, .string p2, .string p3] ∧ Below w.heap.size w W) ⟨by exact Blk.set3 H2.out _ _ _, below_set3 HB.out (by omega) _ _ _⟩ ?_
    rintro WR ⟨hr9, hb9⟩
    obtain ⟨y90, y91, y92, -, -, -⟩ := hr9.get3
    exact bodyPost_ret (v := .agg #[.bool p1, .string p2, .string p3]) (by simp [results, Tryz.results37, go_sem, y90, y91, y92]) rfl ⟨rfl, hb9⟩
set_option maxRecDepth 100000 in
set_option maxHeartbeats 400000 in
theorem rgreater_any (p q : Rat) (k : Nat) (w : World) (hp : Sm k p) (hq : Sm k q) (hk : k ≤ 268435456) :
    Calls Tryz.prog 39 #[.agg #[.bool (rn p), .string (rs p), .string (rd p)], .agg #[.bool (rn q), .string (rs q), .string (rd q)]] w fun e w' => e = .returned (.agg #[.bool (rn (greR p q)), .string (rs (greR p q)), .string (rd (greR p q))]) ∧ Below w.heap.size w w' := by
  have HL := Lib.hid (fun w => rless_any p q k w hp hq hk)
  unfold greR
  by_cases h : p < q
  · rw [if_pos h]
    rw [ltB_true h] at HL
    generalize rn p = p1 at *
    generalize rs p = p2 at *
    generalize rd p = p3 at *
    generalize rn q = q1 at *
    generalize rs q = q2 at *
    generalize rd q = q3 at *
    clear hp hq h
    go_enter Tryz.func39, Tryz.ntmps39
    go_wp2_with fail
    refine (HL.out _).mono ?_; rintro e w3 ⟨rfl, hb3⟩
    obtain ⟨H1, H2, H3, HB⟩ := boxes3 hb3
    obtain ⟨a0, a1, a2, a3, a4, a5⟩ := keep6 H1 H2 (Below.refl _ _)
    obtain ⟨b0, b1, b2, b3, b4, b5⟩ := H3.get3
    have HB := Lib.hid HB
    have H2 := Lib.hid H3
    clear hb3 H1 H3
    go_wp2
    refine bodyPost_forget (fun W => Blk W (w.heap.size + 1 + 1) #[.bool q1, .string q2, .string q3] ∧ Below w.heap.size w W) ⟨by exact Blk.set3 H2.out _ _ _, below_set3 HB.out (by omega) _ _ _⟩ ?_
    rintro WR ⟨hr9, hb9⟩
    obtain ⟨y90, y91, y92, -, -, -⟩ := hr9.get3
    exact bodyPost_ret (v := .agg #[.bool q1, .string q2, .string q3]) (by simp [results, Tryz.results39, go_sem, y90, y91, y92]) rfl ⟨rfl, hb9⟩
  · rw [if_neg h]
    rw [ltB_false h] at HL
    generalize rn p = p1 at *
    generalize rs p = p2 at *
    generalize rd p = p3 at *
    generalize rn q = q1 at *
    generalize rs q = q2 at *
    generalize rd q = q3 at *
    clear hp hq h
    go_enter Tryz.func39, Tryz.ntmps39
    go_wp2_with fail
    refine (HL.out _).mono ?_; rintro e w3 ⟨rfl, hb3⟩
    obtain ⟨H1, H2, H3, HB⟩ := boxes3 hb3
    obtain ⟨a0, a1, a2, a3, a4, a5⟩ := keep6 H1 H2 (Below.refl _ _)
    obtain ⟨b0, b1, b2, b3, b4, b5⟩ := H3.get3
    have HB := Lib.hid HB
    have H2 := Lib.hid H3
    clear hb3 H1 H3
    go_wp2
    refine bodyPost_forget (fun W => Blk W (w.heap.size + 1 + 1) #[.bool p1, .string p2, .string p3] ∧ Below w.heap.size w W) ⟨by exact Blk.set3 H2.out _ _ _, below_set3 HB.out (by omega) _ _ _⟩ ?_
    rintro WR ⟨hr9, hb9⟩
    obtain ⟨y90, y91, y92, -, -, -⟩ := hr9.get3
    exact bodyPost_ret (v := .agg #[.bool p1, .string p2, .string p3]) (by simp [results, Tryz.results39, go_sem, y90, y91, y92]) rfl ⟨rfl, hb9⟩

set_option maxRecDepth 100000 in
set_option maxHeartbeats 400000 in
theorem rone_any (w : World) :
    Calls Tryz.prog 40 #[] w fun e w' => e = .returned (.agg #[.bool (rn 1), .string (rs 1), .string (rd 1)]) ∧ Below w.heap.size w w' := by
  have e1 : rn 1 = false := by decide
  have e2 : rs 1 = ⟨#[1]⟩ := by show bn 1 = _; exact bn_one
  have e3 : rd 1 = ⟨#[]⟩ := rfl
  rw [e1, e2, e3]
  clear e1 e2 e3
  go_enter Tryz.func40, Tryz.ntmps40
  go_wp2
  exact bodyPost_ret (v := .agg #[.bool false, .string ⟨#[1]⟩, .string ⟨#[]⟩]) (by simp [results, Tryz.results40, go_sem]) rfl ⟨rfl, (Below.refl _ _).alloc (Nat.le_refl _) _⟩
end Go.Proofs.Ins
