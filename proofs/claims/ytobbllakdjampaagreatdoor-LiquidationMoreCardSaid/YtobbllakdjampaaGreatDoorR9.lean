/- The walks of insolvencyref1: Valid, Fix, den, reduced. -/
import Derived.Test.YtobbllakdjampaaGreatDoorR8
set_option linter.unusedSimpArgs false
set_option linter.unusedVariables false
namespace Go.Proofs.Ins
open Go.RowKit

set_option maxRecDepth 100000 in
set_option maxHeartbeats 400000 in
theorem rvalid_1 (n : Bool) (s d : ByteArray) (w : World) (hs : s.size ≤ 268435456) (h : ¬ bn (nv s) = s) :
    Calls Tryz.prog 69 #[.agg #[.bool n, .string s, .string d]] w fun e w' => e = .returned (.bool false) ∧ Below w.heap.size w w' := by
  have hN : ∀ w, Calls Tryz.prog 101 #[.string s] w fun e w' => e = .returned (.string (bn (nv s))) ∧ w = w' := fun w => rNormalize_any s w (by omega)
  generalize bn (nv s) = t at *
  have h1 := str_ne h
  have HN := Lib.hid hN
  clear hN h
  go_enter Tryz.func69, Tryz.ntmps69
  go_wp2
  refine wp_forget (fun W => RatAt W w.heap.size 0 n s d ∧ Below w.heap.size w W) ⟨⟨by simp [go_sem], by simp [go_sem], by simp [go_sem]⟩, (Below.refl _ _).alloc (Nat.le_refl _) _⟩ ?_
  rintro W ⟨⟨c0, c1, c2⟩, hb⟩
  have k0 := cell_regrown c0
  have k1 := cell_regrown c1
  have k2 := cell_regrown c2
  refine wp_region_qb (by kernel_rfl) (by kernel_rfl) ?_
  repeat (first | go_big_quiet_skip | quiet_step (first | with_reducible exact Calls.later_same (HN.out _)))
  refine wpQuiet_nil ?_
  intro W1 hb1
  go_wp2
  go_ret
  exact ⟨rfl, hb.trans (hb1.mono hb.size)⟩

set_option maxRecDepth 100000 in
set_option maxHeartbeats 400000 in
theorem rvalid_2 (n : Bool) (s d : ByteArray) (w : World) (hs : s.size ≤ 268435456) (hd : d.size ≤ 268435456) (h0 : bn (nv s) = s) (h : ¬ bn (nv d) = d) :
    Calls Tryz.prog 69 #[.agg #[.bool n, .string s, .string d]] w fun e w' => e = .returned (.bool false) ∧ Below w.heap.size w w' := by
  have hM : ∀ w, Calls Tryz.prog 101 #[.string s] w fun e w' => e = .returned (.string s) ∧ w = w' := fun w => by
    have := rNormalize_any s w (by omega); rw [h0] at this; exact this
  have hN : ∀ w, Calls Tryz.prog 101 #[.string d] w fun e w' => e = .returned (.string (bn (nv d))) ∧ w = w' := fun w => rNormalize_any d w (by omega)
  generalize bn (nv d) = t at *
  have h1 := str_ne h
  have HN := Lib.hid hN
  have HM := Lib.hid hM
  clear hN hM h h0
  go_enter Tryz.func69, Tryz.ntmps69
  go_wp2
  refine wp_forget (fun W => RatAt W w.heap.size 0 n s d ∧ Below w.heap.size w W) ⟨⟨by simp [go_sem], by simp [go_sem], by simp [go_sem]⟩, (Below.refl _ _).alloc (Nat.le_refl _) _⟩ ?_
  rintro W ⟨⟨c0, c1, c2⟩, hb⟩
  have k0 := cell_regrown c0
  have k1 := cell_regrown c1
  have k2 := cell_regrown c2
  refine wp_region_qb (by kernel_rfl) (by kernel_rfl) ?_
  repeat (first | go_big_quiet_skip | quiet_step (first | with_reducible exact Calls.later_same (HM.out _) | with_reducible exact Calls.later_same (HN.out _)))
  refine wpQuiet_nil ?_
  intro W1 hb1
  go_wp2
  go_ret
  exact ⟨rfl, hb.trans (hb1.mono hb.size)⟩

set_option maxRecDepth 100000 in
set_option maxHeartbeats 800000 in
theorem rvalid_3 (n : Bool) (d : ByteArray) (w : World) (hd : d.size ≤ 268435456) (h : bn (nv d) = d) (hd2 : d ≠ ⟨#[1]⟩) :
    Calls Tryz.prog 69 #[.agg #[.bool n, .string ⟨#[]⟩, .string d]] w fun e w' => e = .returned (.bool (!n && decide (d.size = 0))) ∧ Below w.heap.size w w' := by
  have hM : ∀ w, Calls Tryz.prog 101 #[.string ⟨#[]⟩] w fun e w' => e = .returned (.string ⟨#[]⟩) ∧ w = w' := fun w => rNormalize_any ⟨#[]⟩ w (by decide)
  have hN : ∀ w, Calls Tryz.prog 101 #[.string d] w fun e w' => e = .returned (.string d) ∧ w = w' := fun w => by
    have := rNormalize_any d w (by omega); rw [h] at this; exact this
  have HN := Lib.hid hN
  have HM := Lib.hid hM
  have h5 := str_ne_one hd2
  clear hN hM h hd2
  by_cases h0 : d.size = 0
  · obtain rfl := toList_of_empty h0
    have e1 : (!n && decide ((⟨#[]⟩ : ByteArray).size = 0)) = !n := by cases n <;> rfl
    rw [e1]
    clear h0 hd e1 h5
    cases n
    all_goals
      go_enter Tryz.func69, Tryz.ntmps69
      go_wp2
      refine wp_forget (fun W => RatAt W w.heap.size 0 _ ⟨#[]⟩ ⟨#[]⟩ ∧ Below w.heap.size w W) ⟨⟨by simp [go_sem]; rfl, by simp [go_sem], by simp [go_sem]⟩, (Below.refl _ _).alloc (Nat.le_refl _) _⟩ ?_
      rintro W ⟨⟨c0, c1, c2⟩, hb⟩
      have k0 := cell_regrown c0
      have k1 := cell_regrown c1
      have k2 := cell_regrown c2
      refine wp_region_qb (by kernel_rfl) (by kernel_rfl) ?_
      repeat (first | go_big_quiet_skip | quiet_step (first | with_reducible exact Calls.later_same (HM.out _)))
      refine wpQuiet_nil ?_
      intro W1 hb1
      have hlt := block_lt_of_cell c0
      have g0 := (hb1.cell hlt).trans c0
      have g1 := (hb1.cell (p := ⟨w.heap.size, 0 + 1, none⟩) hlt).trans c1
      have g2 := (hb1.cell (p := ⟨w.heap.size, 0 + 2, none⟩) hlt).trans c2
      go_wp2
      go_ret
      exact ⟨rfl, hb.trans (hb1.mono hb.size)⟩
  · obtain ⟨h1, h2⟩ := toList_of_pos h0
    have e1 : (!n && decide (d.size = 0)) = false := by rw [decide_eq_false h0]; cases n <;> rfl
    rw [e1]
    clear h0 hd e1
    cases n
    all_goals
      go_enter Tryz.func69, Tryz.ntmps69
      go_wp2
      refine wp_forget (fun W => RatAt W w.heap.size 0 _ ⟨#[]⟩ d ∧ Below w.heap.size w W) ⟨⟨by simp [go_sem]; rfl, by simp [go_sem], by simp [go_sem]⟩, (Below.refl _ _).alloc (Nat.le_refl _) _⟩ ?_
      rintro W ⟨⟨c0, c1, c2⟩, hb⟩
      have k0 := cell_regrown c0
      have k1 := cell_regrown c1
      have k2 := cell_regrown c2
      refine wp_region_qb (by kernel_rfl) (by kernel_rfl) ?_
      repeat (first | go_big_quiet_skip | quiet_step (first | with_reducible exact Calls.later_same (HM.out _) | with_reducible exact Calls.later_same (HN.out _)))
      refine wpQuiet_nil ?_
      intro W1 hb1
      have hlt := block_lt_of_cell c0
      have g0 := (hb1.cell hlt).trans c0
      have g1 := (hb1.cell (p := ⟨w.heap.size, 0 + 1, none⟩) hlt).trans c1
      have g2 := (hb1.cell (p := ⟨w.heap.size, 0 + 2, none⟩) hlt).trans c2
      go_wp2
      go_ret
      exact ⟨rfl, hb.trans (hb1.mono hb.size)⟩

set_option maxRecDepth 100000 in
set_option maxHeartbeats 800000 in
theorem rvalid_4 (n : Bool) (s : ByteArray) (w : World) (hs : s.size ≤ 268435456) (h : bn (nv s) = s) (h0 : ¬ s.size = 0) :
    Calls Tryz.prog 69 #[.agg #[.bool n, .string s, .string ⟨#[]⟩]] w fun e w' => e = .returned (.bool true) ∧ Below w.heap.size w w' := by
  have hM : ∀ w, Calls Tryz.prog 101 #[.string ⟨#[]⟩] w fun e w' => e = .returned (.string ⟨#[]⟩) ∧ w = w' := fun w => rNormalize_any ⟨#[]⟩ w (by decide)
  have hN : ∀ w, Calls Tryz.prog 101 #[.string s] w fun e w' => e = .returned (.string s) ∧ w = w' := fun w => by
    have := rNormalize_any s w (by omega); rw [h] at this; exact this
  have HN := Lib.hid hN
  have HM := Lib.hid hM
  obtain ⟨h1, h2⟩ := toList_of_pos h0
  clear hN hM h h0
  go_enter Tryz.func69, Tryz.ntmps69
  go_wp2
  refine wp_forget (fun W => RatAt W w.heap.size 0 n s ⟨#[]⟩ ∧ Below w.heap.size w W) ⟨⟨by simp [go_sem], by simp [go_sem], by simp [go_sem]⟩, (Below.refl _ _).alloc (Nat.le_refl _) _⟩ ?_
  rintro W ⟨⟨c0, c1, c2⟩, hb⟩
  have k0 := cell_regrown c0
  have k1 := cell_regrown c1
  have k2 := cell_regrown c2
  refine wp_region_qb (by kernel_rfl) (by kernel_rfl) ?_
  repeat (first | go_big_quiet_skip | quiet_step (first | with_reducible exact Calls.later_same (HM.out _) | with_reducible exact Calls.later_same (HN.out _)))
  refine wpQuiet_nil ?_
  intro W1 hb1
  have hlt := block_lt_of_cell c0
  have g0 := (hb1.cell hlt).trans c0
  have g1 := (hb1.cell (p := ⟨w.heap.size, 0 + 1, none⟩) hlt).trans c1
  have g2 := (hb1.cell (p := ⟨w.heap.size, 0 + 2, none⟩) hlt).trans c2
  go_wp2
  go_ret
  exact ⟨rfl, hb.trans (hb1.mono hb.size)⟩

set_option maxRecDepth 100000 in
set_option maxHeartbeats 800000 in
theorem rvalid_5 (n : Bool) (s : ByteArray) (w : World) (hs : s.size ≤ 268435456) (h : bn (nv s) = s) :
    Calls Tryz.prog 69 #[.agg #[.bool n, .string s, .string ⟨#[1]⟩]] w fun e w' => e = .returned (.bool false) ∧ Below w.heap.size w w' := by
  have hM : ∀ w, Calls Tryz.prog 101 #[.string ⟨#[1]⟩] w fun e w' => e = .returned (.string ⟨#[1]⟩) ∧ w = w' := fun w => by
    have := rNormalize_any ⟨#[1]⟩ w (by decide); rw [show nv ⟨#[1]⟩ = 1 by decide, bn_one] at this; exact this
  have hN : ∀ w, Calls Tryz.prog 101 #[.string s] w fun e w' => e = .returned (.string s) ∧ w = w' := fun w => by
    have := rNormalize_any s w (by omega); rw [h] at this; exact this
  have HN := Lib.hid hN
  have HM := Lib.hid hM
  clear hN hM h
  go_enter Tryz.func69, Tryz.ntmps69
  go_wp2
  refine wp_forget (fun W => RatAt W w.heap.size 0 n s ⟨#[1]⟩ ∧ Below w.heap.size w W) ⟨⟨by simp [go_sem], by simp [go_sem], by simp [go_sem]⟩, (Below.refl _ _).alloc (Nat.le_refl _) _⟩ ?_
  rintro W ⟨⟨c0, c1, c2⟩, hb⟩
  have k0 := cell_regrown c0
  have k1 := cell_regrown c1
  have k2 := cell_regrown c2
  refine wp_region_qb (by kernel_rfl) (by kernel_rfl) ?_
  repeat (first | go_big_quiet_skip | quiet_step (first | with_reducible exact Calls.later_same (HM.out _) | with_reducible exact Calls.later_same (HN.out _)))
  refine wpQuiet_nil ?_
  intro W1 hb1
  have hlt := block_lt_of_cell c0
  have g0 := (hb1.cell hlt).trans c0
  have g1 := (hb1.cell (p := ⟨w.heap.size, 0 + 1, none⟩) hlt).trans c1
  have g2 := (hb1.cell (p := ⟨w.heap.size, 0 + 2, none⟩) hlt).trans c2
  go_wp2
  go_ret
  exact ⟨rfl, hb.trans (hb1.mono hb.size)⟩

set_option maxRecDepth 100000 in
set_option maxHeartbeats 800000 in
theorem rvalid_6 (n : Bool) (s d : ByteArray) (w : World) (hs : s.size ≤ 268435456) (hd : d.size ≤ 268435456) (h : bn (nv s) = s) (h0 : ¬ s.size = 0) (hd1 : bn (nv d) = d) (hd0 : ¬ d.size = 0) (hd2 : d ≠ ⟨#[1]⟩) :
    Calls Tryz.prog 69 #[.agg #[.bool n, .string s, .string d]] w fun e w' => e = .returned (.bool (decide (Nat.gcd (nv s) (nv d) = 1))) ∧ Below w.heap.size w w' := by
  have hM : ∀ w, Calls Tryz.prog 101 #[.string d] w fun e w' => e = .returned (.string d) ∧ w = w' := fun w => by
    have := rNormalize_any d w (by omega); rw [hd1] at this; exact this
  have hN : ∀ w, Calls Tryz.prog 101 #[.string s] w fun e w' => e = .returned (.string s) ∧ w = w' := fun w => by
    have := rNormalize_any s w (by omega); rw [h] at this; exact this
  have HN := Lib.hid hN
  have HM := Lib.hid hM
  obtain ⟨h1, h2⟩ := toList_of_pos h0
  obtain ⟨h3, h4⟩ := toList_of_pos hd0
  have h5 := str_ne_one hd2
  have HE := Lib.hid (eq_one_iff (Nat.gcd (nv s) (nv d)))
  clear hN hM h h0 hd0 hd1 hd2
  go_enter Tryz.func69, Tryz.ntmps69
  go_wp2
  refine wp_forget (fun W => RatAt W w.heap.size 0 n s d ∧ Below w.heap.size w W) ⟨⟨by simp [go_sem], by simp [go_sem], by simp [go_sem]⟩, (Below.refl _ _).alloc (Nat.le_refl _) _⟩ ?_
  rintro W ⟨⟨c0, c1, c2⟩, hb⟩
  have k0 := cell_regrown c0
  have k1 := cell_regrown c1
  have k2 := cell_regrown c2
  refine wp_region_qb (by kernel_rfl) (by kernel_rfl) ?_
  repeat (first | go_big_quiet_skip | quiet_step (first | with_reducible exact Calls.later_same (HM.out _) | with_reducible exact Calls.later_same (HN.out _)))
  refine wpQuiet_nil ?_
  intro W1 hb1
  have hlt := block_lt_of_cell c0
  have g0 := (hb1.cell hlt).trans c0
  have g1 := (hb1.cell (p := ⟨w.heap.size, 0 + 1, none⟩) hlt).trans c1
  have g2 := (hb1.cell (p := ⟨w.heap.size, 0 + 2, none⟩) hlt).trans c2
  go_wp2_with fail
  refine (rgcd_any s d _ hs hd).mono ?_; rintro e w3 ⟨rfl, hb3⟩
  go_wp2
  go_ret
  have hz := hb.size
  have hz1 := hb1.size
  exact ⟨ret_bool HE.out, hb.trans ((hb1.mono hz).trans (hb3.mono (by omega)))⟩

theorem rvalid_any (n : Bool) (s d : ByteArray) (w : World) (hs : s.size ≤ 268435456) (hd : d.size ≤ 268435456) :
    Calls Tryz.prog 69 #[.agg #[.bool n, .string s, .string d]] w fun e w' => e = .returned (.bool (vldB n s d)) ∧ Below w.heap.size w w' := by
  by_cases h1 : bn (nv s) = s
  · by_cases h2 : bn (nv d) = d
    · by_cases h3 : s.size = 0
      · obtain rfl := toList_of_empty h3
        by_cases h5 : d = ⟨#[1]⟩
        · subst h5
          rw [vldB_false fun h => by have := (h.2.2.1 rfl).2; exact absurd this (by decide)]
          exact rvalid_5 n ⟨#[]⟩ w hs h1
        have e : vldB n ⟨#[]⟩ d = (!n && decide (d.size = 0)) := by
          by_cases h4 : d.size = 0
          · obtain rfl := toList_of_empty h4
            cases n
            · exact vldB_true ⟨h1, h2, fun _ => ⟨rfl, rfl⟩, .inl rfl⟩
            · exact vldB_false fun h => by have := (h.2.2.1 rfl).1; exact absurd this (by decide)
          · rw [decide_eq_false h4, Bool.and_false]
            exact vldB_false fun h => nv_pos h2 h4 (h.2.2.1 rfl).2
        rw [e]; exact rvalid_3 n d w hd h2 h5
      · have n1 := nv_pos h1 h3
        by_cases h4 : d.size = 0
        · obtain rfl := toList_of_empty h4
          rw [vldB_true ⟨h1, h2, fun h => absurd h n1, .inl rfl⟩]
          exact rvalid_4 n s w hs h1 h3
        · have n2 := nv_pos h2 h4
          by_cases h5 : d = ⟨#[1]⟩
          · subst h5
            rw [vldB_false fun h => by
              have e1 : nv ⟨#[1]⟩ = 1 := rfl
              rcases h.2.2.2 with h6 | ⟨h6, _⟩
              · rw [e1] at h6; exact absurd h6 (by decide)
              · exact h6 e1]
            exact rvalid_5 n s w hs h1
          · have n3 : nv d ≠ 1 := fun e => h5 (by rw [← h2, e, bn_one])
            have e : vldB n s d = decide (Nat.gcd (nv s) (nv d) = 1) := by
              by_cases h6 : Nat.gcd (nv s) (nv d) = 1
              · rw [decide_eq_true h6]; exact vldB_true ⟨h1, h2, fun h => absurd h n1, .inr ⟨n3, h6⟩⟩
              · rw [decide_eq_false h6]; exact vldB_false fun h => by
                  rcases h.2.2.2 with h7 | ⟨_, h7⟩
                  · exact n2 h7
                  · exact h6 h7
            rw [e]; exact rvalid_6 n s d w hs hd h1 h3 h2 h4 h5
    · rw [vldB_false fun h => h2 h.2.1]; exact rvalid_2 n s d w hs hd h1 h2
  · rw [vldB_false fun h => h1 h.1]; exact rvalid_1 n s d w hs h1

set_option maxRecDepth 100000 in
set_option maxHeartbeats 400000 in
theorem fix_any (n : Bool) (s d : ByteArray) (w : World) (hs : s.size ≤ 268435456) (hd : d.size ≤ 268435456) :
    Calls Tryz.prog 35 #[.agg #[.bool n, .string s, .string d]] w fun e w' => e = .returned (rv (rq n s d)) ∧ Below w.heap.size w w' := by
  have hv := fun w => rvalid_any n s d w hs hd
  by_cases h : vld n s d
  · rw [rv_vld h]
    rw [vldB_true h] at hv
    have HV := Lib.hid hv
    clear h hv
    go_enter Tryz.func35, Tryz.ntmps35
    go_wp2_with fail
    refine (HV.out _).mono ?_; rintro e w3 ⟨rfl, hb3⟩
    obtain ⟨H1, H2, HB⟩ := boxes2 hb3
    obtain ⟨a0, a1, a2, -, -, -⟩ := H1.get3
    obtain ⟨b0, b1, b2, f0, f1, f2⟩ := H2.get3
    have HB := Lib.hid HB
    have H2 := Lib.hid H2
    clear hb3 H1
    go_wp2
    refine bodyPost_forget (fun W => Blk W (w.heap.size + 1) #[.bool n, .string s, .string d] ∧ Below w.heap.size w W) ⟨by exact Blk.set3 H2.out _ _ _, below_set3 HB.out (by omega) _ _ _⟩ ?_
    rintro WR ⟨hr9, hb9⟩
    obtain ⟨y90, y91, y92, -, -, -⟩ := hr9.get3
    exact bodyPost_ret (v := .agg #[.bool n, .string s, .string d]) (by simp [results, Tryz.results35, go_sem, y90, y91, y92]) rfl ⟨rfl, hb9⟩
  · rw [rv_bad h]
    rw [vldB_false h] at hv
    have HV := Lib.hid hv
    clear h hv
    go_enter Tryz.func35, Tryz.ntmps35
    go_wp2_with fail
    refine (HV.out _).mono ?_; rintro e w3 ⟨rfl, hb3⟩
    obtain ⟨H1, H2, HB⟩ := boxes2 hb3
    obtain ⟨a0, a1, a2, -, -, -⟩ := H1.get3
    obtain ⟨b0, b1, b2, f0, f1, f2⟩ := H2.get3
    have HB := Lib.hid HB
    have H2 := Lib.hid H2
    clear hb3 H1
    go_wp2
    refine bodyPost_forget (fun W => Blk W (w.heap.size + 1) #[.bool false, .string ⟨#[]⟩, .string ⟨#[]⟩] ∧ Below w.heap.size w W) ⟨by exact Blk.set3 H2.out _ _ _, below_set3 HB.out (by omega) _ _ _⟩ ?_
    rintro WR ⟨hr9, hb9⟩
    obtain ⟨y90, y91, y92, -, -, -⟩ := hr9.get3
    exact bodyPost_ret (v := .agg #[.bool false, .string ⟨#[]⟩, .string ⟨#[]⟩]) (by simp [results, Tryz.results35, go_sem, y90, y91, y92]) rfl ⟨rfl, hb9⟩


theorem fix_agg (n : Bool) (s d : ByteArray) (w : World) (hs : s.size ≤ 268435456) (hd : d.size ≤ 268435456) :
    Calls Tryz.prog 35 #[.agg #[.bool n, .string s, .string d]] w fun e w' => e = .returned (.agg #[.bool (rn (rq n s d)), .string (rs (rq n s d)), .string (rd (rq n s d))]) ∧ Below w.heap.size w w' := fix_any n s d w hs hd
end Go.Proofs.Ins
