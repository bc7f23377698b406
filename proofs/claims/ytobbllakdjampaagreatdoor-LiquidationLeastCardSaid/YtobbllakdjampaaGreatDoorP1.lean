/- The walks of rational: den, Valid, clean. -/
import Derived.Test.YtobbllakdjampaaGreatDoorW10
import Derived.Test.YtobbllakdjampaaGreatDoorRatM
import Derived.Test.YtobbllakdjampaaGreatDoorBlk
set_option linter.unusedSimpArgs false
set_option linter.unusedVariables false
namespace Go.Proofs.Ins
open Go.RowKit

/-- A number in memory: three cells. -/
def RatAt (w : World) (b o : Nat) (n : Bool) (s d : ByteArray) : Prop :=
  w.cell? ⟨b, o, none⟩ = some (.bool n) ∧ w.cell? ⟨b, o + 1, none⟩ = some (.string s) ∧ w.cell? ⟨b, o + 2, none⟩ = some (.string d)

theorem str_ne {a b : ByteArray} (h : a ≠ b) : (a.toList == b.toList) = false := by
  rw [beq_eq_false_iff_ne]
  intro e
  rw [ByteArray.toList_eq, ByteArray.toList_eq] at e
  apply h
  obtain ⟨⟨l⟩⟩ := a
  obtain ⟨⟨m⟩⟩ := b
  simp at e
  rw [e]

theorem str_ne_one {a : ByteArray} (h : a ≠ ⟨#[1]⟩) : (a.toList == [1]) = false := by
  have := str_ne h
  rwa [show (⟨#[1]⟩ : ByteArray).toList = [1] by rw [ByteArray.toList_eq]] at this

/-- The denominator's text. -/
def dnS (d : ByteArray) : ByteArray := if d.size = 0 then ⟨#[1]⟩ else d
theorem dnS_zero : dnS ⟨#[]⟩ = ⟨#[1]⟩ := rfl
theorem dnS_pos {d : ByteArray} (h : ¬ d.size = 0) : dnS d = d := by unfold dnS; rw [if_neg h]
theorem dnS_rd (q : Rat) : dnS (rd q) = bn q.den := by
  unfold rd
  by_cases h : q.den = 1
  · rw [if_pos h, h]; rfl
  · rw [if_neg h]; apply dnS_pos
    intro h2
    have := toList_of_empty h2
    rw [bn_eq_empty] at this
    have := q.den_pos; omega

set_option maxRecDepth 100000 in
set_option maxHeartbeats 400000 in
theorem den_any (n : Bool) (s d : ByteArray) (w : World) :
    Calls Tryz.prog 85 #[.agg #[.bool n, .string s, .string d]] w fun e w' => e = .returned (.string (dnS d)) ∧ Below w.heap.size w w' := by
  by_cases h : d.size = 0
  · obtain rfl := toList_of_empty h
    rw [dnS_zero]
    clear h
    go_enter Tryz.func85, Tryz.ntmps85
    go_wp2
    go_ret
    exact ⟨rfl, (Below.refl _ _).alloc (Nat.le_refl _) _⟩
  · obtain ⟨h1, h2⟩ := toList_of_pos h
    rw [dnS_pos h]
    clear h
    go_enter Tryz.func85, Tryz.ntmps85
    go_wp2
    go_ret
    exact ⟨rfl, (Below.refl _ _).alloc (Nat.le_refl _) _⟩

/-- Whether three fields are a valid number. -/
def vldB (n : Bool) (s d : ByteArray) : Bool := decide (vld n s d)
theorem vldB_true {n : Bool} {s d : ByteArray} (h : vld n s d) : vldB n s d = true := decide_eq_true h
theorem vldB_false {n : Bool} {s d : ByteArray} (h : ¬ vld n s d) : vldB n s d = false := decide_eq_false h

set_option maxRecDepth 100000 in
set_option maxHeartbeats 400000 in
theorem valid_1 (n : Bool) (s d : ByteArray) (w : World) (hs : s.size ≤ 1073741824) (h : ¬ bn (nv s) = s) :
    Calls Tryz.prog 95 #[.agg #[.bool n, .string s, .string d]] w fun e w' => e = .returned (.bool false) ∧ Below w.heap.size w w' := by
  have hN : ∀ w, Calls Tryz.prog 97 #[.string s] w fun e w' => e = .returned (.string (bn (nv s))) ∧ w = w' := fun w => normalize_any s w (by omega)
  generalize bn (nv s) = t at *
  have h1 := str_ne h
  have HN := Lib.hid hN
  clear hN h
  go_enter Tryz.func95, Tryz.ntmps95
  go_wp2
  refine wp_forget (fun W => RatAt W w.heap.size 0 n s d ∧ Below w.heap.size w W) ⟨⟨by simp [go_sem], by simp [go_sem], by simp [go_sem]⟩, (Below.refl _ _).alloc (Nat.le_refl _) _⟩ ?_
  rintro W ⟨⟨c0, c1, c2⟩, hb⟩
  have k0 := cell_regrown c0
  have k1 := cell_regrown c1
  have k2 := cell_regrown c2
  refine wp_region_qb (by kernel_rfl) (by kernel_rfl) ?_
  repeat (first | go_big_quiet_skip | quiet_step (first | with_reducible exact Calls.later_same (HN.out _)))
  refine wpQuiet_nil ?_
  intro W1 hb1
  go_wp2
  go_ret
  exact ⟨rfl, hb.trans (hb1.mono hb.size)⟩

set_option maxRecDepth 100000 in
set_option maxHeartbeats 400000 in
theorem valid_2 (n : Bool) (s d : ByteArray) (w : World) (hs : s.size ≤ 1073741824) (hd : d.size ≤ 1073741824) (h0 : bn (nv s) = s) (h : ¬ bn (nv d) = d) :
    Calls Tryz.prog 95 #[.agg #[.bool n, .string s, .string d]] w fun e w' => e = .returned (.bool false) ∧ Below w.heap.size w w' := by
  have hM : ∀ w, Calls Tryz.prog 97 #[.string s] w fun e w' => e = .returned (.string s) ∧ w = w' := fun w => by
    have := normalize_any s w (by omega); rw [h0] at this; exact this
  have hN : ∀ w, Calls Tryz.prog 97 #[.string d] w fun e w' => e = .returned (.string (bn (nv d))) ∧ w = w' := fun w => normalize_any d w (by omega)
  generalize bn (nv d) = t at *
  have h1 := str_ne h
  have HN := Lib.hid hN
  have HM := Lib.hid hM
  clear hN hM h h0
  go_enter Tryz.func95, Tryz.ntmps95
  go_wp2
  refine wp_forget (fun W => RatAt W w.heap.size 0 n s d ∧ Below w.heap.size w W) ⟨⟨by simp [go_sem], by simp [go_sem], by simp [go_sem]⟩, (Below.refl _ _).alloc (Nat.le_refl _) _⟩ ?_
  rintro W ⟨⟨c0, c1, c2⟩, hb⟩
  have k0 := cell_regrown c0
  have k1 := cell_regrown c1
  have k2 := cell_regrown c2
  refine wp_region_qb (by kernel_rfl) (by kernel_rfl) ?_
  repeat (first | go_big_quiet_skip | quiet_step (first | with_reducible exact Calls.later_same (HM.out _) | with_reducible exact Calls.later_same (HN.out _)))
  refine wpQuiet_nil ?_
  intro W1 hb1
  go_wp2
  go_ret
  exact ⟨rfl, hb.trans (hb1.mono hb.size)⟩

set_option maxRecDepth 100000 in
set_option maxHeartbeats 800000 in
theorem valid_3 (n : Bool) (d : ByteArray) (w : World) (hd : d.size ≤ 1073741824) (h : bn (nv d) = d) :
    Calls Tryz.prog 95 #[.agg #[.bool n, .string ⟨#[]⟩, .string d]] w fun e w' => e = .returned (.bool (!n && decide (d.size = 0))) ∧ Below w.heap.size w w' := by
  have hM : ∀ w, Calls Tryz.prog 97 #[.string ⟨#[]⟩] w fun e w' => e = .returned (.string ⟨#[]⟩) ∧ w = w' := fun w => normalize_any ⟨#[]⟩ w (by decide)
  have hN : ∀ w, Calls Tryz.prog 97 #[.string d] w fun e w' => e = .returned (.string d) ∧ w = w' := fun w => by
    have := normalize_any d w (by omega); rw [h] at this; exact this
  have HN := Lib.hid hN
  have HM := Lib.hid hM
  clear hN hM h
  by_cases h0 : d.size = 0
  · obtain rfl := toList_of_empty h0
    have e1 : (!n && decide ((⟨#[]⟩ : ByteArray).size = 0)) = !n := by cases n <;> rfl
    rw [e1]
    clear h0 hd e1
    cases n
    all_goals
      go_enter Tryz.func95, Tryz.ntmps95
      go_wp2
      refine wp_forget (fun W => RatAt W w.heap.size 0 _ ⟨#[]⟩ ⟨#[]⟩ ∧ Below w.heap.size w W) ⟨⟨by simp [go_sem]; rfl, by simp [go_sem], by simp [go_sem]⟩, (Below.refl _ _).alloc (Nat.le_refl _) _⟩ ?_
      rintro W ⟨⟨c0, c1, c2⟩, hb⟩
      have k0 := cell_regrown c0
      have k1 := cell_regrown c1
      have k2 := cell_regrown c2
      refine wp_region_qb (by kernel_rfl) (by kernel_rfl) ?_
      repeat (first | go_big_quiet_skip | quiet_step (first | with_reducible exact Calls.later_same (HM.out _)))
      refine wpQuiet_nil ?_
      intro W1 hb1
      have hlt := block_lt_of_cell c0
      have g0 := (hb1.cell hlt).trans c0
      have g1 := (hb1.cell (p := ⟨w.heap.size, 0 + 1, none⟩) hlt).trans c1
      have g2 := (hb1.cell (p := ⟨w.heap.size, 0 + 2, none⟩) hlt).trans c2
      go_wp2
      go_ret
      exact ⟨rfl, hb.trans (hb1.mono hb.size)⟩
  · obtain ⟨h1, h2⟩ := toList_of_pos h0
    have e1 : (!n && decide (d.size = 0)) = false := by rw [decide_eq_false h0]; cases n <;> rfl
    rw [e1]
    clear h0 hd e1
    cases n
    all_goals
      go_enter Tryz.func95, Tryz.ntmps95
      go_wp2
      refine wp_forget (fun W => RatAt W w.heap.size 0 _ ⟨#[]⟩ d ∧ Below w.heap.size w W) ⟨⟨by simp [go_sem]; rfl, by simp [go_sem], by simp [go_sem]⟩, (Below.refl _ _).alloc (Nat.le_refl _) _⟩ ?_
      rintro W ⟨⟨c0, c1, c2⟩, hb⟩
      have k0 := cell_regrown c0
      have k1 := cell_regrown c1
      have k2 := cell_regrown c2
      refine wp_region_qb (by kernel_rfl) (by kernel_rfl) ?_
      repeat (first | go_big_quiet_skip | quiet_step (first | with_reducible exact Calls.later_same (HM.out _) | with_reducible exact Calls.later_same (HN.out _)))
      refine wpQuiet_nil ?_
      intro W1 hb1
      have hlt := block_lt_of_cell c0
      have g0 := (hb1.cell hlt).trans c0
      have g1 := (hb1.cell (p := ⟨w.heap.size, 0 + 1, none⟩) hlt).trans c1
      have g2 := (hb1.cell (p := ⟨w.heap.size, 0 + 2, none⟩) hlt).trans c2
      go_wp2
      go_ret
      exact ⟨rfl, hb.trans (hb1.mono hb.size)⟩

set_option maxRecDepth 100000 in
set_option maxHeartbeats 800000 in
theorem valid_4 (n : Bool) (s : ByteArray) (w : World) (hs : s.size ≤ 1073741824) (h : bn (nv s) = s) (h0 : ¬ s.size = 0) :
    Calls Tryz.prog 95 #[.agg #[.bool n, .string s, .string ⟨#[]⟩]] w fun e w' => e = .returned (.bool true) ∧ Below w.heap.size w w' := by
  have hM : ∀ w, Calls Tryz.prog 97 #[.string ⟨#[]⟩] w fun e w' => e = .returned (.string ⟨#[]⟩) ∧ w = w' := fun w => normalize_any ⟨#[]⟩ w (by decide)
  have hN : ∀ w, Calls Tryz.prog 97 #[.string s] w fun e w' => e = .returned (.string s) ∧ w = w' := fun w => by
    have := normalize_any s w (by omega); rw [h] at this; exact this
  have HN := Lib.hid hN
  have HM := Lib.hid hM
  obtain ⟨h1, h2⟩ := toList_of_pos h0
  clear hN hM h h0
  go_enter Tryz.func95, Tryz.ntmps95
  go_wp2
  refine wp_forget (fun W => RatAt W w.heap.size 0 n s ⟨#[]⟩ ∧ Below w.heap.size w W) ⟨⟨by simp [go_sem], by simp [go_sem], by simp [go_sem]⟩, (Below.refl _ _).alloc (Nat.le_refl _) _⟩ ?_
  rintro W ⟨⟨c0, c1, c2⟩, hb⟩
  have k0 := cell_regrown c0
  have k1 := cell_regrown c1
  have k2 := cell_regrown c2
  refine wp_region_qb (by kernel_rfl) (by kernel_rfl) ?_
  repeat (first | go_big_quiet_skip | quiet_step (first | with_reducible exact Calls.later_same (HM.out _) | with_reducible exact Calls.later_same (HN.out _)))
  refine wpQuiet_nil ?_
  intro W1 hb1
  have hlt := block_lt_of_cell c0
  have g0 := (hb1.cell hlt).trans c0
  have g1 := (hb1.cell (p := ⟨w.heap.size, 0 + 1, none⟩) hlt).trans c1
  have g2 := (hb1.cell (p := ⟨w.heap.size, 0 + 2, none⟩) hlt).trans c2
  go_wp2
  go_ret
  exact ⟨rfl, hb.trans (hb1.mono hb.size)⟩

set_option maxRecDepth 100000 in
set_option maxHeartbeats 800000 in
theorem valid_5 (n : Bool) (s : ByteArray) (w : World) (hs : s.size ≤ 1073741824) (h : bn (nv s) = s) (h0 : ¬ s.size = 0) :
    Calls Tryz.prog 95 #[.agg #[.bool n, .string s, .string ⟨#[1]⟩]] w fun e w' => e = .returned (.bool false) ∧ Below w.heap.size w w' := by
  have hM : ∀ w, Calls Tryz.prog 97 #[.string ⟨#[1]⟩] w fun e w' => e = .returned (.string ⟨#[1]⟩) ∧ w = w' := fun w => by
    have := normalize_any ⟨#[1]⟩ w (by decide); rw [show nv ⟨#[1]⟩ = 1 by decide, bn_one] at this; exact this
  have hN : ∀ w, Calls Tryz.prog 97 #[.string s] w fun e w' => e = .returned (.string s) ∧ w = w' := fun w => by
    have := normalize_any s w (by omega); rw [h] at this; exact this
  have HN := Lib.hid hN
  have HM := Lib.hid hM
  obtain ⟨h1, h2⟩ := toList_of_pos h0
  clear hN hM h h0
  go_enter Tryz.func95, Tryz.ntmps95
  go_wp2
  refine wp_forget (fun W => RatAt W w.heap.size 0 n s ⟨#[1]⟩ ∧ Below w.heap.size w W) ⟨⟨by simp [go_sem], by simp [go_sem], by simp [go_sem]⟩, (Below.refl _ _).alloc (Nat.le_refl _) _⟩ ?_
  rintro W ⟨⟨c0, c1, c2⟩, hb⟩
  have k0 := cell_regrown c0
  have k1 := cell_regrown c1
  have k2 := cell_regrown c2
  refine wp_region_qb (by kernel_rfl) (by kernel_rfl) ?_
  repeat (first | go_big_quiet_skip | quiet_step (first | with_reducible exact Calls.later_same (HM.out _) | with_reducible exact Calls.later_same (HN.out _)))
  refine wpQuiet_nil ?_
  intro W1 hb1
  have hlt := block_lt_of_cell c0
  have g0 := (hb1.cell hlt).trans c0
  have g1 := (hb1.cell (p := ⟨w.heap.size, 0 + 1, none⟩) hlt).trans c1
  have g2 := (hb1.cell (p := ⟨w.heap.size, 0 + 2, none⟩) hlt).trans c2
  go_wp2
  go_ret
  exact ⟨rfl, hb.trans (hb1.mono hb.size)⟩

theorem eq_one_iff (x : Nat) : ((bn x).toList == [1]) = decide (x = 1) := by
  by_cases h : x = 1
  · subst h; rw [bn_one, decide_eq_true rfl, ByteArray.toList_eq]; rfl
  · rw [decide_eq_false h]; exact str_ne_one (fun e => h (bn_inj (e.trans bn_one.symm)))

set_option maxRecDepth 100000 in
set_option maxHeartbeats 800000 in
theorem valid_6 (n : Bool) (s d : ByteArray) (w : World) (hs : s.size ≤ 1073741824) (hd : d.size ≤ 1073741824) (h : bn (nv s) = s) (h0 : ¬ s.size = 0) (hd1 : bn (nv d) = d) (hd0 : ¬ d.size = 0) (hd2 : d ≠ ⟨#[1]⟩) :
    Calls Tryz.prog 95 #[.agg #[.bool n, .string s, .string d]] w fun e w' => e = .returned (.bool (decide (Nat.gcd (nv s) (nv d) = 1))) ∧ Below w.heap.size w w' := by
  have hM : ∀ w, Calls Tryz.prog 97 #[.string d] w fun e w' => e = .returned (.string d) ∧ w = w' := fun w => by
    have := normalize_any d w (by omega); rw [hd1] at this; exact this
  have hN : ∀ w, Calls Tryz.prog 97 #[.string s] w fun e w' => e = .returned (.string s) ∧ w = w' := fun w => by
    have := normalize_any s w (by omega); rw [h] at this; exact this
  have HN := Lib.hid hN
  have HM := Lib.hid hM
  obtain ⟨h1, h2⟩ := toList_of_pos h0
  obtain ⟨h3, h4⟩ := toList_of_pos hd0
  have h5 := str_ne_one hd2
  have HE := Lib.hid (eq_one_iff (Nat.gcd (nv s) (nv d)))
  clear hN hM h h0 hd0 hd1 hd2
  go_enter Tryz.func95, Tryz.ntmps95
  go_wp2
  refine wp_forget (fun W => RatAt W w.heap.size 0 n s d ∧ Below w.heap.size w W) ⟨⟨by simp [go_sem], by simp [go_sem], by simp [go_sem]⟩, (Below.refl _ _).alloc (Nat.le_refl _) _⟩ ?_
  rintro W ⟨⟨c0, c1, c2⟩, hb⟩
  have k0 := cell_regrown c0
  have k1 := cell_regrown c1
  have k2 := cell_regrown c2
  refine wp_region_qb (by kernel_rfl) (by kernel_rfl) ?_
  repeat (first | go_big_quiet_skip | quiet_step (first | with_reducible exact Calls.later_same (HM.out _) | with_reducible exact Calls.later_same (HN.out _)))
  refine wpQuiet_nil ?_
  intro W1 hb1
  have hlt := block_lt_of_cell c0
  have g0 := (hb1.cell hlt).trans c0
  have g1 := (hb1.cell (p := ⟨w.heap.size, 0 + 1, none⟩) hlt).trans c1
  have g2 := (hb1.cell (p := ⟨w.heap.size, 0 + 2, none⟩) hlt).trans c2
  go_wp2_with fail
  refine (gcd_any s d _ hs hd).mono ?_; rintro e w3 ⟨rfl, hb3⟩
  go_wp2
  go_ret
  have hz := hb.size
  have hz1 := hb1.size
  exact ⟨ret_bool HE.out, hb.trans ((hb1.mono hz).trans (hb3.mono (by omega)))⟩

theorem nv_pos {s : ByteArray} (h : bn (nv s) = s) (h0 : ¬ s.size = 0) : nv s ≠ 0 := by
  intro e
  rw [e] at h
  apply h0
  rw [← h]; rfl

theorem valid_any (n : Bool) (s d : ByteArray) (w : World) (hs : s.size ≤ 1073741824) (hd : d.size ≤ 1073741824) :
    Calls Tryz.prog 95 #[.agg #[.bool n, .string s, .string d]] w fun e w' => e = .returned (.bool (vldB n s d)) ∧ Below w.heap.size w w' := by
  by_cases h1 : bn (nv s) = s
  · by_cases h2 : bn (nv d) = d
    · by_cases h3 : s.size = 0
      · obtain rfl := toList_of_empty h3
        have e : vldB n ⟨#[]⟩ d = (!n && decide (d.size = 0)) := by
          by_cases h4 : d.size = 0
          · obtain rfl := toList_of_empty h4
            cases n
            · exact vldB_true ⟨h1, h2, fun _ => ⟨rfl, rfl⟩, .inl rfl⟩
            · exact vldB_false fun h => by have := (h.2.2.1 rfl).1; exact absurd this (by decide)
          · rw [decide_eq_false h4, Bool.and_false]
            exact vldB_false fun h => nv_pos h2 h4 (h.2.2.1 rfl).2
        rw [e]; exact valid_3 n d w hd h2
      · have n1 := nv_pos h1 h3
        by_cases h4 : d.size = 0
        · obtain rfl := toList_of_empty h4
          rw [vldB_true ⟨h1, h2, fun h => absurd h n1, .inl rfl⟩]
          exact valid_4 n s w hs h1 h3
        · have n2 := nv_pos h2 h4
          by_cases h5 : d = ⟨#[1]⟩
          · subst h5
            rw [vldB_false fun h => by
              have e1 : nv ⟨#[1]⟩ = 1 := rfl
              rcases h.2.2.2 with h6 | ⟨h6, _⟩
              · rw [e1] at h6; exact absurd h6 (by decide)
              · exact h6 e1]
            exact valid_5 n s w hs h1 h3
          · have n3 : nv d ≠ 1 := fun e => h5 (by rw [← h2, e, bn_one])
            have e : vldB n s d = decide (Nat.gcd (nv s) (nv d) = 1) := by
              by_cases h6 : Nat.gcd (nv s) (nv d) = 1
              · rw [decide_eq_true h6]; exact vldB_true ⟨h1, h2, fun h => absurd h n1, .inr ⟨n3, h6⟩⟩
              · rw [decide_eq_false h6]; exact vldB_false fun h => by
                  rcases h.2.2.2 with h7 | ⟨_, h7⟩
                  · exact n2 h7
                  · exact h6 h7
            rw [e]; exact valid_6 n s d w hs hd h1 h3 h2 h4 h5
    · rw [vldB_false fun h => h2 h.2.1]; exact valid_2 n s d w hs hd h1 h2
  · rw [vldB_false fun h => h1 h.1]; exact valid_1 n s d w hs h1

/-- A number as a value. -/
def rv (q : Rat) : Value := .agg #[.bool (rn q), .string (rs q), .string (rd q)]
theorem rv_vld {n : Bool} {s d : ByteArray} (h : vld n s d) : rv (rq n s d) = .agg #[.bool n, .string s, .string d] := by
  obtain ⟨e1, e2, e3⟩ := vld_fields h
  unfold rv; rw [e1, e2, e3]
theorem rv_bad {n : Bool} {s d : ByteArray} (h : ¬ vld n s d) : rv (rq n s d) = .agg #[.bool false, .string ⟨#[]⟩, .string ⟨#[]⟩] := by
  rw [rq_bad h]; rfl

end Go.Proofs.Ins
