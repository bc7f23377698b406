/- The walks of insolvencylaw0: Ratio, Whole, Amount, Few. -/
import Derived.Test.YtobbllakdjampaaGreatDoorR15
set_option linter.unusedSimpArgs false
set_option linter.unusedVariables false
namespace Go.Proofs.Ins
open Go.RowKit

set_option maxRecDepth 100000 in
set_option maxHeartbeats 400000 in
theorem ratio_any (i j : Int) (w : World) (h1 : -9223372036854775808 ≤ i) (h2 : i ≤ 9223372036854775807) (h3 : 0 < j) (h4 : j ≤ 9223372036854775807) :
    Calls Tryz.prog 16 #[.int .i64 i, .int .i64 j] w fun e w' => e = .returned (.agg #[.bool (rn ((i : Rat) / (j : Rat))), .string (rs ((i : Rat) / (j : Rat))), .string (rd ((i : Rat) / (j : Rat)))]) ∧ Below w.heap.size w w' := by
  have HF := Lib.hid (fun w => rfraction_any i j w h1 h2 h3 h4)
  unfold rvB at HF
  generalize (i : Rat) / (j : Rat) = r at *
  generalize rn r = r1 at *
  generalize rs r = r2 at *
  generalize rd r = r3 at *
  go_enter Tryz.func16, Tryz.ntmps16
  go_wp2_with fail
  refine (HF.out _).mono ?_; rintro e w3 ⟨rfl, hb3⟩
  obtain ⟨H2, HB⟩ := boxes1 hb3
  have z := H2.lt
  obtain ⟨b0, b1, b2, f0, f1, f2⟩ := H2.get3
  have HB := Lib.hid HB
  have H2 := Lib.hid H2
  clear hb3
  have q9 := below_set3 HB.out (Nat.le_refl _) (.bool r1) (.string r2) (.string r3)
  go_wp2
  refine bodyPost_forget (fun W => Blk W w.heap.size #[.bool r1, .string r2, .string r3] ∧ Below w.heap.size w W) ⟨by exact (Blk.set3 H2.out _ _ _).alloc _, by exact q9.alloc q9.size _⟩ ?_
  rintro WR ⟨hr9, hb9⟩
  obtain ⟨y90, y91, y92, -, -, -⟩ := hr9.get3
  exact bodyPost_ret (v := .agg #[.bool r1, .string r2, .string r3]) (by simp [results, Tryz.results16, go_sem, y90, y91, y92]) rfl ⟨rfl, hb9⟩

set_option maxRecDepth 100000 in
set_option maxHeartbeats 400000 in
theorem whole_any (i : Int) (w : World) (h1 : -9223372036854775808 ≤ i) (h2 : i ≤ 9223372036854775807) :
    Calls Tryz.prog 19 #[.int .i64 i] w fun e w' => e = .returned (.agg #[.bool (rn (i : Rat)), .string (rs (i : Rat)), .string (rd (i : Rat))]) ∧ Below w.heap.size w w' := by
  have HF := Lib.hid (fun w => rint_any i w h1 h2)
  generalize (i : Rat) = r at *
  generalize rn r = r1 at *
  generalize rs r = r2 at *
  generalize rd r = r3 at *
  go_enter Tryz.func19, Tryz.ntmps19
  go_wp2_with fail
  refine (HF.out _).mono ?_; rintro e w3 ⟨rfl, hb3⟩
  obtain ⟨H2, HB⟩ := boxes1 hb3
  obtain ⟨b0, b1, b2, f0, f1, f2⟩ := H2.get3
  have HB := Lib.hid HB
  have H2 := Lib.hid H2
  clear hb3
  go_wp2
  refine bodyPost_forget (fun W => Blk W (w.heap.size) #[.bool r1, .string r2, .string r3] ∧ Below w.heap.size w W) ⟨by exact Blk.set3 H2.out _ _ _, below_set3 HB.out (by omega) _ _ _⟩ ?_
  rintro WR ⟨hr9, hb9⟩
  obtain ⟨y90, y91, y92, -, -, -⟩ := hr9.get3
  exact bodyPost_ret (v := .agg #[.bool r1, .string r2, .string r3]) (by simp [results, Tryz.results19, go_sem, y90, y91, y92]) rfl ⟨rfl, hb9⟩

/-- What Amount gives. -/
def amt (x : Nat) : Rat := if x % 5 = 0 then (((x / 5 % 23 : Nat) : Int) : Rat) / (((1 + x / 115 % 6 : Nat) : Int) : Rat) else if x % 5 = 1 then (((10 * (x / 5 % 4) : Nat) : Int) : Rat) else (((x / 5 % 13 : Nat) : Int) : Rat)

theorem amt_0 {x : Nat} (h : x % 5 = 0) : amt x = (((x / 5 % 23 : Nat) : Int) : Rat) / (((1 + x / 115 % 6 : Nat) : Int) : Rat) := by unfold amt; rw [if_pos h]
theorem amt_1 {x : Nat} (h : x % 5 = 1) : amt x = (((10 * (x / 5 % 4) : Nat) : Int) : Rat) := by unfold amt; rw [if_neg (by omega), if_pos h]
theorem amt_2 {x : Nat} (h : ¬ x % 5 = 0) (h1 : ¬ x % 5 = 1) : amt x = (((x / 5 % 13 : Nat) : Int) : Rat) := by unfold amt; rw [if_neg h, if_neg h1]

set_option maxRecDepth 100000 in
set_option maxHeartbeats 400000 in
theorem amount_any (x : Nat) (w : World) (hx : x ≤ 65535) :
    Calls Tryz.prog 27 #[.int .u16 (x : Int)] w fun e w' => e = .returned (.agg #[.bool (rn (amt x)), .string (rs (amt x)), .string (rd (amt x))]) ∧ Below w.heap.size w w' := by
  by_cases h : x % 5 = 0
  · have hF := fun w => ratio_any ((x / 5 % 23 : Nat) : Int) ((1 + x / 115 % 6 : Nat) : Int) w (by omega) (by omega) (by omega) (by omega)
    rw [← amt_0 h, show ((x / 5 % 23 : Nat) : Int) = (x : Int) / 5 % 23 by omega, show ((1 + x / 115 % 6 : Nat) : Int) = 1 + (x : Int) / 115 % 6 by omega] at hF
    have HF := Lib.hid hF
    generalize amt x = r at *
    generalize rn r = r1 at *
    generalize rs r = r2 at *
    generalize rd r = r3 at *
    clear hF
    go_enter Tryz.func27, Tryz.ntmps27
    go_wp2_with fail
    refine (HF.out _).mono ?_; rintro e w3 ⟨rfl, hb3⟩
    obtain ⟨H2, HB⟩ := boxes1 hb3
    obtain ⟨b0, b1, b2, f0, f1, f2⟩ := H2.get3
    have HB := Lib.hid HB
    have H2 := Lib.hid H2
    clear hb3
    go_wp2
    refine bodyPost_forget (fun W => Blk W (w.heap.size) #[.bool r1, .string r2, .string r3] ∧ Below w.heap.size w W) ⟨by exact Blk.set3 H2.out _ _ _, below_set3 HB.out (by omega) _ _ _⟩ ?_
    rintro WR ⟨hr9, hb9⟩
    obtain ⟨y90, y91, y92, -, -, -⟩ := hr9.get3
    exact bodyPost_ret (v := .agg #[.bool r1, .string r2, .string r3]) (by simp [results, Tryz.results27, go_sem, y90, y91, y92]) rfl ⟨rfl, hb9⟩
  · by_cases h1 : x % 5 = 1
    · have hF := fun w => whole_any ((10 * (x / 5 % 4) : Nat) : Int) w (by omega) (by omega)
      rw [← amt_1 h1, show ((10 * (x / 5 % 4) : Nat) : Int) = 10 * ((x : Int) / 5 % 4) by omega] at hF
      have HF := Lib.hid hF
      generalize amt x = r at *
      generalize rn r = r1 at *
      generalize rs r = r2 at *
      generalize rd r = r3 at *
      clear hF
      go_enter Tryz.func27, Tryz.ntmps27
      go_wp2_with fail
      refine (HF.out _).mono ?_; rintro e w3 ⟨rfl, hb3⟩
      obtain ⟨H2, HB⟩ := boxes1 hb3
      obtain ⟨b0, b1, b2, f0, f1, f2⟩ := H2.get3
      have HB := Lib.hid HB
      have H2 := Lib.hid H2
      clear hb3
      go_wp2
      refine bodyPost_forget (fun W => Blk W (w.heap.size) #[.bool r1, .string r2, .string r3] ∧ Below w.heap.size w W) ⟨by exact Blk.set3 H2.out _ _ _, below_set3 HB.out (by omega) _ _ _⟩ ?_
      rintro WR ⟨hr9, hb9⟩
      obtain ⟨y90, y91, y92, -, -, -⟩ := hr9.get3
      exact bodyPost_ret (v := .agg #[.bool r1, .string r2, .string r3]) (by simp [results, Tryz.results27, go_sem, y90, y91, y92]) rfl ⟨rfl, hb9⟩
    · have hF := fun w => whole_any ((x / 5 % 13 : Nat) : Int) w (by omega) (by omega)
      rw [← amt_2 h h1, show ((x / 5 % 13 : Nat) : Int) = (x : Int) / 5 % 13 by omega] at hF
      have HF := Lib.hid hF
      have h3 : ((x : Int) % 5 == 0) = false := by simp; omega
      have h4 : ((x : Int) % 5 == 1) = false := by simp; omega
      generalize amt x = r at *
      generalize rn r = r1 at *
      generalize rs r = r2 at *
      generalize rd r = r3 at *
      clear hF
      go_enter Tryz.func27, Tryz.ntmps27
      go_wp2_with fail
      refine (HF.out _).mono ?_; rintro e w3 ⟨rfl, hb3⟩
      obtain ⟨H2, HB⟩ := boxes1 hb3
      obtain ⟨b0, b1, b2, f0, f1, f2⟩ := H2.get3
      have HB := Lib.hid HB
      have H2 := Lib.hid H2
      clear hb3
      go_wp2
      refine bodyPost_forget (fun W => Blk W (w.heap.size) #[.bool r1, .string r2, .string r3] ∧ Below w.heap.size w W) ⟨by exact Blk.set3 H2.out _ _ _, below_set3 HB.out (by omega) _ _ _⟩ ?_
      rintro WR ⟨hr9, hb9⟩
      obtain ⟨y90, y91, y92, -, -, -⟩ := hr9.get3
      exact bodyPost_ret (v := .agg #[.bool r1, .string r2, .string r3]) (by simp [results, Tryz.results27, go_sem, y90, y91, y92]) rfl ⟨rfl, hb9⟩

set_option maxRecDepth 100000 in
set_option maxHeartbeats 400000 in
theorem few_any (n : Bool) (s d : ByteArray) (w : World) (hs : s.size ≤ 140737488351232) (hd : d.size ≤ 140737488351232) :
    Calls Tryz.prog 14 #[.agg #[.bool n, .string s, .string d]] w fun e w' => e = .returned (.bool (decide (s.size ≤ 24 ∧ d.size ≤ 24))) ∧ Below w.heap.size w w' := by
  by_cases h : s.size ≤ 24
  · by_cases h1 : d.size ≤ 24
    · rw [decide_eq_true ⟨h, h1⟩]
      have h3 : decide ((d.size : Int) ≤ 24) = true := by simp; omega
      go_enter Tryz.func14, Tryz.ntmps14
      go_wp2
      go_ret
      exact ⟨rfl, (Below.refl _ _).alloc (Nat.le_refl _) _⟩
    · rw [decide_eq_false (fun e => h1 e.2)]
      have h2 : decide (d.size ≤ 24) = false := decide_eq_false h1
      have h3 : decide ((d.size : Int) ≤ 24) = false := by simp; omega
      go_enter Tryz.func14, Tryz.ntmps14
      go_wp2
      go_ret
      exact ⟨rfl, (Below.refl _ _).alloc (Nat.le_refl _) _⟩
  · rw [decide_eq_false (fun e => h e.1)]
    have h2 : decide (s.size ≤ 24) = false := decide_eq_false h
    have h3 : decide ((s.size : Int) ≤ 24) = false := by simp; omega
    go_enter Tryz.func14, Tryz.ntmps14
    go_wp2
    go_ret
    exact ⟨rfl, (Below.refl _ _).alloc (Nat.le_refl _) _⟩
end Go.Proofs.Ins
