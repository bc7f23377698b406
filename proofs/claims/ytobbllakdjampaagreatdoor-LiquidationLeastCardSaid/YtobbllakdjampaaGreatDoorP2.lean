/- The walks of rational: clean, reduced, Make, magnitude, Int, signOf, Sign. -/
import Derived.Test.YtobbllakdjampaaGreatDoorP1
set_option linter.unusedSimpArgs false
set_option linter.unusedVariables false
namespace Go.Proofs.Ins
open Go.RowKit

set_option maxRecDepth 100000 in
set_option maxHeartbeats 400000 in
theorem clean_any (n : Bool) (s d : ByteArray) (w : World) (hs : s.size ≤ 1073741824) (hd : d.size ≤ 1073741824) :
    Calls Tryz.prog 65 #[.agg #[.bool n, .string s, .string d]] w fun e w' => e = .returned (rv (rq n s d)) ∧ Below w.heap.size w w' := by
  have hv := fun w => valid_any n s d w hs hd
  by_cases h : vld n s d
  · rw [rv_vld h]
    rw [vldB_true h] at hv
    have HV := Lib.hid hv
    clear h hv
    go_enter Tryz.func65, Tryz.ntmps65
    go_wp2_with fail
    refine (HV.out _).mono ?_; rintro e w3 ⟨rfl, hb3⟩
    obtain ⟨H1, H2, HB⟩ := boxes2 hb3
    obtain ⟨a0, a1, a2, -, -, -⟩ := H1.get3
    obtain ⟨b0, b1, b2, f0, f1, f2⟩ := H2.get3
    have HB := Lib.hid HB
    have H2 := Lib.hid H2
    clear hb3 H1
    go_wp2
    refine bodyPost_forget (fun W => Blk W (w.heap.size + 1) #[.bool n, .string s, .string d] ∧ Below w.heap.size w W) ⟨by exact Blk.set3 H2.out _ _ _, below_set3 HB.out (by omega) _ _ _⟩ ?_
    rintro WR ⟨hr9, hb9⟩
    obtain ⟨y90, y91, y92, -, -, -⟩ := hr9.get3
    exact bodyPost_ret (v := .agg #[.bool n, .string s, .string d]) (by simp [results, Tryz.results65, go_sem, y90, y91, y92]) rfl ⟨rfl, hb9⟩
  · rw [rv_bad h]
    rw [vldB_false h] at hv
    have HV := Lib.hid hv
    clear h hv
    go_enter Tryz.func65, Tryz.ntmps65
    go_wp2_with fail
    refine (HV.out _).mono ?_; rintro e w3 ⟨rfl, hb3⟩
    obtain ⟨H1, H2, HB⟩ := boxes2 hb3
    obtain ⟨a0, a1, a2, -, -, -⟩ := H1.get3
    obtain ⟨b0, b1, b2, f0, f1, f2⟩ := H2.get3
    have HB := Lib.hid HB
    have H2 := Lib.hid H2
    clear hb3 H1
    go_wp2
    refine bodyPost_forget (fun W => Blk W (w.heap.size + 1) #[.bool false, .string ⟨#[]⟩, .string ⟨#[]⟩] ∧ Below w.heap.size w W) ⟨by exact Blk.set3 H2.out _ _ _, below_set3 HB.out (by omega) _ _ _⟩ ?_
    rintro WR ⟨hr9, hb9⟩
    obtain ⟨y90, y91, y92, -, -, -⟩ := hr9.get3
    exact bodyPost_ret (v := .agg #[.bool false, .string ⟨#[]⟩, .string ⟨#[]⟩]) (by simp [results, Tryz.results65, go_sem, y90, y91, y92]) rfl ⟨rfl, hb9⟩

theorem bn_ne {x : Nat} (h : 0 < x) : (bn x).toList.isEmpty = false ∧ ¬ (bn x).toList = [] := by
  apply toList_of_pos
  intro e
  have := toList_of_empty e
  rw [bn_eq_empty] at this
  omega

theorem bn_ne_one {x : Nat} (h : x ≠ 1) : ((bn x).toList == [1]) = false := by rw [eq_one_iff, decide_eq_false h]

theorem bn_size_mono {x y : Nat} (h : x ≤ y) (k : Nat) (hy : y < 256 ^ k) : (bn x).size ≤ k := bn_size_le (Nat.lt_of_le_of_lt h hy)

set_option maxRecDepth 100000 in
set_option maxHeartbeats 800000 in
theorem reduced_zero (neg : Bool) (a b : ByteArray) (w : World) (ha : a.size ≤ 1073741824) (hb : b.size ≤ 1073741824) (hx : nv a = 0) :
    Calls Tryz.prog 67 #[.bool neg, .string a, .string b] w fun e w' => e = .returned (rv 0) ∧ Below w.heap.size w w' := by
  have hN : ∀ w, Calls Tryz.prog 97 #[.string a] w fun e w' => e = .returned (.string ⟨#[]⟩) ∧ w = w' := fun w => by
    have := normalize_any a w (by omega); rw [hx] at this; exact this
  have HN := Lib.hid hN
  clear hN hx
  go_enter Tryz.func67, Tryz.ntmps67
  go_wp2_with fail
  refine (HN.out _).mono ?_; rintro e w3 ⟨rfl, rfl⟩
  go_wp2_with fail
  refine (normalize_any b _ (by omega)).mono ?_; rintro e w3 ⟨rfl, rfl⟩
  go_wp2
  exact bodyPost_ret (v := rv 0) (by simp [results, Tryz.results67, go_sem, rv, rn_zero, rs_zero, rd_zero]) rfl ⟨rfl, (Below.refl _ _).alloc (Nat.le_refl _) _⟩

theorem rv_fr {n : Bool} {x y : Nat} (hx : 0 < x) (hy : 0 < y) : rv (fr n x y) = .agg #[.bool n, .string (bn (x / Nat.gcd x y)), .string (if y / Nat.gcd x y = 1 then ⟨#[]⟩ else bn (y / Nat.gcd x y))] := by
  obtain ⟨e1, e2, e3⟩ := fr_fields (n := n) hx hy
  unfold rv; rw [e1, e2, e3]

set_option maxRecDepth 100000 in
set_option maxHeartbeats 800000 in
theorem reduced_one (neg : Bool) (a b : ByteArray) (w : World) (ha : a.size ≤ 1073741824) (hb : b.size ≤ 1073741824) (hx : 0 < nv a) (hy : nv b = 1) :
    Calls Tryz.prog 67 #[.bool neg, .string a, .string b] w fun e w' => e = .returned (rv (fr neg (nv a) 1)) ∧ Below w.heap.size w w' := by
  have hN : ∀ w, Calls Tryz.prog 97 #[.string a] w fun e w' => e = .returned (.string (bn (nv a))) ∧ w = w' := fun w => normalize_any a w (by omega)
  have hM : ∀ w, Calls Tryz.prog 97 #[.string b] w fun e w' => e = .returned (.string ⟨#[1]⟩) ∧ w = w' := fun w => by
    have := normalize_any b w (by omega); rw [hy, bn_one] at this; exact this
  obtain ⟨h1, h2⟩ := bn_ne hx
  have e : rv (fr neg (nv a) 1) = .agg #[.bool neg, .string (bn (nv a)), .string ⟨#[]⟩] := by
    rw [rv_fr hx (by omega), Nat.gcd_one_right, Nat.div_one, if_pos rfl]
  rw [e]
  generalize bn (nv a) = t at *
  have HN := Lib.hid hN
  have HM := Lib.hid hM
  clear hN hM hx hy e
  go_enter Tryz.func67, Tryz.ntmps67
  go_wp2_with fail
  refine (HN.out _).mono ?_; rintro e w3 ⟨rfl, rfl⟩
  go_wp2_with fail
  refine (HM.out _).mono ?_; rintro e w3 ⟨rfl, rfl⟩
  go_wp2
  exact bodyPost_ret (v := .agg #[.bool neg, .string t, .string ⟨#[]⟩]) (by simp [results, Tryz.results67, go_sem]) rfl ⟨rfl, (Below.refl _ _).alloc (Nat.le_refl _) _⟩

/-- What the divisions of reduced give. -/
theorem div_call (x g : Nat) (w : World) (hx : (bn x).size ≤ 1073741824) (hg : (bn g).size ≤ 1073741824) (h0 : 0 < g) :
    Calls Tryz.prog 99 #[.string (bn x), .string (bn g)] w fun e w' => e = .returned (.tuple #[.string (bn (x / g)), .string (bn (x % g)), .bool true]) ∧ Below w.heap.size w w' := by
  have := divideS_any (bn x) (bn g) w hx hg (by rw [nv_bn]; exact h0)
  rw [nv_bn, nv_bn] at this
  exact this

set_option maxRecDepth 100000 in
set_option maxHeartbeats 1600000 in
theorem reduced_co (neg : Bool) (a b : ByteArray) (w : World) (ha : a.size ≤ 1073741824) (hb : b.size ≤ 1073741824) (hx : 0 < nv a) (hy : 1 < nv b) (hg : Nat.gcd (nv a) (nv b) = 1) :
    Calls Tryz.prog 67 #[.bool neg, .string a, .string b] w fun e w' => e = .returned (rv (fr neg (nv a) (nv b))) ∧ Below w.heap.size w w' := by
  have hN : ∀ w, Calls Tryz.prog 97 #[.string a] w fun e w' => e = .returned (.string (bn (nv a))) ∧ w = w' := fun w => normalize_any a w (by omega)
  have hM : ∀ w, Calls Tryz.prog 97 #[.string b] w fun e w' => e = .returned (.string (bn (nv b))) ∧ w = w' := fun w => normalize_any b w (by omega)
  have sa := bn_size_of a
  have sb := bn_size_of b
  obtain ⟨h1, h2⟩ := bn_ne hx
  have h3 := bn_ne_one (x := nv b) (by omega)
  have hG : ∀ w, Calls Tryz.prog 98 #[.string (bn (nv a)), .string (bn (nv b))] w fun e w' => e = .returned (.string ⟨#[1]⟩) ∧ Below w.heap.size w w' := fun w => by
    have := gcd_any (bn (nv a)) (bn (nv b)) w (by omega) (by omega)
    rw [nv_bn, nv_bn, hg, bn_one] at this; exact this
  have e : rv (fr neg (nv a) (nv b)) = .agg #[.bool neg, .string (bn (nv a)), .string (bn (nv b))] := by
    rw [rv_fr hx (by omega), hg, Nat.div_one, Nat.div_one, if_neg (by omega)]
  rw [e]
  generalize bn (nv a) = t at *
  generalize bn (nv b) = u at *
  have HN := Lib.hid hN
  have HM := Lib.hid hM
  have HG := Lib.hid hG
  clear hN hM hx hy e hG hg
  go_enter Tryz.func67, Tryz.ntmps67
  go_wp2_with fail
  refine (HN.out _).mono ?_; rintro e w3 ⟨rfl, rfl⟩
  go_wp2_with fail
  refine (HM.out _).mono ?_; rintro e w3 ⟨rfl, rfl⟩
  go_wp2_with fail
  refine (HG.out _).mono ?_; rintro e w3 ⟨rfl, hb3⟩
  obtain ⟨H2, HB⟩ := boxes1 hb3
  obtain ⟨b0, b1, b2, f0, f1, f2⟩ := H2.get3
  have HB := Lib.hid HB
  have H2 := Lib.hid H2
  clear hb3
  go_wp2
  refine bodyPost_forget (fun W => Blk W (w.heap.size) #[.bool neg, .string t, .string u] ∧ Below w.heap.size w W) ⟨by exact Blk.set3 H2.out _ _ _, below_set3 HB.out (by omega) _ _ _⟩ ?_
  rintro WR ⟨hr9, hb9⟩
  obtain ⟨y90, y91, y92, -, -, -⟩ := hr9.get3
  exact bodyPost_ret (v := .agg #[.bool neg, .string t, .string u]) (by simp [results, Tryz.results67, go_sem, y90, y91, y92]) rfl ⟨rfl, hb9⟩

set_option maxRecDepth 100000 in
set_option maxHeartbeats 1600000 in
theorem reduced_div (neg : Bool) (a b : ByteArray) (w : World) (ha : a.size ≤ 1073741824) (hb : b.size ≤ 1073741824) (hx : 0 < nv a) (hy : 1 < nv b) (hg : Nat.gcd (nv a) (nv b) ≠ 1) :
    Calls Tryz.prog 67 #[.bool neg, .string a, .string b] w fun e w' => e = .returned (rv (fr neg (nv a) (nv b))) ∧ Below w.heap.size w w' := by
  have hN : ∀ w, Calls Tryz.prog 97 #[.string a] w fun e w' => e = .returned (.string (bn (nv a))) ∧ w = w' := fun w => normalize_any a w (by omega)
  have hM : ∀ w, Calls Tryz.prog 97 #[.string b] w fun e w' => e = .returned (.string (bn (nv b))) ∧ w = w' := fun w => normalize_any b w (by omega)
  have sa := bn_size_of a
  have sb := bn_size_of b
  obtain ⟨h1, h2⟩ := bn_ne hx
  have h3 := bn_ne_one (x := nv b) (by omega)
  have g0 : 0 < Nat.gcd (nv a) (nv b) := Nat.gcd_pos_of_pos_left _ hx
  have h4 := bn_ne_one hg
  have sg : (bn (Nat.gcd (nv a) (nv b))).size ≤ a.size := bn_size_le (Nat.lt_of_le_of_lt (Nat.gcd_le_left _ hx) (nv_lt a))
  have hG : ∀ w, Calls Tryz.prog 98 #[.string (bn (nv a)), .string (bn (nv b))] w fun e w' => e = .returned (.string (bn (Nat.gcd (nv a) (nv b)))) ∧ Below w.heap.size w w' := fun w => by
    have := gcd_any (bn (nv a)) (bn (nv b)) w (by omega) (by omega)
    rw [nv_bn, nv_bn] at this; exact this
  have hD1 := fun w => div_call (nv a) (Nat.gcd (nv a) (nv b)) w (by omega) (by omega) g0
  have hD2 := fun w => div_call (nv b) (Nat.gcd (nv a) (nv b)) w (by omega) (by omega) g0
  have e := rv_fr (n := neg) hx (show 0 < nv b by omega)
  rw [e]
  have hq : (nv b / Nat.gcd (nv a) (nv b) = 1 ∧ bn (nv b / Nat.gcd (nv a) (nv b)) = ⟨#[1]⟩) ∨ (¬ nv b / Nat.gcd (nv a) (nv b) = 1 ∧ ((bn (nv b / Nat.gcd (nv a) (nv b))).toList == [1]) = false) := by
    by_cases h : nv b / Nat.gcd (nv a) (nv b) = 1
    · exact .inl ⟨h, by rw [h, bn_one]⟩
    · exact .inr ⟨h, bn_ne_one h⟩
  generalize bn (nv a % Nat.gcd (nv a) (nv b)) = v1 at *
  generalize bn (nv b % Nat.gcd (nv a) (nv b)) = v2 at *
  generalize bn (nv a / Nat.gcd (nv a) (nv b)) = q1 at *
  generalize bn (nv b / Nat.gcd (nv a) (nv b)) = q2 at *
  generalize nv b / Nat.gcd (nv a) (nv b) = z at *
  generalize bn (Nat.gcd (nv a) (nv b)) = g at *
  generalize bn (nv a) = t at *
  generalize bn (nv b) = u at *
  have HN := Lib.hid hN
  have HM := Lib.hid hM
  have HG := Lib.hid hG
  have HD1 := Lib.hid hD1
  have HD2 := Lib.hid hD2
  clear hN hM hx hy e hG hg hD1 hD2 g0
  rcases hq with ⟨hz, rfl⟩ | ⟨hz, h5⟩
  · rw [if_pos hz]
    clear hz
    as_aux_lemma =>
    go_enter Tryz.func67, Tryz.ntmps67
    go_wp2_with fail
    refine (HN.out _).mono ?_; rintro e w3 ⟨rfl, rfl⟩
    go_wp2_with fail
    refine (HM.out _).mono ?_; rintro e w3 ⟨rfl, rfl⟩
    go_wp2_with fail
    refine (HG.out _).mono ?_; rintro e w3 ⟨rfl, hb3⟩
    go_wp2_with fail
    refine (HD1.out _).mono ?_; rintro e w4 ⟨rfl, hb4⟩
    go_wp2_with fail
    refine (HD2.out _).mono ?_; rintro e w5 ⟨rfl, hb5⟩
    obtain ⟨H2, HB⟩ := boxes1 (chain (chain hb3 hb4 (Nat.le_refl _)) hb5 (Nat.le_refl _))
    obtain ⟨b0, b1, b2, f0, f1, f2⟩ := H2.get3
    have HB := Lib.hid HB
    have H2 := Lib.hid H2
    clear hb3 hb4 hb5
    go_wp2
    refine bodyPost_forget (fun W => Blk W (w.heap.size) #[.bool neg, .string q1, .string ⟨#[]⟩] ∧ Below w.heap.size w W) ⟨by exact Blk.set3 H2.out _ _ _, below_set3 HB.out (by omega) _ _ _⟩ ?_
    rintro WR ⟨hr9, hb9⟩
    obtain ⟨y90, y91, y92, -, -, -⟩ := hr9.get3
    exact bodyPost_ret (v := .agg #[.bool neg, .string q1, .string ⟨#[]⟩]) (by simp [results, Tryz.results67, go_sem, y90, y91, y92]) rfl ⟨rfl, hb9⟩
  · rw [if_neg hz]
    clear hz
    as_aux_lemma =>
    go_enter Tryz.func67, Tryz.ntmps67
    go_wp2_with fail
    refine (HN.out _).mono ?_; rintro e w3 ⟨rfl, rfl⟩
    go_wp2_with fail
    refine (HM.out _).mono ?_; rintro e w3 ⟨rfl, rfl⟩
    go_wp2_with fail
    refine (HG.out _).mono ?_; rintro e w3 ⟨rfl, hb3⟩
    go_wp2_with fail
    refine (HD1.out _).mono ?_; rintro e w4 ⟨rfl, hb4⟩
    go_wp2_with fail
    refine (HD2.out _).mono ?_; rintro e w5 ⟨rfl, hb5⟩
    obtain ⟨H2, HB⟩ := boxes1 (chain (chain hb3 hb4 (Nat.le_refl _)) hb5 (Nat.le_refl _))
    obtain ⟨b0, b1, b2, f0, f1, f2⟩ := H2.get3
    have HB := Lib.hid HB
    have H2 := Lib.hid H2
    clear hb3 hb4 hb5
    go_wp2
    refine bodyPost_forget (fun W => Blk W (w.heap.size) #[.bool neg, .string q1, .string q2] ∧ Below w.heap.size w W) ⟨by exact Blk.set3 H2.out _ _ _, below_set3 HB.out (by omega) _ _ _⟩ ?_
    rintro WR ⟨hr9, hb9⟩
    obtain ⟨y90, y91, y92, -, -, -⟩ := hr9.get3
    exact bodyPost_ret (v := .agg #[.bool neg, .string q1, .string q2]) (by simp [results, Tryz.results67, go_sem, y90, y91, y92]) rfl ⟨rfl, hb9⟩

/-- reduced: the fraction in lowest terms. -/
theorem reduced_any (neg : Bool) (a b : ByteArray) (w : World) (ha : a.size ≤ 1073741824) (hb : b.size ≤ 1073741824) (hy : 0 < nv b) :
    Calls Tryz.prog 67 #[.bool neg, .string a, .string b] w fun e w' => e = .returned (rv (fr neg (nv a) (nv b))) ∧ Below w.heap.size w w' := by
  rcases Nat.eq_zero_or_pos (nv a) with h | h
  · rw [h, fr_zero]; exact reduced_zero neg a b w ha hb h
  · rcases Nat.lt_or_ge 1 (nv b) with h1 | h1
    · by_cases h2 : Nat.gcd (nv a) (nv b) = 1
      · exact reduced_co neg a b w ha hb h h1 h2
      · exact reduced_div neg a b w ha hb h h1 h2
    · have e : nv b = 1 := by omega
      rw [e]; exact reduced_one neg a b w ha hb h e
end Go.Proofs.Ins
