/- The walks of rational: Make, magnitude, Int, signOf, Sign, Compare. -/
import Derived.Test.YtobbllakdjampaaGreatDoorP2
set_option linter.unusedSimpArgs false
set_option linter.unusedVariables false
namespace Go.Proofs.Ins
open Go.RowKit

/-- The value of a number, written out. -/
theorem clean_agg (n : Bool) (s d : ByteArray) (w : World) (hs : s.size ≤ 1073741824) (hd : d.size ≤ 1073741824) :
    Calls Tryz.prog 65 #[.agg #[.bool n, .string s, .string d]] w fun e w' => e = .returned (.agg #[.bool (rn (rq n s d)), .string (rs (rq n s d)), .string (rd (rq n s d))]) ∧ Below w.heap.size w w' := clean_any n s d w hs hd
theorem reduced_agg (neg : Bool) (a b : ByteArray) (w : World) (ha : a.size ≤ 1073741824) (hb : b.size ≤ 1073741824) (hy : 0 < nv b) :
    Calls Tryz.prog 67 #[.bool neg, .string a, .string b] w fun e w' => e = .returned (.agg #[.bool (rn (fr neg (nv a) (nv b))), .string (rs (fr neg (nv a) (nv b))), .string (rd (fr neg (nv a) (nv b)))]) ∧ Below w.heap.size w w' := reduced_any neg a b w ha hb hy
theorem sm_raw (n : Bool) (s d : ByteArray) : Sm (s.size + d.size + 1) (rq n s d) := sm_rq (by omega) (by omega) (by omega)

/-- A number and a truth value. -/
def rvB (q : Rat) (b : Bool) : Value := .tuple #[.agg #[.bool (rn q), .string (rs q), .string (rd q)], .bool b]

set_option maxRecDepth 100000 in
set_option maxHeartbeats 800000 in
theorem make_no (neg : Bool) (a b : ByteArray) (w : World) (hb : b.size ≤ 1073741824) (hy : nv b = 0) :
    Calls Tryz.prog 96 #[.bool neg, .string a, .string b] w fun e w' => e = .returned (rvB 0 false) ∧ Below w.heap.size w w' := by
  have hN : ∀ w, Calls Tryz.prog 97 #[.string b] w fun e w' => e = .returned (.string ⟨#[]⟩) ∧ w = w' := fun w => by
    have := normalize_any b w (by omega); rw [hy] at this; exact this
  have HN := Lib.hid hN
  clear hN hy
  go_enter Tryz.func96, Tryz.ntmps96
  go_wp2_with fail
  refine (HN.out _).mono ?_; rintro e w3 ⟨rfl, rfl⟩
  go_wp2
  exact bodyPost_ret (v := rvB 0 false) (by simp [results, Tryz.results96, go_sem, rvB, rn_zero, rs_zero, rd_zero]) rfl ⟨rfl, (Below.refl _ _).alloc (Nat.le_refl _) _⟩

set_option maxRecDepth 100000 in
set_option maxHeartbeats 800000 in
theorem make_yes (neg : Bool) (a b : ByteArray) (w : World) (ha : a.size ≤ 1073741824) (hb : b.size ≤ 1073741824) (hy : 0 < nv b) :
    Calls Tryz.prog 96 #[.bool neg, .string a, .string b] w fun e w' => e = .returned (rvB (fr neg (nv a) (nv b)) true) ∧ Below w.heap.size w w' := by
  obtain ⟨h1, h2⟩ := bn_ne hy
  have HR := Lib.hid (fun w => reduced_agg neg a b w ha hb hy)
  have HN := Lib.hid (fun w => normalize_any b w (show b.size ≤ 9223372036854775807 by omega))
  generalize bn (nv b) = t at *
  generalize fr neg (nv a) (nv b) = q at *
  clear hy
  go_enter Tryz.func96, Tryz.ntmps96
  go_wp2_with fail
  refine (HN.out _).mono ?_; rintro e w3 ⟨rfl, rfl⟩
  go_wp2_with fail
  refine (HR.out _).mono ?_; rintro e w3 ⟨rfl, hb3⟩
  obtain ⟨H2, HB⟩ := boxes1 hb3
  obtain ⟨b0, b1, b2, f0, f1, f2⟩ := H2.get3
  have HB := Lib.hid HB
  have H2 := Lib.hid H2
  clear hb3
  go_wp2
  refine bodyPost_forget (fun W => Blk W w.heap.size #[.bool (rn q), .string (rs q), .string (rd q)] ∧ Below w.heap.size w W) ⟨by exact Blk.set3 H2.out _ _ _, below_set3 HB.out (by omega) _ _ _⟩ ?_
  rintro WR ⟨hr9, hb9⟩
  obtain ⟨r0, r1, r2, -, -, -⟩ := hr9.get3
  exact bodyPost_ret (v := rvB q true) (by simp [results, Tryz.results96, go_sem, r0, r1, r2, rvB]) rfl ⟨rfl, hb9⟩

set_option maxRecDepth 100000 in
set_option maxHeartbeats 400000 in
theorem magnitude_any (i : Int) (w : World) (h1 : -9223372036854775808 ≤ i) (h2 : i ≤ 9223372036854775807) :
    Calls Tryz.prog 68 #[.int .i64 i] w fun e w' => e = .returned (.string (bn i.natAbs)) ∧ Below w.heap.size w w' := by
  by_cases h : i < 0
  · have e1 : IntKind.u64.wrap (-IntKind.u64.wrap i) = ((i.natAbs : Nat) : Int) := by
      simp only [IntKind.wrap, IntKind.bits, IntKind.signed]; simp; omega
    have HF := Lib.hid (fun w => fromUint_any i.natAbs w (by omega))
    go_enter Tryz.func68, Tryz.ntmps68
    go_wp2_with fail
    refine (HF.out _).mono ?_; rintro e w3 ⟨rfl, hb3⟩
    go_wp2
    go_ret
    exact ⟨rfl, hb3⟩
  · have e1 : IntKind.u64.wrap i = ((i.natAbs : Nat) : Int) := by
      simp only [IntKind.wrap, IntKind.bits, IntKind.signed]; simp; omega
    have HF := Lib.hid (fun w => fromUint_any i.natAbs w (by omega))
    go_enter Tryz.func68, Tryz.ntmps68
    go_wp2_with fail
    refine (HF.out _).mono ?_; rintro e w3 ⟨rfl, hb3⟩
    go_wp2
    go_ret
    exact ⟨rfl, hb3⟩

theorem fr_int (i : Int) : fr (decide (i < 0)) i.natAbs 1 = (i : Rat) := by
  unfold fr; rw [sgn_self]
  exact (Rat.mkRat_self (i : Rat))

set_option maxRecDepth 100000 in
set_option maxHeartbeats 400000 in
theorem int_any (i : Int) (w : World) (h1 : -9223372036854775808 ≤ i) (h2 : i ≤ 9223372036854775807) :
    Calls Tryz.prog 32 #[.int .i64 i] w fun e w' => e = .returned (.agg #[.bool (rn (i : Rat)), .string (rs (i : Rat)), .string (rd (i : Rat))]) ∧ Below w.heap.size w w' := by
  have hsz : (bn i.natAbs).size ≤ 8 := bn_size_le (by omega)
  have hR : ∀ w, Calls Tryz.prog 67 #[.bool (decide (i < 0)), .string (bn i.natAbs), .string ⟨#[1]⟩] w fun e w' => e = .returned (.agg #[.bool (rn (i : Rat)), .string (rs (i : Rat)), .string (rd (i : Rat))]) ∧ Below w.heap.size w w' := fun w => by
    have := reduced_agg (decide (i < 0)) (bn i.natAbs) ⟨#[1]⟩ w (by omega) (by decide) (by decide)
    rw [nv_bn, show nv ⟨#[1]⟩ = 1 by decide, fr_int] at this
    exact this
  have HF := Lib.hid (fun w => magnitude_any i w h1 h2)
  generalize bn i.natAbs = t at *
  generalize (i : Rat) = q at *
  have HR := Lib.hid hR
  clear hR
  go_enter Tryz.func32, Tryz.ntmps32
  go_wp2_with fail
  refine (HF.out _).mono ?_; rintro e w3 ⟨rfl, hb3⟩
  go_wp2_with fail
  refine (HR.out _).mono ?_; rintro e w4 ⟨rfl, hb4⟩
  obtain ⟨H2, HB⟩ := boxes1 (chain hb3 hb4 (Nat.le_refl _))
  obtain ⟨b0, b1, b2, f0, f1, f2⟩ := H2.get3
  have HB := Lib.hid HB
  have H2 := Lib.hid H2
  clear hb3 hb4
  go_wp2
  refine bodyPost_forget (fun W => Blk W (w.heap.size) #[.bool (rn q), .string (rs q), .string (rd q)] ∧ Below w.heap.size w W) ⟨by exact Blk.set3 H2.out _ _ _, below_set3 HB.out (by omega) _ _ _⟩ ?_
  rintro WR ⟨hr9, hb9⟩
  obtain ⟨y90, y91, y92, -, -, -⟩ := hr9.get3
  exact bodyPost_ret (v := .agg #[.bool (rn q), .string (rs q), .string (rd q)]) (by simp [results, Tryz.results32, go_sem, y90, y91, y92]) rfl ⟨rfl, hb9⟩

set_option maxRecDepth 100000 in
set_option maxHeartbeats 400000 in
theorem signOf_any (q : Rat) (w : World) :
    Calls Tryz.prog 91 #[.agg #[.bool (rn q), .string (rs q), .string (rd q)]] w fun e w' => e = .returned (.int .i64 (sg q)) ∧ Below w.heap.size w w' := by
  by_cases h : nm q = 0
  · have e := nm_zero.mp h
    subst e
    rw [sg_zero h, rn_zero, rs_zero, rd_zero]
    clear h
    go_enter Tryz.func91, Tryz.ntmps91
    go_wp2
    go_ret
    exact ⟨rfl, (Below.refl _ _).alloc (Nat.le_refl _) _⟩
  · obtain ⟨h1, h2⟩ := bn_ne (x := nm q) (by omega)
    have e : rs q = bn (nm q) := rfl
    rw [e]
    generalize bn (nm q) = t at *
    cases hn : rn q
    · rw [sg_pos hn h]
      clear h hn e
      go_enter Tryz.func91, Tryz.ntmps91
      go_wp2
      go_ret
      exact ⟨rfl, (Below.refl _ _).alloc (Nat.le_refl _) _⟩
    · rw [sg_neg hn]
      clear h hn e
      go_enter Tryz.func91, Tryz.ntmps91
      go_wp2
      go_ret
      exact ⟨rfl, (Below.refl _ _).alloc (Nat.le_refl _) _⟩

set_option maxRecDepth 100000 in
set_option maxHeartbeats 400000 in
theorem sign_rat (n : Bool) (s d : ByteArray) (w : World) (hs : s.size ≤ 268435456) (hd : d.size ≤ 268435456) :
    Calls Tryz.prog 60 #[.agg #[.bool n, .string s, .string d]] w fun e w' => e = .returned (.int .i64 (sg (rq n s d))) ∧ Below w.heap.size w w' := by
  have HC := Lib.hid (fun w => clean_agg n s d w (by omega) (by omega))
  generalize rq n s d = q at *
  have HS := Lib.hid (fun w => signOf_any q w)
  generalize sg q = i at *
  go_enter Tryz.func60, Tryz.ntmps60
  go_wp2_with fail
  refine (HC.out _).mono ?_; rintro e w3 ⟨rfl, hb3⟩
  go_wp2_with fail
  refine (HS.out _).mono ?_; rintro e w4 ⟨rfl, hb4⟩
  obtain ⟨H2, HB⟩ := boxes1 (chain hb3 hb4 (Nat.le_refl _))
  have HB := Lib.hid HB
  clear hb3 hb4
  go_wp2
  go_ret
  exact ⟨rfl, HB.out⟩
end Go.Proofs.Ins
