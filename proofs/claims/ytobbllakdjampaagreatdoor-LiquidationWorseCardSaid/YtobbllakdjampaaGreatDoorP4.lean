/- The walk of rational.Compare. -/
import Derived.Test.YtobbllakdjampaaGreatDoorP3
import Derived.Test.YtobbllakdjampaaGreatDoorRatC
set_option linter.unusedSimpArgs false
set_option linter.unusedVariables false
namespace Go.Proofs.Ins
open Go.RowKit

/-- A number in a block of three cells. -/
def RatB (w : World) (b : Nat) (q : Rat) : Prop := Blk w b #[.bool (rn q), .string (rs q), .string (rd q)]
theorem RatB.lt {w : World} {b : Nat} {q : Rat} (h : RatB w b q) : b < w.heap.size := Blk.lt h
theorem RatB.on {w w' : World} {b : Nat} {q : Rat} (h : RatB w b q) (hb : Below w.heap.size w w') : RatB w' b q := Blk.on h hb
theorem RatB.get3 {w : World} {b : Nat} {q : Rat} (h : RatB w b q) :
    w.cell? ⟨b, 0, none⟩ = some (.bool (rn q)) ∧ w.cell? ⟨b, 1, none⟩ = some (.string (rs q)) ∧ w.cell? ⟨b, 2, none⟩ = some (.string (rd q)) ∧ w.frozen? ⟨b, 0, none⟩ = false ∧ w.frozen? ⟨b, 1, none⟩ = false ∧ w.frozen? ⟨b, 2, none⟩ = false := Blk.get3 h
theorem RatB.later3 {w : World} {b : Nat} {q : Rat} (h : RatB w b q) :
    (∀ d os, (Sort.grow (redrawn w d) os).cell? ⟨b, 0, none⟩ = some (.bool (rn q))) ∧ (∀ d os, (Sort.grow (redrawn w d) os).cell? ⟨b, 1, none⟩ = some (.string (rs q))) ∧ (∀ d os, (Sort.grow (redrawn w d) os).cell? ⟨b, 2, none⟩ = some (.string (rd q))) := Blk.later3 h

theorem two_boxes (w : World) (vs us : Array Value) (T U : TypeId) : Blk ((w.alloc (.cells vs T)).alloc (.cells us U)) w.heap.size vs ∧ Blk ((w.alloc (.cells vs T)).alloc (.cells us U)) (w.heap.size + 1) us ∧ Below w.heap.size w ((w.alloc (.cells vs T)).alloc (.cells us U)) :=
  boxes2 (Below.refl _ _)
theorem three_boxes (w : World) (vs us ts : Array Value) (T U V : TypeId) : Blk (((w.alloc (.cells vs T)).alloc (.cells us U)).alloc (.cells ts V)) w.heap.size vs ∧ Blk (((w.alloc (.cells vs T)).alloc (.cells us U)).alloc (.cells ts V)) (w.heap.size + 1) us ∧ Blk (((w.alloc (.cells vs T)).alloc (.cells us U)).alloc (.cells ts V)) (w.heap.size + 1 + 1) ts ∧ Below w.heap.size w (((w.alloc (.cells vs T)).alloc (.cells us U)).alloc (.cells ts V)) :=
  boxes3 (Below.refl _ _)

theorem two_stored {w W : World} {b1 b2 : Nat} {v1 v2 v3 u1 u2 u3 : Value} (x1 x2 x3 y1 y2 y3 : Value) (h1 : Blk W b1 #[v1, v2, v3]) (h2 : Blk W b2 #[u1, u2, u3]) (hb : Below w.heap.size w W) (hn : b1 ≠ b2) (l1 : w.heap.size ≤ b1) (l2 : w.heap.size ≤ b2) :
    Blk ((((((W.setCell ⟨b1, 0, none⟩ x1).setCell ⟨b1, 1, none⟩ x2).setCell ⟨b1, 2, none⟩ x3).setCell ⟨b2, 0, none⟩ y1).setCell ⟨b2, 1, none⟩ y2).setCell ⟨b2, 2, none⟩ y3) b1 #[x1, x2, x3] ∧
    Blk ((((((W.setCell ⟨b1, 0, none⟩ x1).setCell ⟨b1, 1, none⟩ x2).setCell ⟨b1, 2, none⟩ x3).setCell ⟨b2, 0, none⟩ y1).setCell ⟨b2, 1, none⟩ y2).setCell ⟨b2, 2, none⟩ y3) b2 #[y1, y2, y3] ∧
    Below w.heap.size w ((((((W.setCell ⟨b1, 0, none⟩ x1).setCell ⟨b1, 1, none⟩ x2).setCell ⟨b1, 2, none⟩ x3).setCell ⟨b2, 0, none⟩ y1).setCell ⟨b2, 1, none⟩ y2).setCell ⟨b2, 2, none⟩ y3) :=
  ⟨(h1.set3 _ _ _).set3Other hn _ _ _, (h2.set3Other hn.symm _ _ _).set3 _ _ _, below_set3 (below_set3 hb l1 _ _ _) l2 _ _ _⟩

/-- den of a number. -/
theorem den_rat (q : Rat) (w : World) : Calls Tryz.prog 85 #[.agg #[.bool (rn q), .string (rs q), .string (rd q)]] w fun e w' => e = .returned (.string (bn q.den)) ∧ Below w.heap.size w w' := by
  have := den_any (rn q) (rs q) (rd q) w
  rw [dnS_rd] at this; exact this

theorem bn_small {x k : Nat} (h : x < 256 ^ k) (hk : k ≤ 1073741824) : (bn x).size ≤ 1073741824 := Nat.le_trans (bn_size_le h) hk

theorem mul_call (x y k l : Nat) (w : World) (hx : x < 256 ^ k) (hy : y < 256 ^ l) (hk : k ≤ 1073741824) (hl : l ≤ 1073741824) :
    Calls Tryz.prog 84 #[.string (bn x), .string (bn y)] w fun e w' => e = .returned (.string (bn (x * y))) ∧ Below w.heap.size w w' := by
  have := multiply_any (bn x) (bn y) w (bn_small hx hk) (bn_small hy hl)
  rw [nv_bn, nv_bn] at this; exact this

/-- What Compare needs of its callees, at two numbers. -/
structure CmpC (p1 : Bool) (p2 p3 : ByteArray) (q1 : Bool) (q2 q3 : ByteArray) (P1 P2 X Y : ByteArray) (c σ τ : Int) : Prop where
  dp : ∀ w, Calls Tryz.prog 85 #[.agg #[.bool p1, .string p2, .string p3]] w fun e w' => e = .returned (.string P1) ∧ Below w.heap.size w w'
  dq : ∀ w, Calls Tryz.prog 85 #[.agg #[.bool q1, .string q2, .string q3]] w fun e w' => e = .returned (.string P2) ∧ Below w.heap.size w w'
  mx : ∀ w, Calls Tryz.prog 84 #[.string p2, .string P2] w fun e w' => e = .returned (.string X) ∧ Below w.heap.size w w'
  my : ∀ w, Calls Tryz.prog 84 #[.string q2, .string P1] w fun e w' => e = .returned (.string Y) ∧ Below w.heap.size w w'
  cm : ∀ w, Calls Tryz.prog 94 #[.string X, .string Y] w fun e w' => e = .returned (.int .i64 c) ∧ Below w.heap.size w w'
  sp : ∀ w, Calls Tryz.prog 91 #[.agg #[.bool p1, .string p2, .string p3]] w fun e w' => e = .returned (.int .i64 σ) ∧ Below w.heap.size w w'
  sq : ∀ w, Calls Tryz.prog 91 #[.agg #[.bool q1, .string q2, .string q3]] w fun e w' => e = .returned (.int .i64 τ) ∧ Below w.heap.size w w'

theorem cmpC_of (p q : Rat) (k l : Nat) (hp : Sm k p) (hq : Sm l q) (hkl : k + l ≤ 1073741824) :
    CmpC (rn p) (rs p) (rd p) (rn q) (rs q) (rd q) (bn p.den) (bn q.den) (bn (nm p * q.den)) (bn (nm q * p.den)) (cmpN (nm p * q.den) (nm q * p.den)) (sg p) (sg q) := by
  have h1 := pow_mul_lt hp.1 hq.2
  have h2 := pow_mul_lt hq.1 hp.2
  refine ⟨fun w => den_rat p w, fun w => den_rat q w, fun w => mul_call _ _ k l w hp.1 hq.2 (by omega) (by omega), fun w => mul_call _ _ l k w hq.1 hp.2 (by omega) (by omega), fun w => ?_, fun w => signOf_any p w, fun w => signOf_any q w⟩
  have := compareS_any (bn (nm p * q.den)) (bn (nm q * p.den)) w (bn_small h1 hkl) (bn_small h2 (by omega))
  rw [nv_bn, nv_bn] at this
  exact this.mono fun e w' ⟨he, hw⟩ => ⟨he, by subst hw; exact Below.refl _ _⟩

set_option maxRecDepth 100000 in
set_option maxHeartbeats 400000 in
theorem compare_rat (n1 : Bool) (s1 d1 : ByteArray) (n2 : Bool) (s2 d2 : ByteArray) (w : World) (h1 : s1.size + d1.size ≤ 268435456) (h2 : s2.size + d2.size ≤ 268435456) :
    Calls Tryz.prog 64 #[.agg #[.bool n1, .string s1, .string d1], .agg #[.bool n2, .string s2, .string d2]] w fun e w' => e = .returned (.int .i64 (cmpR (rq n1 s1 d1) (rq n2 s2 d2))) ∧ Below w.heap.size w w' := by
  have HC1 := Lib.hid (fun w => clean_agg n1 s1 d1 w (by omega) (by omega))
  have HC2 := Lib.hid (fun w => clean_agg n2 s2 d2 w (by omega) (by omega))
  have HCC := cmpC_of _ _ _ _ (sm_raw n1 s1 d1) (sm_raw n2 s2 d2) (by omega)
  generalize rq n1 s1 d1 = p at *
  generalize rq n2 s2 d2 = q at *
  have f1 : sg p < sg q → cmpR p q = -1 := cmpR_sg_lt
  have f2 : sg q < sg p → cmpR p q = 1 := cmpR_sg_gt
  have f3 : sg p = sg q → cmpR p q = if rn p = true then -(cmpN (nm p * q.den) (nm q * p.den)) else cmpN (nm p * q.den) (nm q * p.den) := cmpR_same
  have f4 : -1 ≤ cmpN (nm p * q.den) (nm q * p.den) ∧ cmpN (nm p * q.den) (nm q * p.den) ≤ 1 := by unfold cmpN; split; omega; split <;> omega
  generalize bn (nm p * q.den) = X at *
  generalize bn (nm q * p.den) = Y at *
  generalize bn p.den = P1 at *
  generalize bn q.den = P2 at *
  generalize cmpN (nm p * q.den) (nm q * p.den) = c at *
  generalize cmpR p q = R at *
  generalize sg p = σ at *
  generalize sg q = τ at *
  generalize rn p = p1 at *
  generalize rs p = p2 at *
  generalize rd p = p3 at *
  generalize rn q = q1 at *
  generalize rs q = q2 at *
  generalize rd q = q3 at *
  have F := Lib.hid (And.intro f1 (And.intro f2 f3))
  have HD := Lib.hid HCC
  clear f1 f2 f3 HCC
  go_enter Tryz.func64, Tryz.ntmps64
  go_wp2
  refine wp_forget (fun W => Blk W w.heap.size #[.bool n1, .string s1, .string d1] ∧ Blk W (w.heap.size + 1) #[.bool n2, .string s2, .string d2] ∧ Below w.heap.size w W) (two_boxes w _ _ _ _) ?_
  rintro W ⟨H1, H2, HB⟩
  obtain ⟨k0, k1, k2⟩ := H1.later3
  obtain ⟨k3, k4, k5⟩ := H2.later3
  refine wp_region_qbt 4 (by kernel_rfl) (by kernel_rfl) ?_
  simp only [List.take_succ_cons, List.take_zero, List.drop_succ_cons, List.drop_zero]
  repeat (first | go_big_quiet_skip | quiet_step (first | with_reducible exact Calls.later (HC1.out _) | with_reducible exact Calls.later (HC2.out _)))
  clear k0 k1 k2 k3 k4 k5
  refine wpQuiet_nil ?_
  intro W1 hb1
  have J1 := Lib.hid (H1.on hb1)
  have J2 := Lib.hid (H2.on hb1)
  have GB := Lib.hid (chain HB hb1 (Nat.le_refl _))
  clear H1 H2 HB hb1
  obtain ⟨a0, a1, a2, a3, a4, a5⟩ := J1.out.get3
  obtain ⟨b0, b1, b2, b3, b4, b5⟩ := J2.out.get3
  go_wp2
  clear a0 a1 a2 a3 a4 a5 b0 b1 b2 b3 b4 b5
  refine wp_forget (fun W => Blk W w.heap.size #[.bool p1, .string p2, .string p3] ∧ Blk W (w.heap.size + 1) #[.bool q1, .string q2, .string q3] ∧ Below w.heap.size w W) (two_stored _ _ _ _ _ _ J1.out J2.out GB.out (by omega) (Nat.le_refl _) (by omega)) ?_
  clear J1 J2 GB
  rintro W3 ⟨H1, H2, HB⟩
  obtain ⟨k0, k1, k2⟩ := H1.later3
  obtain ⟨k3, k4, k5⟩ := H2.later3
  refine wp_region_qb (by kernel_rfl) (by kernel_rfl) ?_
  repeat (first | go_big_quiet_skip | quiet_step (first | with_reducible exact Calls.later (HD.out.sp _) | with_reducible exact Calls.later (HD.out.sq _)))
  clear k0 k1 k2 k3 k4 k5
  refine wpQuiet_nil ?_
  intro W4 hb4
  have J1 := H1.on hb4
  have J2 := H2.on hb4
  have JB := Lib.hid (chain HB hb4 (Nat.le_refl _))
  clear H1 H2 HB hb4 HC1 HC2
  obtain ⟨a0, a1, a2, -, -, -⟩ := J1.get3
  obtain ⟨b0, b1, b2, -, -, -⟩ := J2.get3
  by_cases h : σ = τ
  · as_aux_lemma =>
    subst h
    have hR := F.out.2.2 rfl
    obtain ⟨c1, c2⟩ := f4
    have HR := Lib.hid hR
    clear F hR
    go_wp2
    clear a0 a1 a2 b0 b1 b2
    obtain ⟨k0, k1, k2⟩ := J1.later3
    obtain ⟨k3, k4, k5⟩ := J2.later3
    refine wp_region_qb (by kernel_rfl) (by kernel_rfl) ?_
    repeat (first | go_big_quiet_skip | quiet_step (first | with_reducible exact Calls.later (HD.out.dp _) | with_reducible exact Calls.later (HD.out.dq _) | with_reducible exact Calls.later (HD.out.mx _) | with_reducible exact Calls.later (HD.out.my _) | with_reducible exact Calls.later (HD.out.cm _)))
    clear k0 k1 k2 k3 k4 k5
    refine wpQuiet_nil ?_
    intro W5 hb5
    have E1 := J1.on hb5
    have EB := Lib.hid (chain JB.out hb5 (Nat.le_refl _))
    clear J2 hb5 JB
    obtain ⟨a0, a1, a2, -, -, -⟩ := E1.get3
    cases p1
    · go_wp2
      go_ret
      exact ⟨ret_int HR.out.symm, EB.out⟩
    · have e5 : IntKind.i64.wrap (-c) = -c := IntWalk.i64_in _ (by omega)
      go_wp2
      go_ret
      exact ⟨ret_int HR.out.symm, EB.out⟩
  · as_aux_lemma =>
    have e1 : (σ == τ) = false := by simp [h]
    have e2 : (σ != τ) = true := by simp [h]
    by_cases h2 : σ < τ
    · have HR := Lib.hid (F.out.1 h2)
      clear F h
      go_wp2
      go_ret
      exact ⟨ret_int HR.out.symm, JB.out⟩
    · have HR := Lib.hid (F.out.2.1 (by omega))
      have e3 : decide (σ < τ) = false := by simp; omega
      clear F h
      go_wp2
      go_ret
      exact ⟨ret_int HR.out.symm, JB.out⟩
end Go.Proofs.Ins
