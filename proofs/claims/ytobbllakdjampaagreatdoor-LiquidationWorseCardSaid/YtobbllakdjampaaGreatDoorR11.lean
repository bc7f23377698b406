/- The walks of insolvencyref1: Signum, Opposite, Times. -/
import Derived.Test.YtobbllakdjampaaGreatDoorR10
import Derived.Deep.RegionHeld3
set_option linter.unusedSimpArgs false
set_option linter.unusedVariables false
namespace Go.Proofs.Ins
open Go.RowKit

theorem rreduced_any (neg : Bool) (ax ay : Option Addr) (lx ly cx cy x y k : Nat) (w : World) (h1 : LimV w ax lx cx x) (h2 : LimV w ay ly cy y) (hy : 0 < y) (kx : x < 256 ^ k) (ky : y < 256 ^ k) (hk : k ≤ 1073741820) :
    Calls Tryz.prog 103 #[.bool neg, .slice ax lx cx, .slice ay ly cy] w fun e w' => e = .returned (.agg #[.bool (rn (fr neg x y)), .string (rs (fr neg x y)), .string (rd (fr neg x y))]) ∧ Below w.heap.size w w' := by
  rcases Nat.eq_zero_or_pos x with h | h
  · have hl := h1.2.2.2.zero_iff.mp h
    subst hl
    rw [h, fr_zero]
    exact rreduced_zero neg ax ay cx ly cy w
  · exact rreduced_pos neg ax ay lx ly cx cy x y k w h1 h2 h hy kx ky hk

/-- The six cells of two numbers, in a later world. -/
theorem keep6 {W W' : World} {b1 b2 : Nat} {x1 x2 x3 y1 y2 y3 : Value} (h1 : Blk W b1 #[x1, x2, x3]) (h2 : Blk W b2 #[y1, y2, y3]) (hb : Below W.heap.size W W') :
    W'.cell? ⟨b1, 0, none⟩ = some x1 ∧ W'.cell? ⟨b1, 1, none⟩ = some x2 ∧ W'.cell? ⟨b1, 2, none⟩ = some x3 ∧ W'.cell? ⟨b2, 0, none⟩ = some y1 ∧ W'.cell? ⟨b2, 1, none⟩ = some y2 ∧ W'.cell? ⟨b2, 2, none⟩ = some y3 :=
  ⟨(h1.on hb).cell 0, (h1.on hb).cell 1, (h1.on hb).cell 2, (h2.on hb).cell 0, (h2.on hb).cell 1, (h2.on hb).cell 2⟩

/-- What Times needs of its callees. -/
structure TimC (p1 : Bool) (p2 p3 : ByteArray) (q1 : Bool) (q2 q3 : ByteArray) (x y d g k : Nat) (r1 : Bool) (r2 r3 : ByteArray) : Prop where
  lp : ∀ w, Calls Tryz.prog 105 #[.string p2] w (RetLimbs w x)
  lq : ∀ w, Calls Tryz.prog 105 #[.string q2] w (RetLimbs w y)
  dp : ∀ w, Calls Tryz.prog 106 #[.agg #[.bool p1, .string p2, .string p3]] w (RetLimbs w d)
  dq : ∀ w, Calls Tryz.prog 106 #[.agg #[.bool q1, .string q2, .string q3]] w (RetLimbs w g)
  hx : x < 256 ^ k
  hy : y < 256 ^ k
  hd : d < 256 ^ k
  hg : g < 256 ^ k
  rd : ∀ w an ln cn ad ld cd, LimV w an ln cn (x * y) → LimV w ad ld cd (d * g) → Calls Tryz.prog 103 #[.bool (!(p1 == q1)), .slice an ln cn, .slice ad ld cd] w fun e w' => e = .returned (.agg #[.bool r1, .string r2, .string r3]) ∧ Below w.heap.size w w'

theorem timC_of (p q : Rat) (k : Nat) (hp : Sm k p) (hq : Sm k q) (hk : k ≤ 268435456) :
    TimC (rn p) (rs p) (rd p) (rn q) (rs q) (rd q) (nm p) (nm q) p.den q.den k (rn (p * q)) (rs (p * q)) (rd (p * q)) := by
  refine ⟨fun w => ?_, fun w => ?_, fun w => rden_any p k w hp.2 hk, fun w => rden_any q k w hq.2 hk, hp.1, hq.1, hp.2, hq.2, fun w an ln cn ad ld cd h1 h2 => ?_⟩
  · have := rlimbs_any (rs p) w (by have := hp.rs; omega)
    rw [nm_rs] at this; exact this
  · have := rlimbs_any (rs q) w (by have := hq.rs; omega)
    rw [nm_rs] at this; exact this
  · rw [fr_mul]
    exact rreduced_any _ an ad ln ld cn cd _ _ (k + k) w h1 h2 (Nat.mul_pos p.den_pos q.den_pos) (pow_mul_lt hp.1 hq.1) (pow_mul_lt hp.2 hq.2) (by omega)

set_option maxRecDepth 100000 in
set_option maxHeartbeats 1600000 in
theorem times_pos (p1 : Bool) (p2 p3 : ByteArray) (q1 : Bool) (q2 q3 : ByteArray) (x y d g k : Nat) (r1 : Bool) (r2 r3 : ByteArray) (hC : TimC p1 p2 p3 q1 q2 q3 x y d g k r1 r2 r3) (hk : k ≤ 268435456)
    (hp : p2.toList.isEmpty = false) (hp' : ¬ p2.toList = []) (hq : q2.toList.isEmpty = false) (hq' : ¬ q2.toList = []) (w : World) :
    Calls Tryz.prog 89 #[.agg #[.bool p1, .string p2, .string p3], .agg #[.bool q1, .string q2, .string q3]] w fun e w' => e = .returned (.agg #[.bool r1, .string r2, .string r3]) ∧ Below w.heap.size w w' := by
  have HC := Lib.hid hC
  have kxy := pow_mul_lt hC.hx hC.hy
  have kdg := pow_mul_lt hC.hd hC.hg
  have KXY := Lib.hid kxy
  have KDG := Lib.hid kdg
  clear hC kxy kdg
  go_enter Tryz.func89, Tryz.ntmps89
  go_wp2
  clear hp hp' hq hq'
  refine wp_forget (fun W => Blk W w.heap.size #[.bool p1, .string p2, .string p3] ∧ Blk W (w.heap.size + 1) #[.bool q1, .string q2, .string q3] ∧ Blk W (w.heap.size + 1 + 1) #[.bool false, .string ⟨#[]⟩, .string ⟨#[]⟩] ∧ Below w.heap.size w W) (three_boxes w _ _ _ _ _ _) ?_
  rintro W ⟨H1, H2, H3, HB⟩
  have J1 := Lib.hid H1
  have J2 := Lib.hid H2
  have J3 := Lib.hid H3
  have JB := Lib.hid HB
  obtain ⟨a0, a1, a2, a3, a4, a5⟩ := keep6 H1 H2 (Below.refl _ _)
  clear H1 H2 H3 HB
  go_region_held3 (fun w' => w'.cell? ⟨w.heap.size, 0, none⟩ = some (.bool p1) ∧ w'.cell? ⟨w.heap.size, 1, none⟩ = some (.string p2) ∧ w'.cell? ⟨w.heap.size, 2, none⟩ = some (.string p3) ∧ w'.cell? ⟨w.heap.size + 1, 0, none⟩ = some (.bool q1) ∧ w'.cell? ⟨w.heap.size + 1, 1, none⟩ = some (.string q2) ∧ w'.cell? ⟨w.heap.size + 1, 2, none⟩ = some (.string q3))
    (first | exact keep6 (Blk.set3Other (J1.out.drew.on HB7.out) (by omega) _ _ _) (Blk.set3Other (J2.out.drew.on HB7.out) (by omega) _ _ _) (Below.refl _ _) | exact keep6 J1.out.drew J2.out.drew HB7.out | exact keep6 J1.out.drew J2.out.drew HB6.out | exact keep6 J1.out.drew J2.out.drew HB5.out | exact keep6 J1.out.drew J2.out.drew HB4.out | exact keep6 J1.out.drew J2.out.drew HB3.out | exact keep6 J1.out.drew J2.out.drew HB2.out | exact keep6 J1.out.drew J2.out.drew HB1.out | exact ⟨a0, a1, a2, a3, a4, a5⟩ | go_keep)
    (first
      | (go_at_call_of 105 (Value.string p2); refine (HC.out.lp _).mono ?_; rintro e w1 ⟨a1x, l1x, c1x, rfl, u1, u2, c3, c4⟩; have l1 := RetLimbs.lim (w := w) c3 HC.out.hx (by omega); have X1 := Lib.hid c3; have HB1 := Lib.hid c4; clear c3 c4)
      | (go_at_call_of 105 (Value.string q2); refine (HC.out.lq _).mono ?_; rintro e w2 ⟨a2x, l2x, c2x, rfl, u3, u4, c3, c4⟩; have l2 := RetLimbs.lim (w := w) c3 HC.out.hy (by omega); have X2 := Lib.hid (X1.out.below c4 (Nat.le_refl _)); have Y2 := Lib.hid c3; have HB2 := Lib.hid (chain HB1.out c4 (Nat.le_refl _)); clear c3 c4)
      | (go_at_call 104; (with_reducible refine (times_any a1x a2x l1x l2x c1x c2x _ _ _ X2.out Y2.out (by omega) (by omega)).mono ?_); rintro e w3 ⟨a3x, l3x, c3x, rfl, u5, u6, c3, c4⟩; have l3 := RetLimbs.lim (w := w) c3 KXY.out (by omega); have N3 := Lib.hid c3; have HB3 := Lib.hid (chain HB2.out c4 (Nat.le_refl _)); clear c3 c4)
      | (go_at_call_of 106 (Value.agg #[Value.bool p1, Value.string p2, Value.string p3]); refine (HC.out.dp _).mono ?_; rintro e w4 ⟨a4x, l4x, c4x, rfl, u7, u8, c3, c4⟩; have l4 := RetLimbs.lim (w := w) c3 HC.out.hd (by omega); have D4 := Lib.hid c3; have N4 := Lib.hid (N3.out.below c4 (Nat.le_refl _)); have HB4 := Lib.hid (chain HB3.out c4 (Nat.le_refl _)); clear c3 c4)
      | (go_at_call_of 106 (Value.agg #[Value.bool q1, Value.string q2, Value.string q3]); refine (HC.out.dq _).mono ?_; rintro e w5 ⟨a5x, l5x, c5x, rfl, u9, u10, c3, c4⟩; have l5 := RetLimbs.lim (w := w) c3 HC.out.hg (by omega); have G5 := Lib.hid c3; have D5 := Lib.hid (D4.out.below c4 (Nat.le_refl _)); have N5 := Lib.hid (N4.out.below c4 (Nat.le_refl _)); have HB5 := Lib.hid (chain HB4.out c4 (Nat.le_refl _)); clear c3 c4)
      | (go_at_call 104; (with_reducible refine (times_any a4x a5x l4x l5x c4x c5x _ _ _ D5.out G5.out (by omega) (by omega)).mono ?_); rintro e w6 ⟨a6x, l6x, c6x, rfl, u11, u12, c3, c4⟩; have l6 := RetLimbs.lim (w := w) c3 KDG.out (by omega); have M6 := Lib.hid c3; have N6 := Lib.hid (N5.out.below c4 (Nat.le_refl _)); have HB6 := Lib.hid (chain HB5.out c4 (Nat.le_refl _)); clear c3 c4)
      | (go_at_call 103; refine (HC.out.rd _ _ _ _ _ _ _ ⟨u5, u6, by omega, N6.out⟩ ⟨u11, u12, by omega, M6.out⟩).mono ?_; rintro e w7 ⟨rfl, c4⟩; have HB7 := Lib.hid (chain HB6.out c4 (Nat.le_refl _)); clear c4; obtain ⟨z0, z1, z2, z3, z4, z5⟩ := (J3.out.drew.on HB7.out).get3))
  have HB := Lib.hid (chain JB.out.drew HB7.out (Nat.le_refl _))
  have H2 := Lib.hid (J3.out.drew.on HB7.out)
  go_wp2
  refine bodyPost_forget (fun W => Blk W (w.heap.size + 1 + 1) #[.bool r1, .string r2, .string r3] ∧ Below w.heap.size w W) ⟨by exact Blk.set3 H2.out _ _ _, below_set3 HB.out (by omega) _ _ _⟩ ?_
  rintro WR ⟨hr9, hb9⟩
  obtain ⟨y90, y91, y92, -, -, -⟩ := hr9.get3
  exact bodyPost_ret (v := .agg #[.bool r1, .string r2, .string r3]) (by simp [results, Tryz.results89, go_sem, y90, y91, y92]) rfl ⟨rfl, hb9⟩
/-- What Over needs of its callees. -/
structure OvrC (p1 : Bool) (p2 p3 : ByteArray) (q1 : Bool) (q2 q3 : ByteArray) (x y d g k : Nat) (r1 : Bool) (r2 r3 : ByteArray) : Prop where
  lp : ∀ w, Calls Tryz.prog 105 #[.string p2] w (RetLimbs w x)
  lq : ∀ w, Calls Tryz.prog 105 #[.string q2] w (RetLimbs w y)
  dp : ∀ w, Calls Tryz.prog 106 #[.agg #[.bool p1, .string p2, .string p3]] w (RetLimbs w d)
  dq : ∀ w, Calls Tryz.prog 106 #[.agg #[.bool q1, .string q2, .string q3]] w (RetLimbs w g)
  hx : x < 256 ^ k
  hy : y < 256 ^ k
  hd : d < 256 ^ k
  hg : g < 256 ^ k
  rd : ∀ w an ln cn ad ld cd, LimV w an ln cn (x * g) → LimV w ad ld cd (d * y) → Calls Tryz.prog 103 #[.bool (!(p1 == q1)), .slice an ln cn, .slice ad ld cd] w fun e w' => e = .returned (.agg #[.bool r1, .string r2, .string r3]) ∧ Below w.heap.size w w'

theorem ovrC_of (p q : Rat) (k : Nat) (hp : Sm k p) (hq : Sm k q) (hk : k ≤ 268435456) (h0 : q ≠ 0) :
    OvrC (rn p) (rs p) (rd p) (rn q) (rs q) (rd q) (nm p) (nm q) p.den q.den k (rn (p / q)) (rs (p / q)) (rd (p / q)) := by
  refine ⟨fun w => ?_, fun w => ?_, fun w => rden_any p k w hp.2 hk, fun w => rden_any q k w hq.2 hk, hp.1, hq.1, hp.2, hq.2, fun w an ln cn ad ld cd h1 h2 => ?_⟩
  · have := rlimbs_any (rs p) w (by have := hp.rs; omega)
    rw [nm_rs] at this; exact this
  · have := rlimbs_any (rs q) w (by have := hq.rs; omega)
    rw [nm_rs] at this; exact this
  · rw [fr_div h0]
    exact rreduced_any _ an ad ln ld cn cd _ _ (k + k) w h1 h2 (Nat.mul_pos p.den_pos (Nat.pos_of_ne_zero fun e => h0 (nm_zero.mp e))) (pow_mul_lt hp.1 hq.2) (pow_mul_lt hp.2 hq.1) (by omega)

set_option maxRecDepth 100000 in
set_option maxHeartbeats 1600000 in
theorem over_pos (p1 : Bool) (p2 p3 : ByteArray) (q1 : Bool) (q2 q3 : ByteArray) (x y d g k : Nat) (r1 : Bool) (r2 r3 : ByteArray) (hC : OvrC p1 p2 p3 q1 q2 q3 x y d g k r1 r2 r3) (hk : k ≤ 268435456)
    (hp : p2.toList.isEmpty = false) (hp' : ¬ p2.toList = []) (w : World) :
    Calls Tryz.prog 70 #[.agg #[.bool p1, .string p2, .string p3], .agg #[.bool q1, .string q2, .string q3]] w fun e w' => e = .returned (.agg #[.bool r1, .string r2, .string r3]) ∧ Below w.heap.size w w' := by
  have HC := Lib.hid hC
  have kxy := pow_mul_lt hC.hx hC.hg
  have kdg := pow_mul_lt hC.hd hC.hy
  have KXY := Lib.hid kxy
  have KDG := Lib.hid kdg
  clear hC kxy kdg
  go_enter Tryz.func70, Tryz.ntmps70
  go_wp2
  clear hp hp'
  refine wp_forget (fun W => Blk W w.heap.size #[.bool p1, .string p2, .string p3] ∧ Blk W (w.heap.size + 1) #[.bool q1, .string q2, .string q3] ∧ Blk W (w.heap.size + 1 + 1) #[.bool false, .string ⟨#[]⟩, .string ⟨#[]⟩] ∧ Below w.heap.size w W) (three_boxes w _ _ _ _ _ _) ?_
  rintro W ⟨H1, H2, H3, HB⟩
  have J1 := Lib.hid H1
  have J2 := Lib.hid H2
  have J3 := Lib.hid H3
  have JB := Lib.hid HB
  obtain ⟨a0, a1, a2, a3, a4, a5⟩ := keep6 H1 H2 (Below.refl _ _)
  clear H1 H2 H3 HB
  go_region_held3 (fun w' => w'.cell? ⟨w.heap.size, 0, none⟩ = some (.bool p1) ∧ w'.cell? ⟨w.heap.size, 1, none⟩ = some (.string p2) ∧ w'.cell? ⟨w.heap.size, 2, none⟩ = some (.string p3) ∧ w'.cell? ⟨w.heap.size + 1, 0, none⟩ = some (.bool q1) ∧ w'.cell? ⟨w.heap.size + 1, 1, none⟩ = some (.string q2) ∧ w'.cell? ⟨w.heap.size + 1, 2, none⟩ = some (.string q3))
    (first | exact keep6 (Blk.set3Other (J1.out.drew.on HB7.out) (by omega) _ _ _) (Blk.set3Other (J2.out.drew.on HB7.out) (by omega) _ _ _) (Below.refl _ _) | exact keep6 J1.out.drew J2.out.drew HB7.out | exact keep6 J1.out.drew J2.out.drew HB6.out | exact keep6 J1.out.drew J2.out.drew HB5.out | exact keep6 J1.out.drew J2.out.drew HB4.out | exact keep6 J1.out.drew J2.out.drew HB3.out | exact keep6 J1.out.drew J2.out.drew HB2.out | exact keep6 J1.out.drew J2.out.drew HB1.out | exact ⟨a0, a1, a2, a3, a4, a5⟩ | go_keep)
    (first
      | (go_at_call_of 105 (Value.string p2); refine (HC.out.lp _).mono ?_; rintro e w1 ⟨a1x, l1x, c1x, rfl, u1, u2, c3, c4⟩; have l1 := RetLimbs.lim (w := w) c3 HC.out.hx (by omega); have X1 := Lib.hid c3; have HB1 := Lib.hid c4; clear c3 c4)
      | (go_at_call_of 106 (Value.agg #[Value.bool q1, Value.string q2, Value.string q3]); refine (HC.out.dq _).mono ?_; rintro e w2 ⟨a2x, l2x, c2x, rfl, u3, u4, c3, c4⟩; have l2 := RetLimbs.lim (w := w) c3 HC.out.hg (by omega); have X2 := Lib.hid (X1.out.below c4 (Nat.le_refl _)); have Y2 := Lib.hid c3; have HB2 := Lib.hid (chain HB1.out c4 (Nat.le_refl _)); clear c3 c4)
      | (go_at_call 104; (with_reducible refine (times_any a1x a2x l1x l2x c1x c2x _ _ _ X2.out Y2.out (by omega) (by omega)).mono ?_); rintro e w3 ⟨a3x, l3x, c3x, rfl, u5, u6, c3, c4⟩; have l3 := RetLimbs.lim (w := w) c3 KXY.out (by omega); have N3 := Lib.hid c3; have HB3 := Lib.hid (chain HB2.out c4 (Nat.le_refl _)); clear c3 c4)
      | (go_at_call_of 106 (Value.agg #[Value.bool p1, Value.string p2, Value.string p3]); refine (HC.out.dp _).mono ?_; rintro e w4 ⟨a4x, l4x, c4x, rfl, u7, u8, c3, c4⟩; have l4 := RetLimbs.lim (w := w) c3 HC.out.hd (by omega); have D4 := Lib.hid c3; have N4 := Lib.hid (N3.out.below c4 (Nat.le_refl _)); have HB4 := Lib.hid (chain HB3.out c4 (Nat.le_refl _)); clear c3 c4)
      | (go_at_call_of 105 (Value.string q2); refine (HC.out.lq _).mono ?_; rintro e w5 ⟨a5x, l5x, c5x, rfl, u9, u10, c3, c4⟩; have l5 := RetLimbs.lim (w := w) c3 HC.out.hy (by omega); have G5 := Lib.hid c3; have D5 := Lib.hid (D4.out.below c4 (Nat.le_refl _)); have N5 := Lib.hid (N4.out.below c4 (Nat.le_refl _)); have HB5 := Lib.hid (chain HB4.out c4 (Nat.le_refl _)); clear c3 c4)
      | (go_at_call 104; (with_reducible refine (times_any a4x a5x l4x l5x c4x c5x _ _ _ D5.out G5.out (by omega) (by omega)).mono ?_); rintro e w6 ⟨a6x, l6x, c6x, rfl, u11, u12, c3, c4⟩; have l6 := RetLimbs.lim (w := w) c3 KDG.out (by omega); have M6 := Lib.hid c3; have N6 := Lib.hid (N5.out.below c4 (Nat.le_refl _)); have HB6 := Lib.hid (chain HB5.out c4 (Nat.le_refl _)); clear c3 c4)
      | (go_at_call 103; refine (HC.out.rd _ _ _ _ _ _ _ ⟨u5, u6, by omega, N6.out⟩ ⟨u11, u12, by omega, M6.out⟩).mono ?_; rintro e w7 ⟨rfl, c4⟩; have HB7 := Lib.hid (chain HB6.out c4 (Nat.le_refl _)); clear c4; obtain ⟨z0, z1, z2, z3, z4, z5⟩ := (J3.out.drew.on HB7.out).get3))
  have HB := Lib.hid (chain JB.out.drew HB7.out (Nat.le_refl _))
  have H2 := Lib.hid (J3.out.drew.on HB7.out)
  go_wp2
  refine bodyPost_forget (fun W => Blk W (w.heap.size + 1 + 1) #[.bool r1, .string r2, .string r3] ∧ Below w.heap.size w W) ⟨by exact Blk.set3 H2.out _ _ _, below_set3 HB.out (by omega) _ _ _⟩ ?_
  rintro WR ⟨hr9, hb9⟩
  obtain ⟨y90, y91, y92, -, -, -⟩ := hr9.get3
  exact bodyPost_ret (v := .agg #[.bool r1, .string r2, .string r3]) (by simp [results, Tryz.results70, go_sem, y90, y91, y92]) rfl ⟨rfl, hb9⟩

/-- A number of at most k bytes in each part, on which the reference's functions are called. -/
theorem rs_ne {q : Rat} (h : q ≠ 0) : (rs q).toList.isEmpty = false ∧ ¬ (rs q).toList = [] := bn_ne (Nat.pos_of_ne_zero fun e => h (nm_zero.mp e))

set_option maxRecDepth 100000 in
set_option maxHeartbeats 400000 in
theorem times_zero (p1 : Bool) (p2 p3 : ByteArray) (q1 : Bool) (q3 : ByteArray) (w : World) :
    Calls Tryz.prog 89 #[.agg #[.bool p1, .string p2, .string p3], .agg #[.bool q1, .string ⟨#[]⟩, .string q3]] w fun e w' => e = .returned (rv 0) ∧ Below w.heap.size w w' := by
  by_cases h : p2.size = 0
  · obtain rfl := toList_of_empty h
    clear h
    go_enter Tryz.func89, Tryz.ntmps89
    go_wp2
    exact bodyPost_ret (v := rv 0) (by simp [results, Tryz.results89, go_sem, rv, rn_zero, rs_zero, rd_zero]) rfl ⟨rfl, (three_boxes w _ _ _ _ _ _).2.2.2⟩
  · obtain ⟨h1, h2⟩ := toList_of_pos h
    clear h
    go_enter Tryz.func89, Tryz.ntmps89
    go_wp2
    exact bodyPost_ret (v := rv 0) (by simp [results, Tryz.results89, go_sem, rv, rn_zero, rs_zero, rd_zero]) rfl ⟨rfl, (three_boxes w _ _ _ _ _ _).2.2.2⟩

set_option maxRecDepth 100000 in
set_option maxHeartbeats 400000 in
theorem times_zero' (p1 : Bool) (p3 : ByteArray) (q : Value) (q1 : Bool) (q2 q3 : ByteArray) (w : World) :
    Calls Tryz.prog 89 #[.agg #[.bool p1, .string ⟨#[]⟩, .string p3], .agg #[.bool q1, .string q2, .string q3]] w fun e w' => e = .returned (rv 0) ∧ Below w.heap.size w w' := by
  go_enter Tryz.func89, Tryz.ntmps89
  go_wp2
  exact bodyPost_ret (v := rv 0) (by simp [results, Tryz.results89, go_sem, rv, rn_zero, rs_zero, rd_zero]) rfl ⟨rfl, (three_boxes w _ _ _ _ _ _).2.2.2⟩

set_option maxRecDepth 100000 in
set_option maxHeartbeats 400000 in
theorem over_zero (p1 : Bool) (p3 : ByteArray) (q1 : Bool) (q2 q3 : ByteArray) (w : World) :
    Calls Tryz.prog 70 #[.agg #[.bool p1, .string ⟨#[]⟩, .string p3], .agg #[.bool q1, .string q2, .string q3]] w fun e w' => e = .returned (rv 0) ∧ Below w.heap.size w w' := by
  go_enter Tryz.func70, Tryz.ntmps70
  go_wp2
  exact bodyPost_ret (v := rv 0) (by simp [results, Tryz.results70, go_sem, rv, rn_zero, rs_zero, rd_zero]) rfl ⟨rfl, (three_boxes w _ _ _ _ _ _).2.2.2⟩

theorem rtimes_any (p q : Rat) (k : Nat) (w : World) (hp : Sm k p) (hq : Sm k q) (hk : k ≤ 268435456) :
    Calls Tryz.prog 89 #[.agg #[.bool (rn p), .string (rs p), .string (rd p)], .agg #[.bool (rn q), .string (rs q), .string (rd q)]] w fun e w' => e = .returned (.agg #[.bool (rn (p * q)), .string (rs (p * q)), .string (rd (p * q))]) ∧ Below w.heap.size w w' := by
  by_cases h1 : p = 0
  · subst h1; rw [Rat.zero_mul]; exact times_zero' _ _ (rv q) _ _ _ w
  · by_cases h2 : q = 0
    · subst h2; rw [Rat.mul_zero]; exact times_zero _ _ _ _ _ w
    · exact times_pos _ _ _ _ _ _ _ _ _ _ _ _ _ _ (timC_of p q k hp hq hk) hk (rs_ne h1).1 (rs_ne h1).2 (rs_ne h2).1 (rs_ne h2).2 w

theorem rover_any (p q : Rat) (k : Nat) (w : World) (hp : Sm k p) (hq : Sm k q) (hk : k ≤ 268435456) (h0 : q ≠ 0) :
    Calls Tryz.prog 70 #[.agg #[.bool (rn p), .string (rs p), .string (rd p)], .agg #[.bool (rn q), .string (rs q), .string (rd q)]] w fun e w' => e = .returned (.agg #[.bool (rn (p / q)), .string (rs (p / q)), .string (rd (p / q))]) ∧ Below w.heap.size w w' := by
  by_cases h1 : p = 0
  · subst h1
    have e : (0 : Rat) / q = 0 := by rw [Rat.div_def, Rat.zero_mul]
    rw [e]; exact over_zero _ _ _ _ _ w
  · exact over_pos _ _ _ _ _ _ _ _ _ _ _ _ _ _ (ovrC_of p q k hp hq hk h0) hk (rs_ne h1).1 (rs_ne h1).2 w
end Go.Proofs.Ins
