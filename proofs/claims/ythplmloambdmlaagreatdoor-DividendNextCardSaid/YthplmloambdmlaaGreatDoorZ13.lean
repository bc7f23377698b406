/- The walks of insolvencyref1: Plus. -/
import Derived.Test.YthplmloambdmlaaGreatDoorZ12
import Derived.Deep.RegionHeld3

set_option linter.unusedSimpArgs false
set_option linter.unusedVariables false
namespace Go.Proofs.Ins
open Go.RowKit

theorem rreduced_any (neg : Bool) (ax ay : Option Addr) (lx ly cx cy x y k : Nat) (w : World) (h1 : LimV w ax lx cx x) (h2 : LimV w ay ly cy y) (hy : 0 < y) (kx : x < 256 ^ k) (ky : y < 256 ^ k) (hk : k ≤ 1073741820) :
    Calls Tryz.prog 257 #[.bool neg, .slice ax lx cx, .slice ay ly cy] w fun e w' => e = .returned (.agg #[.bool (rn (fr neg x y)), .string (rs (fr neg x y)), .string (rd (fr neg x y))]) ∧ Below w.heap.size w w' := by
  rcases Nat.eq_zero_or_pos x with h | h
  · have hl := h1.2.2.2.zero_iff.mp h
    subst hl
    rw [h, fr_zero]
    exact rreduced_zero neg ax ay cx ly cy w
  · exact rreduced_pos neg ax ay lx ly cx cy x y k w h1 h2 h hy kx ky hk

/-- The six cells of two numbers, in a later world. -/
theorem keep6 {W W' : World} {b1 b2 : Nat} {x1 x2 x3 y1 y2 y3 : Value} (h1 : Blk W b1 #[x1, x2, x3]) (h2 : Blk W b2 #[y1, y2, y3]) (hb : Below W.heap.size W W') :
    W'.cell? ⟨b1, 0, none⟩ = some x1 ∧ W'.cell? ⟨b1, 1, none⟩ = some x2 ∧ W'.cell? ⟨b1, 2, none⟩ = some x3 ∧ W'.cell? ⟨b2, 0, none⟩ = some y1 ∧ W'.cell? ⟨b2, 1, none⟩ = some y2 ∧ W'.cell? ⟨b2, 2, none⟩ = some y3 :=
  ⟨(h1.on hb).cell 0, (h1.on hb).cell 1, (h1.on hb).cell 2, (h2.on hb).cell 0, (h2.on hb).cell 1, (h2.on hb).cell 2⟩

/-- What Times needs of its callees. -/
structure TimC (p1 : Bool) (p2 p3 : ByteArray) (q1 : Bool) (q2 q3 : ByteArray) (x y d g k : Nat) (r1 : Bool) (r2 r3 : ByteArray) : Prop where
  lp : ∀ w, Calls Tryz.prog 256 #[.string p2] w (RetLimbs w x)
  lq : ∀ w, Calls Tryz.prog 256 #[.string q2] w (RetLimbs w y)
  dp : ∀ w, Calls Tryz.prog 254 #[.agg #[.bool p1, .string p2, .string p3]] w (RetLimbs w d)
  dq : ∀ w, Calls Tryz.prog 254 #[.agg #[.bool q1, .string q2, .string q3]] w (RetLimbs w g)
  hx : x < 256 ^ k
  hy : y < 256 ^ k
  hd : d < 256 ^ k
  hg : g < 256 ^ k
  rd : ∀ w an ln cn ad ld cd, LimV w an ln cn (x * y) → LimV w ad ld cd (d * g) → Calls Tryz.prog 257 #[.bool (!(p1 == q1)), .slice an ln cn, .slice ad ld cd] w fun e w' => e = .returned (.agg #[.bool r1, .string r2, .string r3]) ∧ Below w.heap.size w w'

theorem timC_of (p q : Rat) (k : Nat) (hp : Sm k p) (hq : Sm k q) (hk : k ≤ 268435456) :
    TimC (rn p) (rs p) (rd p) (rn q) (rs q) (rd q) (nm p) (nm q) p.den q.den k (rn (p * q)) (rs (p * q)) (rd (p * q)) := by
  refine ⟨fun w => ?_, fun w => ?_, fun w => rden_any p k w hp.2 hk, fun w => rden_any q k w hq.2 hk, hp.1, hq.1, hp.2, hq.2, fun w an ln cn ad ld cd h1 h2 => ?_⟩
  · have := rlimbs_any (rs p) w (by have := hp.rs; omega)
    rw [nm_rs] at this; exact this
  · have := rlimbs_any (rs q) w (by have := hq.rs; omega)
    rw [nm_rs] at this; exact this
  · rw [fr_mul]
    exact rreduced_any _ an ad ln ld cn cd _ _ (k + k) w h1 h2 (Nat.mul_pos p.den_pos q.den_pos) (pow_mul_lt hp.1 hq.1) (pow_mul_lt hp.2 hq.2) (by omega)

set_option maxRecDepth 100000 in
set_option maxHeartbeats 1600000 in
theorem times_pos (p1 : Bool) (p2 p3 : ByteArray) (q1 : Bool) (q2 q3 : ByteArray) (x y d g k : Nat) (r1 : Bool) (r2 r3 : ByteArray) (hC : TimC p1 p2 p3 q1 q2 q3 x y d g k r1 r2 r3) (hk : k ≤ 268435456)
    (hp : p2.toList.isEmpty = false) (hp' : ¬ p2.toList = []) (hq : q2.toList.isEmpty = false) (hq' : ¬ q2.toList = []) (w : World) :
    Calls Tryz.prog 342 #[.agg #[.bool p1, .string p2, .string p3], .agg #[.bool q1, .string q2, .string q3]] w fun e w' => e = .returned (.agg #[.bool r1, .string r2, .string r3]) ∧ Below w.heap.size w w' := by
  have HC := Lib.hid hC
  have kxy := pow_mul_lt hC.hx hC.hy
  have kdg := pow_mul_lt hC.hd hC.hg
  have KXY := Lib.hid kxy
  have KDG := Lib.hid kdg
  clear hC kxy kdg
  go_enter Tryz.func342, Tryz.ntmps342
  go_wp2
  clear hp hp' hq hq'
  refine wp_forget (fun W => Blk W w.heap.size #[.bool p1, .string p2, .string p3] ∧ Blk W (w.heap.size + 1) #[.bool q1, .string q2, .string q3] ∧ Blk W (w.heap.size + 1 + 1) #[.bool false, .string ⟨#[]⟩, .string ⟨#[]⟩] ∧ Below w.heap.size w W) (three_boxes w _ _ _ _ _ _) ?_
  rintro W ⟨H1, H2, H3, HB⟩
  have J1 := Lib.hid H1
  have J2 := Lib.hid H2
  have J3 := Lib.hid H3
  have JB := Lib.hid HB
  obtain ⟨a0, a1, a2, a3, a4, a5⟩ := keep6 H1 H2 (Below.refl _ _)
  clear H1 H2 H3 HB
  go_region_held3 (fun w' => w'.cell? ⟨w.heap.size, 0, none⟩ = some (.bool p1) ∧ w'.cell? ⟨w.heap.size, 1, none⟩ = some (.string p2) ∧ w'.cell? ⟨w.heap.size, 2, none⟩ = some (.string p3) ∧ w'.cell? ⟨w.heap.size + 1, 0, none⟩ = some (.bool q1) ∧ w'.cell? ⟨w.heap.size + 1, 1, none⟩ = some (.string q2) ∧ w'.cell? ⟨w.heap.size + 1, 2, none⟩ = some (.string q3))
    (first | exact keep6 (Blk.set3Other (J1.out.drew.on HB7.out) (by omega) _ _ _) (Blk.set3Other (J2.out.drew.on HB7.out) (by omega) _ _ _) (Below.refl _ _) | exact keep6 J1.out.drew J2.out.drew HB7.out | exact keep6 J1.out.drew J2.out.drew HB6.out | exact keep6 J1.out.drew J2.out.drew HB5.out | exact keep6 J1.out.drew J2.out.drew HB4.out | exact keep6 J1.out.drew J2.out.drew HB3.out | exact keep6 J1.out.drew J2.out.drew HB2.out | exact keep6 J1.out.drew J2.out.drew HB1.out | exact ⟨a0, a1, a2, a3, a4, a5⟩ | go_keep)
    (first
      | (go_at_call_of 256 (Value.string p2); refine (HC.out.lp _).mono ?_; rintro e w1 ⟨a1x, l1x, c1x, rfl, u1, u2, c3, c4⟩; have l1 := RetLimbs.lim (w := w) c3 HC.out.hx (by omega); have X1 := Lib.hid c3; have HB1 := Lib.hid c4; clear c3 c4)
      | (go_at_call_of 256 (Value.string q2); refine (HC.out.lq _).mono ?_; rintro e w2 ⟨a2x, l2x, c2x, rfl, u3, u4, c3, c4⟩; have l2 := RetLimbs.lim (w := w) c3 HC.out.hy (by omega); have X2 := Lib.hid (X1.out.below c4 (Nat.le_refl _)); have Y2 := Lib.hid c3; have HB2 := Lib.hid (chain HB1.out c4 (Nat.le_refl _)); clear c3 c4)
      | (go_at_call 255; (with_reducible refine (times_any a1x a2x l1x l2x c1x c2x _ _ _ X2.out Y2.out (by omega) (by omega)).mono ?_); rintro e w3 ⟨a3x, l3x, c3x, rfl, u5, u6, c3, c4⟩; have l3 := RetLimbs.lim (w := w) c3 KXY.out (by omega); have N3 := Lib.hid c3; have HB3 := Lib.hid (chain HB2.out c4 (Nat.le_refl _)); clear c3 c4)
      | (go_at_call_of 254 (Value.agg #[Value.bool p1, Value.string p2, Value.string p3]); refine (HC.out.dp _).mono ?_; rintro e w4 ⟨a4x, l4x, c4x, rfl, u7, u8, c3, c4⟩; have l4 := RetLimbs.lim (w := w) c3 HC.out.hd (by omega); have D4 := Lib.hid c3; have N4 := Lib.hid (N3.out.below c4 (Nat.le_refl _)); have HB4 := Lib.hid (chain HB3.out c4 (Nat.le_refl _)); clear c3 c4)
      | (go_at_call_of 254 (Value.agg #[Value.bool q1, Value.string q2, Value.string q3]); refine (HC.out.dq _).mono ?_; rintro e w5 ⟨a5x, l5x, c5x, rfl, u9, u10, c3, c4⟩; have l5 := RetLimbs.lim (w := w) c3 HC.out.hg (by omega); have G5 := Lib.hid c3; have D5 := Lib.hid (D4.out.below c4 (Nat.le_refl _)); have N5 := Lib.hid (N4.out.below c4 (Nat.le_refl _)); have HB5 := Lib.hid (chain HB4.out c4 (Nat.le_refl _)); clear c3 c4)
      | (go_at_call 255; (with_reducible refine (times_any a4x a5x l4x l5x c4x c5x _ _ _ D5.out G5.out (by omega) (by omega)).mono ?_); rintro e w6 ⟨a6x, l6x, c6x, rfl, u11, u12, c3, c4⟩; have l6 := RetLimbs.lim (w := w) c3 KDG.out (by omega); have M6 := Lib.hid c3; have N6 := Lib.hid (N5.out.below c4 (Nat.le_refl _)); have HB6 := Lib.hid (chain HB5.out c4 (Nat.le_refl _)); clear c3 c4)
      | (go_at_call 257; refine (HC.out.rd _ _ _ _ _ _ _ ⟨u5, u6, by omega, N6.out⟩ ⟨u11, u12, by omega, M6.out⟩).mono ?_; rintro e w7 ⟨rfl, c4⟩; have HB7 := Lib.hid (chain HB6.out c4 (Nat.le_refl _)); clear c4; obtain ⟨z0, z1, z2, z3, z4, z5⟩ := (J3.out.drew.on HB7.out).get3))
  have HB := Lib.hid (chain JB.out.drew HB7.out (Nat.le_refl _))
  have H2 := Lib.hid (J3.out.drew.on HB7.out)
  go_wp2
  refine bodyPost_forget (fun W => Blk W (w.heap.size + 1 + 1) #[.bool r1, .string r2, .string r3] ∧ Below w.heap.size w W) ⟨by exact Blk.set3 H2.out _ _ _, below_set3 HB.out (by omega) _ _ _⟩ ?_
  rintro WR ⟨hr9, hb9⟩
  obtain ⟨y90, y91, y92, -, -, -⟩ := hr9.get3
  exact bodyPost_ret (v := .agg #[.bool r1, .string r2, .string r3]) (by simp [results, Tryz.results342, go_sem, y90, y91, y92]) rfl ⟨rfl, hb9⟩
/-- What Over needs of its callees. -/
structure OvrC (p1 : Bool) (p2 p3 : ByteArray) (q1 : Bool) (q2 q3 : ByteArray) (x y d g k : Nat) (r1 : Bool) (r2 r3 : ByteArray) : Prop where
  lp : ∀ w, Calls Tryz.prog 256 #[.string p2] w (RetLimbs w x)
  lq : ∀ w, Calls Tryz.prog 256 #[.string q2] w (RetLimbs w y)
  dp : ∀ w, Calls Tryz.prog 254 #[.agg #[.bool p1, .string p2, .string p3]] w (RetLimbs w d)
  dq : ∀ w, Calls Tryz.prog 254 #[.agg #[.bool q1, .string q2, .string q3]] w (RetLimbs w g)
  hx : x < 256 ^ k
  hy : y < 256 ^ k
  hd : d < 256 ^ k
  hg : g < 256 ^ k
  rd : ∀ w an ln cn ad ld cd, LimV w an ln cn (x * g) → LimV w ad ld cd (d * y) → Calls Tryz.prog 257 #[.bool (!(p1 == q1)), .slice an ln cn, .slice ad ld cd] w fun e w' => e = .returned (.agg #[.bool r1, .string r2, .string r3]) ∧ Below w.heap.size w w'

theorem ovrC_of (p q : Rat) (k : Nat) (hp : Sm k p) (hq : Sm k q) (hk : k ≤ 268435456) (h0 : q ≠ 0) :
    OvrC (rn p) (rs p) (rd p) (rn q) (rs q) (rd q) (nm p) (nm q) p.den q.den k (rn (p / q)) (rs (p / q)) (rd (p / q)) := by
  refine ⟨fun w => ?_, fun w => ?_, fun w => rden_any p k w hp.2 hk, fun w => rden_any q k w hq.2 hk, hp.1, hq.1, hp.2, hq.2, fun w an ln cn ad ld cd h1 h2 => ?_⟩
  · have := rlimbs_any (rs p) w (by have := hp.rs; omega)
    rw [nm_rs] at this; exact this
  · have := rlimbs_any (rs q) w (by have := hq.rs; omega)
    rw [nm_rs] at this; exact this
  · rw [fr_div h0]
    exact rreduced_any _ an ad ln ld cn cd _ _ (k + k) w h1 h2 (Nat.mul_pos p.den_pos (Nat.pos_of_ne_zero fun e => h0 (nm_zero.mp e))) (pow_mul_lt hp.1 hq.2) (pow_mul_lt hp.2 hq.1) (by omega)

set_option maxRecDepth 100000 in
set_option maxHeartbeats 1600000 in
theorem over_pos (p1 : Bool) (p2 p3 : ByteArray) (q1 : Bool) (q2 q3 : ByteArray) (x y d g k : Nat) (r1 : Bool) (r2 r3 : ByteArray) (hC : OvrC p1 p2 p3 q1 q2 q3 x y d g k r1 r2 r3) (hk : k ≤ 268435456)
    (hp : p2.toList.isEmpty = false) (hp' : ¬ p2.toList = []) (w : World) :
    Calls Tryz.prog 341 #[.agg #[.bool p1, .string p2, .string p3], .agg #[.bool q1, .string q2, .string q3]] w fun e w' => e = .returned (.agg #[.bool r1, .string r2, .string r3]) ∧ Below w.heap.size w w' := by
  have HC := Lib.hid hC
  have kxy := pow_mul_lt hC.hx hC.hg
  have kdg := pow_mul_lt hC.hd hC.hy
  have KXY := Lib.hid kxy
  have KDG := Lib.hid kdg
  clear hC kxy kdg
  go_enter Tryz.func341, Tryz.ntmps341
  go_wp2
  clear hp hp'
  refine wp_forget (fun W => Blk W w.heap.size #[.bool p1, .string p2, .string p3] ∧ Blk W (w.heap.size + 1) #[.bool q1, .string q2, .string q3] ∧ Blk W (w.heap.size + 1 + 1) #[.bool false, .string ⟨#[]⟩, .string ⟨#[]⟩] ∧ Below w.heap.size w W) (three_boxes w _ _ _ _ _ _) ?_
  rintro W ⟨H1, H2, H3, HB⟩
  have J1 := Lib.hid H1
  have J2 := Lib.hid H2
  have J3 := Lib.hid H3
  have JB := Lib.hid HB
  obtain ⟨a0, a1, a2, a3, a4, a5⟩ := keep6 H1 H2 (Below.refl _ _)
  clear H1 H2 H3 HB
  go_region_held3 (fun w' => w'.cell? ⟨w.heap.size, 0, none⟩ = some (.bool p1) ∧ w'.cell? ⟨w.heap.size, 1, none⟩ = some (.string p2) ∧ w'.cell? ⟨w.heap.size, 2, none⟩ = some (.string p3) ∧ w'.cell? ⟨w.heap.size + 1, 0, none⟩ = some (.bool q1) ∧ w'.cell? ⟨w.heap.size + 1, 1, none⟩ = some (.string q2) ∧ w'.cell? ⟨w.heap.size + 1, 2, none⟩ = some (.string q3))
    (first | exact keep6 (Blk.set3Other (J1.out.drew.on HB7.out) (by omega) _ _ _) (Blk.set3Other (J2.out.drew.on HB7.out) (by omega) _ _ _) (Below.refl _ _) | exact keep6 J1.out.drew J2.out.drew HB7.out | exact keep6 J1.out.drew J2.out.drew HB6.out | exact keep6 J1.out.drew J2.out.drew HB5.out | exact keep6 J1.out.drew J2.out.drew HB4.out | exact keep6 J1.out.drew J2.out.drew HB3.out | exact keep6 J1.out.drew J2.out.drew HB2.out | exact keep6 J1.out.drew J2.out.drew HB1.out | exact ⟨a0, a1, a2, a3, a4, a5⟩ | go_keep)
    (first
      | (go_at_call_of 256 (Value.string p2); refine (HC.out.lp _).mono ?_; rintro e w1 ⟨a1x, l1x, c1x, rfl, u1, u2, c3, c4⟩; have l1 := RetLimbs.lim (w := w) c3 HC.out.hx (by omega); have X1 := Lib.hid c3; have HB1 := Lib.hid c4; clear c3 c4)
      | (go_at_call_of 254 (Value.agg #[Value.bool q1, Value.string q2, Value.string q3]); refine (HC.out.dq _).mono ?_; rintro e w2 ⟨a2x, l2x, c2x, rfl, u3, u4, c3, c4⟩; have l2 := RetLimbs.lim (w := w) c3 HC.out.hg (by omega); have X2 := Lib.hid (X1.out.below c4 (Nat.le_refl _)); have Y2 := Lib.hid c3; have HB2 := Lib.hid (chain HB1.out c4 (Nat.le_refl _)); clear c3 c4)
      | (go_at_call 255; (with_reducible refine (times_any a1x a2x l1x l2x c1x c2x _ _ _ X2.out Y2.out (by omega) (by omega)).mono ?_); rintro e w3 ⟨a3x, l3x, c3x, rfl, u5, u6, c3, c4⟩; have l3 := RetLimbs.lim (w := w) c3 KXY.out (by omega); have N3 := Lib.hid c3; have HB3 := Lib.hid (chain HB2.out c4 (Nat.le_refl _)); clear c3 c4)
      | (go_at_call_of 254 (Value.agg #[Value.bool p1, Value.string p2, Value.string p3]); refine (HC.out.dp _).mono ?_; rintro e w4 ⟨a4x, l4x, c4x, rfl, u7, u8, c3, c4⟩; have l4 := RetLimbs.lim (w := w) c3 HC.out.hd (by omega); have D4 := Lib.hid c3; have N4 := Lib.hid (N3.out.below c4 (Nat.le_refl _)); have HB4 := Lib.hid (chain HB3.out c4 (Nat.le_refl _)); clear c3 c4)
      | (go_at_call_of 256 (Value.string q2); refine (HC.out.lq _).mono ?_; rintro e w5 ⟨a5x, l5x, c5x, rfl, u9, u10, c3, c4⟩; have l5 := RetLimbs.lim (w := w) c3 HC.out.hy (by omega); have G5 := Lib.hid c3; have D5 := Lib.hid (D4.out.below c4 (Nat.le_refl _)); have N5 := Lib.hid (N4.out.below c4 (Nat.le_refl _)); have HB5 := Lib.hid (chain HB4.out c4 (Nat.le_refl _)); clear c3 c4)
      | (go_at_call 255; (with_reducible refine (times_any a4x a5x l4x l5x c4x c5x _ _ _ D5.out G5.out (by omega) (by omega)).mono ?_); rintro e w6 ⟨a6x, l6x, c6x, rfl, u11, u12, c3, c4⟩; have l6 := RetLimbs.lim (w := w) c3 KDG.out (by omega); have M6 := Lib.hid c3; have N6 := Lib.hid (N5.out.below c4 (Nat.le_refl _)); have HB6 := Lib.hid (chain HB5.out c4 (Nat.le_refl _)); clear c3 c4)
      | (go_at_call 257; refine (HC.out.rd _ _ _ _ _ _ _ ⟨u5, u6, by omega, N6.out⟩ ⟨u11, u12, by omega, M6.out⟩).mono ?_; rintro e w7 ⟨rfl, c4⟩; have HB7 := Lib.hid (chain HB6.out c4 (Nat.le_refl _)); clear c4; obtain ⟨z0, z1, z2, z3, z4, z5⟩ := (J3.out.drew.on HB7.out).get3))
  have HB := Lib.hid (chain JB.out.drew HB7.out (Nat.le_refl _))
  have H2 := Lib.hid (J3.out.drew.on HB7.out)
  go_wp2
  refine bodyPost_forget (fun W => Blk W (w.heap.size + 1 + 1) #[.bool r1, .string r2, .string r3] ∧ Below w.heap.size w W) ⟨by exact Blk.set3 H2.out _ _ _, below_set3 HB.out (by omega) _ _ _⟩ ?_
  rintro WR ⟨hr9, hb9⟩
  obtain ⟨y90, y91, y92, -, -, -⟩ := hr9.get3
  exact bodyPost_ret (v := .agg #[.bool r1, .string r2, .string r3]) (by simp [results, Tryz.results341, go_sem, y90, y91, y92]) rfl ⟨rfl, hb9⟩

/-- A number of at most k bytes in each part, on which the reference's functions are called. -/
theorem rs_ne {q : Rat} (h : q ≠ 0) : (rs q).toList.isEmpty = false ∧ ¬ (rs q).toList = [] := bn_ne (Nat.pos_of_ne_zero fun e => h (nm_zero.mp e))

set_option maxRecDepth 100000 in
set_option maxHeartbeats 400000 in
theorem times_zero (p1 : Bool) (p2 p3 : ByteArray) (q1 : Bool) (q3 : ByteArray) (w : World) :
    Calls Tryz.prog 342 #[.agg #[.bool p1, .string p2, .string p3], .agg #[.bool q1, .string ⟨#[]⟩, .string q3]] w fun e w' => e = .returned (rv 0) ∧ Below w.heap.size w w' := by
  by_cases h : p2.size = 0
  · obtain rfl := toList_of_empty h
    clear h
    go_enter Tryz.func342, Tryz.ntmps342
    go_wp2
    exact bodyPost_ret (v := rv 0) (by simp [results, Tryz.results342, go_sem, rv, rn_zero, rs_zero, rd_zero]) rfl ⟨rfl, (three_boxes w _ _ _ _ _ _).2.2.2⟩
  · obtain ⟨h1, h2⟩ := toList_of_pos h
    clear h
    go_enter Tryz.func342, Tryz.ntmps342
    go_wp2
    exact bodyPost_ret (v := rv 0) (by simp [results, Tryz.results342, go_sem, rv, rn_zero, rs_zero, rd_zero]) rfl ⟨rfl, (three_boxes w _ _ _ _ _ _).2.2.2⟩

set_option maxRecDepth 100000 in
set_option maxHeartbeats 400000 in
theorem times_zero' (p1 : Bool) (p3 : ByteArray) (q : Value) (q1 : Bool) (q2 q3 : ByteArray) (w : World) :
    Calls Tryz.prog 342 #[.agg #[.bool p1, .string ⟨#[]⟩, .string p3], .agg #[.bool q1, .string q2, .string q3]] w fun e w' => e = .returned (rv 0) ∧ Below w.heap.size w w' := by
  go_enter Tryz.func342, Tryz.ntmps342
  go_wp2
  exact bodyPost_ret (v := rv 0) (by simp [results, Tryz.results342, go_sem, rv, rn_zero, rs_zero, rd_zero]) rfl ⟨rfl, (three_boxes w _ _ _ _ _ _).2.2.2⟩

set_option maxRecDepth 100000 in
set_option maxHeartbeats 400000 in
theorem over_zero (p1 : Bool) (p3 : ByteArray) (q1 : Bool) (q2 q3 : ByteArray) (w : World) :
    Calls Tryz.prog 341 #[.agg #[.bool p1, .string ⟨#[]⟩, .string p3], .agg #[.bool q1, .string q2, .string q3]] w fun e w' => e = .returned (rv 0) ∧ Below w.heap.size w w' := by
  go_enter Tryz.func341, Tryz.ntmps341
  go_wp2
  exact bodyPost_ret (v := rv 0) (by simp [results, Tryz.results341, go_sem, rv, rn_zero, rs_zero, rd_zero]) rfl ⟨rfl, (three_boxes w _ _ _ _ _ _).2.2.2⟩

theorem rtimes_any (p q : Rat) (k : Nat) (w : World) (hp : Sm k p) (hq : Sm k q) (hk : k ≤ 268435456) :
    Calls Tryz.prog 342 #[.agg #[.bool (rn p), .string (rs p), .string (rd p)], .agg #[.bool (rn q), .string (rs q), .string (rd q)]] w fun e w' => e = .returned (.agg #[.bool (rn (p * q)), .string (rs (p * q)), .string (rd (p * q))]) ∧ Below w.heap.size w w' := by
  by_cases h1 : p = 0
  · subst h1; rw [Rat.zero_mul]; exact times_zero' _ _ (rv q) _ _ _ w
  · by_cases h2 : q = 0
    · subst h2; rw [Rat.mul_zero]; exact times_zero _ _ _ _ _ w
    · exact times_pos _ _ _ _ _ _ _ _ _ _ _ _ _ _ (timC_of p q k hp hq hk) hk (rs_ne h1).1 (rs_ne h1).2 (rs_ne h2).1 (rs_ne h2).2 w

theorem rover_any (p q : Rat) (k : Nat) (w : World) (hp : Sm k p) (hq : Sm k q) (hk : k ≤ 268435456) (h0 : q ≠ 0) :
    Calls Tryz.prog 341 #[.agg #[.bool (rn p), .string (rs p), .string (rd p)], .agg #[.bool (rn q), .string (rs q), .string (rd q)]] w fun e w' => e = .returned (.agg #[.bool (rn (p / q)), .string (rs (p / q)), .string (rd (p / q))]) ∧ Below w.heap.size w w' := by
  by_cases h1 : p = 0
  · subst h1
    have e : (0 : Rat) / q = 0 := by rw [Rat.div_def, Rat.zero_mul]
    rw [e]; exact over_zero _ _ _ _ _ w
  · exact over_pos _ _ _ _ _ _ _ _ _ _ _ _ _ _ (ovrC_of p q k hp hq hk h0) hk (rs_ne h1).1 (rs_ne h1).2 w
end Go.Proofs.Ins

set_option linter.unusedSimpArgs false
set_option linter.unusedVariables false
namespace Go.Proofs.Ins
open Go.RowKit

/-- What Plus needs of its callees. -/
structure PluC (p1 : Bool) (p2 p3 : ByteArray) (q1 : Bool) (q2 q3 : ByteArray) (x y d g k : Nat) (r1 : Bool) (r2 r3 : ByteArray) : Prop where
  lp : ∀ w, Calls Tryz.prog 256 #[.string p2] w (RetLimbs w x)
  lq : ∀ w, Calls Tryz.prog 256 #[.string q2] w (RetLimbs w y)
  dp : ∀ w, Calls Tryz.prog 254 #[.agg #[.bool p1, .string p2, .string p3]] w (RetLimbs w d)
  dq : ∀ w, Calls Tryz.prog 254 #[.agg #[.bool q1, .string q2, .string q3]] w (RetLimbs w g)
  hx : x < 256 ^ k
  hy : y < 256 ^ k
  hd : d < 256 ^ k
  hg : g < 256 ^ k
  same : p1 = q1 → ∀ w an ln cn ad ld cd, LimV w an ln cn (x * g + y * d) → LimV w ad ld cd (d * g) → Calls Tryz.prog 257 #[.bool p1, .slice an ln cn, .slice ad ld cd] w fun e w' => e = .returned (.agg #[.bool r1, .string r2, .string r3]) ∧ Below w.heap.size w w'
  less : p1 ≠ q1 → x * g < y * d → ∀ w an ln cn ad ld cd, LimV w an ln cn (y * d - x * g) → LimV w ad ld cd (d * g) → Calls Tryz.prog 257 #[.bool q1, .slice an ln cn, .slice ad ld cd] w fun e w' => e = .returned (.agg #[.bool r1, .string r2, .string r3]) ∧ Below w.heap.size w w'
  more : p1 ≠ q1 → y * d ≤ x * g → ∀ w an ln cn ad ld cd, LimV w an ln cn (x * g - y * d) → LimV w ad ld cd (d * g) → Calls Tryz.prog 257 #[.bool p1, .slice an ln cn, .slice ad ld cd] w fun e w' => e = .returned (.agg #[.bool r1, .string r2, .string r3]) ∧ Below w.heap.size w w'

theorem pluC_of (p q : Rat) (k : Nat) (hp : Sm k p) (hq : Sm k q) (hk : k ≤ 268435456) :
    PluC (rn p) (rs p) (rd p) (rn q) (rs q) (rd q) (nm p) (nm q) p.den q.den k (rn (p + q)) (rs (p + q)) (rd (p + q)) := by
  have hdg : 0 < p.den * q.den := Nat.mul_pos p.den_pos q.den_pos
  have kxg := pow_mul_lt hp.1 hq.2
  have kyd := pow_mul_lt hq.1 hp.2
  have kdg := pow_mul_lt hp.2 hq.2
  have e1 : (256 : Nat) ^ (k + k + 1) = 256 * 256 ^ (k + k) := by rw [Nat.pow_succ, Nat.mul_comm]
  refine ⟨fun w => ?_, fun w => ?_, fun w => rden_any p k w hp.2 hk, fun w => rden_any q k w hq.2 hk, hp.1, hq.1, hp.2, hq.2, fun he w an ln cn ad ld cd h1 h2 => ?_, fun he hl w an ln cn ad ld cd h1 h2 => ?_, fun he hl w an ln cn ad ld cd h1 h2 => ?_⟩
  · have := rlimbs_any (rs p) w (by have := hp.rs; omega)
    rw [nm_rs] at this; exact this
  · have := rlimbs_any (rs q) w (by have := hq.rs; omega)
    rw [nm_rs] at this; exact this
  · rw [show p + q = fr (rn p) (nm p * q.den + nm q * p.den) (p.den * q.den) by rw [fr_add, ← he, sgn_add_same]; rfl]
    exact rreduced_any _ an ad ln ld cn cd _ _ (k + k + 1) w h1 h2 hdg (by omega) (by omega) (by omega)
  · rw [show p + q = fr (rn q) (nm q * p.den - nm p * q.den) (p.den * q.den) by rw [fr_add, Int.add_comm, sgn_add_diff (Ne.symm he) (by omega)]; rfl]
    exact rreduced_any _ an ad ln ld cn cd _ _ (k + k + 1) w h1 h2 hdg (by omega) (by omega) (by omega)
  · rw [show p + q = fr (rn p) (nm p * q.den - nm q * p.den) (p.den * q.den) by rw [fr_add, sgn_add_diff he hl]; rfl]
    exact rreduced_any _ an ad ln ld cn cd _ _ (k + k + 1) w h1 h2 hdg (by omega) (by omega) (by omega)

/-- The two signs, in a later world. -/
theorem keep2 {W W' : World} {b1 b2 : Nat} {x1 x2 x3 y1 y2 y3 : Value} (h1 : Blk W b1 #[x1, x2, x3]) (h2 : Blk W b2 #[y1, y2, y3]) (hb : Below W.heap.size W W') :
    W'.cell? ⟨b1, 0, none⟩ = some x1 ∧ W'.cell? ⟨b2, 0, none⟩ = some y1 := ⟨(h1.on hb).cell 0, (h2.on hb).cell 0⟩

set_option maxRecDepth 100000 in
set_option maxHeartbeats 1600000 in
theorem plus_pos (p1 : Bool) (p2 p3 : ByteArray) (q1 : Bool) (q2 q3 : ByteArray) (x y d g k : Nat) (r1 : Bool) (r2 r3 : ByteArray) (hC : PluC p1 p2 p3 q1 q2 q3 x y d g k r1 r2 r3) (hk : k ≤ 268435456)
    (hp : p2.toList.isEmpty = false) (hp' : ¬ p2.toList = []) (hq : q2.toList.isEmpty = false) (hq' : ¬ q2.toList = []) (w : World) :
    Calls Tryz.prog 182 #[.agg #[.bool p1, .string p2, .string p3], .agg #[.bool q1, .string q2, .string q3]] w fun e w' => e = .returned (.agg #[.bool r1, .string r2, .string r3]) ∧ Below w.heap.size w w' := by
  have HC := Lib.hid hC
  have kxg := pow_mul_lt hC.hx hC.hg
  have kyd := pow_mul_lt hC.hy hC.hd
  have kdg := pow_mul_lt hC.hd hC.hg
  have e1 : (256 : Nat) ^ (k + k + 1) = 256 * 256 ^ (k + k) := by rw [Nat.pow_succ, Nat.mul_comm]
  have KXG := Lib.hid kxg
  have KYD := Lib.hid kyd
  have KDG := Lib.hid kdg
  have KSUM : Hid (x * g + y * d < 256 ^ (k + k + 1)) := by show _ < _; omega
  have KL : Hid (y * d - x * g < 256 ^ (k + k + 1)) := by show _ < _; omega
  have KM : Hid (x * g - y * d < 256 ^ (k + k + 1)) := by show _ < _; omega
  clear hC kxg kyd kdg e1
  go_enter Tryz.func182, Tryz.ntmps182
  go_wp2_with fail
  refine (HC.out.dp _).mono ?_; rintro e w1 ⟨a1x, l1x, c1x, rfl, u1, u2, c3, c4⟩
  have l1 := RetLimbs.lim (w := w) c3 HC.out.hd (by omega)
  have D1 := Lib.hid c3
  obtain ⟨H1, H2, H3, HB⟩ := boxes3 c4
  have J1 := Lib.hid H1
  have J2 := Lib.hid H2
  have J3 := Lib.hid H3
  have JB := Lib.hid HB
  obtain ⟨a0, a1, a2, a3, a4, a5⟩ := keep6 H1 H2 (Below.refl _ _)
  clear H1 H2 H3 HB c3 c4 hp hp' hq hq'
  go_wp2_with fail
  refine (HC.out.dq _).mono ?_; rintro e w2 ⟨a2x, l2x, c2x, rfl, u3, u4, c3, c4⟩
  have l2 := RetLimbs.lim (w := w) c3 HC.out.hg (by omega)
  have G2 := Lib.hid c3
  have D2 := Lib.hid (D1.out.below c4 (Nat.le_refl _))
  have HB2 := Lib.hid c4
  clear c3 c4 a0 a1 a2 a3 a4 a5
  obtain ⟨a0, a1, a2, a3, a4, a5⟩ := keep6 J1.out J2.out HB2.out
  go_wp2_with fail
  refine (HC.out.lp _).mono ?_; rintro e w3 ⟨a3x, l3x, c3x, rfl, u5, u6, c3, c4⟩
  have l3 := RetLimbs.lim (w := w) c3 HC.out.hx (by omega)
  have X3 := Lib.hid c3
  have G3 := Lib.hid (G2.out.below c4 (Nat.le_refl _))
  have D3 := Lib.hid (D2.out.below c4 (Nat.le_refl _))
  have HB3 := Lib.hid (chain HB2.out c4 (Nat.le_refl _))
  clear c3 c4 a0 a1 a2 a3 a4 a5 D1 D2 G2 HB2
  go_wp2_with fail
  refine (times_any _ _ _ _ _ _ _ _ _ X3.out G3.out (by omega) (by omega)).mono ?_; rintro e w4 ⟨a4x, l4x, c4x, rfl, u7, u8, c3, c4⟩
  have l4 := RetLimbs.lim (w := w) c3 KXG.out (by omega)
  have N4 := Lib.hid c3
  have G4 := Lib.hid (G3.out.below c4 (Nat.le_refl _))
  have D4 := Lib.hid (D3.out.below c4 (Nat.le_refl _))
  have HB4 := Lib.hid (chain HB3.out c4 (Nat.le_refl _))
  clear c3 c4 D3 G3 X3 HB3
  obtain ⟨a0, a1, a2, a3, a4, a5⟩ := keep6 J1.out J2.out HB4.out
  go_wp2_with fail
  refine (HC.out.lq _).mono ?_; rintro e w5 ⟨a5x, l5x, c5x, rfl, u9, u10, c3, c4⟩
  have l5 := RetLimbs.lim (w := w) c3 HC.out.hy (by omega)
  have Y5 := Lib.hid c3
  have N5 := Lib.hid (N4.out.below c4 (Nat.le_refl _))
  have G5 := Lib.hid (G4.out.below c4 (Nat.le_refl _))
  have D5 := Lib.hid (D4.out.below c4 (Nat.le_refl _))
  have HB5 := Lib.hid (chain HB4.out c4 (Nat.le_refl _))
  clear c3 c4 a0 a1 a2 a3 a4 a5 D4 G4 N4 HB4
  go_wp2_with fail
  refine (times_any _ _ _ _ _ _ _ _ _ Y5.out D5.out (by omega) (by omega)).mono ?_; rintro e w6 ⟨a6x, l6x, c6x, rfl, u11, u12, c3, c4⟩
  have l6 := RetLimbs.lim (w := w) c3 KYD.out (by omega)
  have M6 := Lib.hid c3
  have N6 := Lib.hid (N5.out.below c4 (Nat.le_refl _))
  have G6 := Lib.hid (G5.out.below c4 (Nat.le_refl _))
  have D6 := Lib.hid (D5.out.below c4 (Nat.le_refl _))
  have HB6 := Lib.hid (chain HB5.out c4 (Nat.le_refl _))
  clear c3 c4 D5 G5 N5 Y5 HB5
  go_wp2_with fail
  refine (times_any _ _ _ _ _ _ _ _ _ D6.out G6.out (by omega) (by omega)).mono ?_; rintro e w7 ⟨a7x, l7x, c7x, rfl, u13, u14, c3, c4⟩
  have l7 := RetLimbs.lim (w := w) c3 KDG.out (by omega)
  have Q7 := Lib.hid c3
  have M7 := Lib.hid (M6.out.below c4 (Nat.le_refl _))
  have N7 := Lib.hid (N6.out.below c4 (Nat.le_refl _))
  have HB7 := Lib.hid (chain HB6.out c4 (Nat.le_refl _))
  clear c3 c4 D6 G6 N6 M6 HB6
  obtain ⟨a0, a1⟩ := keep2 J1.out J2.out HB7.out
  by_cases he : p1 = q1
  · as_aux_lemma =>
    have HS := Lib.hid (HC.out.same he)
    have RL := Lib.hid (fun w (h1 : Limbs w a4x l4x (x * g)) (h2 : Limbs w a6x l6x (y * d)) => plus_any a4x a6x l4x l6x c4x c6x (x * g) (y * d) w h1 h2 (by omega) (by omega))
    subst he
    go_wp2_with fail
    go_region_held3 (fun w' => w'.cell? ⟨w.heap.size, 0, none⟩ = some (.bool p1) ∧ w'.cell? ⟨w.heap.size + 1, 0, none⟩ = some (.bool p1))
      (first | exact keep2 (Blk.set3Other (J1.out.on (chain HB7.out.drew HB9.out (Nat.le_refl _))) (by omega) _ _ _) (Blk.set3Other (J2.out.on (chain HB7.out.drew HB9.out (Nat.le_refl _))) (by omega) _ _ _) (Below.refl _ _) | exact keep2 J1.out J2.out (chain HB7.out.drew HB9.out (Nat.le_refl _)) | exact keep2 J1.out J2.out (chain HB7.out.drew HB8.out (Nat.le_refl _)) | exact ⟨a0, a1⟩ | go_keep)
      (first
        | (go_at_call 258; refine (RL.out _ (N7.out.below (Below.refl _ _).drew (Nat.le_refl _)) (M7.out.below (Below.refl _ _).drew (Nat.le_refl _))).mono ?_; rintro e w8 ⟨a8x, l8x, c8x, rfl, u15, u16, c3, c4⟩; have l8 := RetLimbs.lim (w := w) c3 KSUM.out (by omega); have S8 := Lib.hid c3; have Q8 := Lib.hid ((Q7.out.below (Below.refl _ _).drew (Nat.le_refl _)).below c4 (Nat.le_refl _)); have HB8 := Lib.hid c4; clear c3 c4)
        | (go_at_call 257; refine (HS.out _ _ _ _ _ _ _ ⟨u15, u16, by omega, S8.out⟩ ⟨u13, u14, by omega, Q8.out⟩).mono ?_; rintro e w9 ⟨rfl, c4⟩; have HB9 := Lib.hid (chain HB8.out c4 (Nat.le_refl _)); clear c4; obtain ⟨z0, z1, z2, z3, z4, z5⟩ := (J3.out.on (chain HB7.out.drew HB9.out (Nat.le_refl _))).get3))
    have HB := Lib.hid (chain JB.out (chain HB7.out.drew HB9.out (Nat.le_refl _)) (Nat.le_refl _))
    have H2 := Lib.hid (J3.out.on (chain HB7.out.drew HB9.out (Nat.le_refl _)))
    go_wp2
    refine bodyPost_forget (fun W => Blk W (w.heap.size + 1 + 1) #[.bool r1, .string r2, .string r3] ∧ Below w.heap.size w W) ⟨by exact Blk.set3 H2.out _ _ _, below_set3 HB.out (by omega) _ _ _⟩ ?_
    rintro WR ⟨hr9, hb9⟩
    obtain ⟨y90, y91, y92, -, -, -⟩ := hr9.get3
    exact bodyPost_ret (v := .agg #[.bool r1, .string r2, .string r3]) (by simp [results, Tryz.results182, go_sem, y90, y91, y92]) rfl ⟨rfl, hb9⟩
  · as_aux_lemma =>
    have he2 : (p1 == q1) = false := by simp [he]
    go_wp2_with fail
    refine (order_any _ _ _ _ _ _ _ _ _ N7.out M7.out (by omega) (by omega)).mono ?_; rintro e w10 ⟨rfl, c4⟩
    have N10 := Lib.hid (N7.out.below c4 (Nat.le_refl _))
    have M10 := Lib.hid (M7.out.below c4 (Nat.le_refl _))
    have Q10 := Lib.hid (Q7.out.below c4 (Nat.le_refl _))
    have HB10 := Lib.hid (chain HB7.out c4 (Nat.le_refl _))
    clear c4 N7 M7 Q7 HB7 a0 a1
    obtain ⟨a0, a1⟩ := keep2 J1.out J2.out HB10.out
    by_cases hl : x * g < y * d
    · as_aux_lemma =>
      have HS := Lib.hid (HC.out.less he hl)
      have RL := Lib.hid (fun w (h1 : Limbs w a6x l6x (y * d)) (h2 : Limbs w a4x l4x (x * g)) => minus_any a6x a4x l6x l4x c6x c4x (y * d) (x * g) w h1 h2 (by omega) (by omega))
      have hcm : decide (cmpN (x * g) (y * d) < 0) = true := by rw [cmpN_lt hl]; rfl
      clear hl he
      go_wp2_with fail
      go_region_held3 (fun w' => w'.cell? ⟨w.heap.size, 0, none⟩ = some (.bool p1) ∧ w'.cell? ⟨w.heap.size + 1, 0, none⟩ = some (.bool q1))
        (first | exact keep2 (Blk.set3Other (J1.out.on (chain HB10.out.drew HB9.out (Nat.le_refl _))) (by omega) _ _ _) (Blk.set3Other (J2.out.on (chain HB10.out.drew HB9.out (Nat.le_refl _))) (by omega) _ _ _) (Below.refl _ _) | exact keep2 J1.out J2.out (chain HB10.out.drew HB9.out (Nat.le_refl _)) | exact keep2 J1.out J2.out (chain HB10.out.drew HB8.out (Nat.le_refl _)) | exact ⟨a0, a1⟩ | go_keep)
        (first
          | (go_at_call 260; refine (RL.out _ (M10.out.below (Below.refl _ _).drew (Nat.le_refl _)) (N10.out.below (Below.refl _ _).drew (Nat.le_refl _))).mono ?_; rintro e w8 ⟨a8x, l8x, c8x, rfl, u15, u16, c3, c4⟩; have l8 := RetLimbs.lim (w := w) c3 KL.out (by omega); have S8 := Lib.hid c3; have Q8 := Lib.hid ((Q10.out.below (Below.refl _ _).drew (Nat.le_refl _)).below c4 (Nat.le_refl _)); have HB8 := Lib.hid c4; clear c3 c4)
          | (go_at_call 257; refine (HS.out _ _ _ _ _ _ _ ⟨u15, u16, by omega, S8.out⟩ ⟨u13, u14, by omega, Q8.out⟩).mono ?_; rintro e w9 ⟨rfl, c4⟩; have HB9 := Lib.hid (chain HB8.out c4 (Nat.le_refl _)); clear c4; obtain ⟨z0, z1, z2, z3, z4, z5⟩ := (J3.out.on (chain HB10.out.drew HB9.out (Nat.le_refl _))).get3))
      have HB := Lib.hid (chain JB.out (chain HB10.out.drew HB9.out (Nat.le_refl _)) (Nat.le_refl _))
      have H2 := Lib.hid (J3.out.on (chain HB10.out.drew HB9.out (Nat.le_refl _)))
      go_wp2
      refine bodyPost_forget (fun W => Blk W (w.heap.size + 1 + 1) #[.bool r1, .string r2, .string r3] ∧ Below w.heap.size w W) ⟨by exact Blk.set3 H2.out _ _ _, below_set3 HB.out (by omega) _ _ _⟩ ?_
      rintro WR ⟨hr9, hb9⟩
      obtain ⟨y90, y91, y92, -, -, -⟩ := hr9.get3
      exact bodyPost_ret (v := .agg #[.bool r1, .string r2, .string r3]) (by simp [results, Tryz.results182, go_sem, y90, y91, y92]) rfl ⟨rfl, hb9⟩
    · as_aux_lemma =>
      have HS := Lib.hid (HC.out.more he (by omega))
      have RL := Lib.hid (fun w (h1 : Limbs w a4x l4x (x * g)) (h2 : Limbs w a6x l6x (y * d)) => minus_any a4x a6x l4x l6x c4x c6x (x * g) (y * d) w h1 h2 (by omega) (by omega))
      have hcm : decide (cmpN (x * g) (y * d) < 0) = false := by unfold cmpN; rw [if_neg hl]; split <;> rfl
      clear hl he
      go_wp2_with fail
      go_region_held3 (fun w' => w'.cell? ⟨w.heap.size, 0, none⟩ = some (.bool p1) ∧ w'.cell? ⟨w.heap.size + 1, 0, none⟩ = some (.bool q1))
        (first | exact keep2 (Blk.set3Other (J1.out.on (chain HB10.out.drew HB9.out (Nat.le_refl _))) (by omega) _ _ _) (Blk.set3Other (J2.out.on (chain HB10.out.drew HB9.out (Nat.le_refl _))) (by omega) _ _ _) (Below.refl _ _) | exact keep2 J1.out J2.out (chain HB10.out.drew HB9.out (Nat.le_refl _)) | exact keep2 J1.out J2.out (chain HB10.out.drew HB8.out (Nat.le_refl _)) | exact ⟨a0, a1⟩ | go_keep)
        (first
          | (go_at_call 260; refine (RL.out _ (N10.out.below (Below.refl _ _).drew (Nat.le_refl _)) (M10.out.below (Below.refl _ _).drew (Nat.le_refl _))).mono ?_; rintro e w8 ⟨a8x, l8x, c8x, rfl, u15, u16, c3, c4⟩; have l8 := RetLimbs.lim (w := w) c3 KM.out (by omega); have S8 := Lib.hid c3; have Q8 := Lib.hid ((Q10.out.below (Below.refl _ _).drew (Nat.le_refl _)).below c4 (Nat.le_refl _)); have HB8 := Lib.hid c4; clear c3 c4)
          | (go_at_call 257; refine (HS.out _ _ _ _ _ _ _ ⟨u15, u16, by omega, S8.out⟩ ⟨u13, u14, by omega, Q8.out⟩).mono ?_; rintro e w9 ⟨rfl, c4⟩; have HB9 := Lib.hid (chain HB8.out c4 (Nat.le_refl _)); clear c4; obtain ⟨z0, z1, z2, z3, z4, z5⟩ := (J3.out.on (chain HB10.out.drew HB9.out (Nat.le_refl _))).get3))
      have HB := Lib.hid (chain JB.out (chain HB10.out.drew HB9.out (Nat.le_refl _)) (Nat.le_refl _))
      have H2 := Lib.hid (J3.out.on (chain HB10.out.drew HB9.out (Nat.le_refl _)))
      go_wp2
      refine bodyPost_forget (fun W => Blk W (w.heap.size + 1 + 1) #[.bool r1, .string r2, .string r3] ∧ Below w.heap.size w W) ⟨by exact Blk.set3 H2.out _ _ _, below_set3 HB.out (by omega) _ _ _⟩ ?_
      rintro WR ⟨hr9, hb9⟩
      obtain ⟨y90, y91, y92, -, -, -⟩ := hr9.get3
      exact bodyPost_ret (v := .agg #[.bool r1, .string r2, .string r3]) (by simp [results, Tryz.results182, go_sem, y90, y91, y92]) rfl ⟨rfl, hb9⟩
end Go.Proofs.Ins
