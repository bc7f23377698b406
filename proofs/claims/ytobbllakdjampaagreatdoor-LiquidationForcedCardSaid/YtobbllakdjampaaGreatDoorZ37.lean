/- The walk of insolvencylaw31.LiquidationForced. Printed by lf1gen.py. -/
import Derived.Test.YtobbllakdjampaaGreatDoorZ1
import Derived.Test.YtobbllakdjampaaGreatDoorZ33
import Derived.Test.YtobbllakdjampaaGreatDoorZ36
import Derived.Test.YtobbllakdjampaaGreatDoorZ28
import Derived.Test.YtobbllakdjampaaGreatDoorZ16

set_option linter.unusedSimpArgs false
set_option linter.unusedVariables false
namespace Go.Proofs.Ins
open Go.RowKit

/-- A block that holds a group. -/
def FBox (w : World) (z : Nat) (g : Grp) (ev dv : Value) : Prop := Blk w z #[ev, dv] ∧ ∃ p, REsts w p ev g.e ∧ RDbts w p dv g.d
theorem FBox.on {w w' : World} {z : Nat} {g : Grp} {ev dv : Value} (h : FBox w z g ev dv) (hb : Below w.heap.size w w') : FBox w' z g ev dv := by
  obtain ⟨h1, p, h2, h3⟩ := h
  exact ⟨h1.on hb, p, h2.on hb, h3.on hb⟩
theorem FBox.made {w : World} {g : Grp} {ev dv : Value} {p : Nat → Prop} (h2 : REsts w p ev g.e) (h3 : RDbts w p dv g.d) (T : TypeId) : FBox (w.alloc (.cells #[ev, dv] T)) w.heap.size g ev dv :=
  ⟨Blk.new w _ T, p, h2.on ((Below.refl _ _).alloc (Nat.le_refl _) _), h3.on ((Below.refl _ _).alloc (Nat.le_refl _) _)⟩
theorem FBox.set {w : World} {B z : Nat} {g : Grp} {ev dv x y : Value} (hz : Blk w z #[x, y]) (hB : z < B) (h2 : REsts w (Fr B w) ev g.e) (h3 : RDbts w (Fr B w) dv g.d) : FBox ((w.setCell ⟨z, 0, none⟩ ev).setCell ⟨z, 1, none⟩ dv) z g ev dv := by
  refine ⟨by exact (hz.set 0 ev).set 1 dv, Fr B w, h2.keep ⟨fun b hb hl => ?_⟩ fun b hb => hb, h3.keep ⟨fun b hb hl => ?_⟩ fun b hb => hb⟩
  · have := hb.1
    rw [heap_setCell_other _ _ _ _ (by simp; omega), heap_setCell_other _ _ _ _ (by simp; omega)]
  · have := hb.1
    rw [heap_setCell_other _ _ _ _ (by simp; omega), heap_setCell_other _ _ _ _ (by simp; omega)]
theorem FBox.cells {w : World} {z : Nat} {g : Grp} {ev dv : Value} (h : FBox w z g ev dv) : w.cell? ⟨z, 0, none⟩ = some ev ∧ w.cell? ⟨z, 1, none⟩ = some dv ∧ z < w.heap.size := ⟨h.1.cell 0, h.1.cell 1, h.1.lt⟩
theorem FBox.rgrp {w : World} {z : Nat} {g : Grp} {ev dv : Value} (h : FBox w z g ev dv) : ∃ p, RGrp w p (.agg #[ev, dv]) g := by
  obtain ⟨-, p, h2, h3⟩ := h
  exact ⟨p, ev, dv, rfl, h2, h3⟩
theorem LimG.frc (g : Grp) (f : Rat) : LimG (frcG g f) := by
  unfold frcG
  split
  · rename_i h; exact (limG_of h.1).fr f
  · exact LimG.empty
theorem slices_of {w : World} {p : Nat → Prop} {g : Grp} {ev dv : Value} (h2 : REsts w p ev g.e) (h3 : RDbts w p dv g.d) : ∃ a1 n1 c1 a2 n2 c2, ev = .slice a1 n1 c1 ∧ dv = .slice a2 n2 c2 := by
  obtain ⟨G, hS, -⟩ := h2
  obtain ⟨x, y, h, -, -⟩ := hS.form
  obtain ⟨G', hS', -⟩ := h3
  obtain ⟨x', y', h', -, -⟩ := hS'.form
  exact ⟨x, _, y, x', _, y', h, h'⟩
/-- What Forced hands back: the two slices of a group. -/
theorem RetF.get {w w' : World} {g : Grp} {e : Int} {x : Ending} (h : RetF w g e x w') : ∃ a1 n1 c1 a2 n2 c2, x = .returned (.tuple #[.agg #[.slice a1 n1 c1, .slice a2 n2 c2], .int .i64 e]) ∧
    REsts w' (Fr w.heap.size w') (.slice a1 n1 c1) g.e ∧ RDbts w' (Fr w.heap.size w') (.slice a2 n2 c2) g.d ∧ Below w.heap.size w w' := by
  obtain ⟨ev, dv, h1, h2, h3, h4⟩ := h
  obtain ⟨a1, n1, c1, a2, n2, c2, rfl, rfl⟩ := slices_of h2 h3
  exact ⟨a1, n1, c1, a2, n2, c2, h1, h2, h3, h4⟩

set_option maxRecDepth 100000 in
set_option maxHeartbeats 32000000 in
theorem law_forced (n : Nat) (a1 : Option Addr) (n1 c1 : Nat) (a2 : Option Addr) (n2 c2 : Nat) (a3 : Option Addr) (n3 c3 : Nat) (a4 : Option Addr) (n4 c4 : Nat) (t : Nat) (r : R3) (L1 : Nat → Nat) (L2 L3 L4 : Nat → Nat → Nat) (w : World)
    (h1 : SArg w a1 n1 1 (c16 L1)) (h2 : SArg w a2 n2 4 (u16c L2)) (h3 : SArg w a3 n3 3 (u3c L3)) (h4 : SArg w a4 n4 3 (u3c L4))
    (hn : n ≤ 255) (b1 : ∀ i, i < n1 → L1 i ≤ 65535) (b2 : ∀ i j, i < n2 → L2 i j ≤ 65535) (b3 : ∀ i j, i < n3 → L3 i j ≤ 65535) (b4 : ∀ i j, i < n4 → L4 i j ≤ 65535) (ht : t ≤ 255) (fr : r.fits 140737488351232)
    (l1 : n1 ≤ 140737488351232) (l2 : n2 ≤ 140737488351232) (l3 : n3 ≤ 140737488351232) (l4 : n4 ≤ 140737488351232) :
    Calls Tryz.prog 7 #[.int .u8 (n : Int), .slice a1 n1 c1, .slice a2 n2 c2, .slice a3 n3 c3, .slice a4 n4 c4, .int .u8 (t : Int), .agg #[.bool r.n, .string r.s, .string r.d]] w fun e w' => e = .returned (.bool true) ∧ Below w.heap.size w w' := by
  have HW := Lib.hid awake_any
  have HFR := Lib.hid (fun w => few_r3 r w fr)
  have HH := Lib.hid (⟨h1, h2, h3, h4⟩ : SArg w a1 n1 1 (c16 L1) ∧ SArg w a2 n2 4 (u16c L2) ∧ SArg w a3 n3 3 (u3c L3) ∧ SArg w a4 n4 3 (u3c L4))
  have HG := Lib.hid (fun w' (h : Below w.heap.size w w') => group_any n a1 n1 c1 a2 n2 c2 a3 n3 c3 a4 n4 c4 L1 L2 L3 L4 w' (h1.on h) (h2.on h) (h3.on h) (h4.on h) b1 b2 b3 b4 l1 l2 l3 l4 hn)
  by_cases hs : smallB r = true
  · have hr : r.fits 24 := of_decide_eq_true (p := r.s.size ≤ 24 ∧ r.d.size ≤ 24) hs
    rw [hs] at HFR
    have hRt := fun w => ratio_any ((t : Int) % 14) 12 w (by omega) (by omega) (by omega) (by omega)
    have hsr : Sm 4 ((((t : Int) % 14 : Int) : Rat) / ((12 : Int) : Rat)) := sm_frac (by omega) (by omega) (by omega)
    generalize hqt : (((t : Int) % 14 : Int) : Rat) / ((12 : Int) : Rat) = qt at *
    have fqt : (ofQ qt).fits 1000 := ofQ_fits (hsr.mono (by omega))
    have HRt := Lib.hid hRt
    have fr' : r.fits 1000 := ⟨by have := hr.1; omega, by have := hr.2; omega⟩
    have ht0 : (0 : Int) ≤ (t : Int) := by omega
    have HP := Lib.hid (fun (p : Nat → Prop) (g : Grp) (ev dv : Value) (W0 W : World) (h : Below W0.heap.size W0 W) (hE : REsts W0 p ev g.e) (hD : RDbts W0 p dv g.d) (hs : SmallG 1000 g) (hp : ∀ x, p x → x < W0.heap.size) => forced_any p g ev dv (ofQ qt) W (hE.on h) (hD.on h) (hs.mono (by omega)) fqt (fun x hx => Nat.lt_of_lt_of_le (hp x hx) h.size))
    have HQ := Lib.hid (fun (p : Nat → Prop) (g : Grp) (ev dv : Value) (W0 W : World) (h : Below W0.heap.size W0 W) (hE : REsts W0 p ev g.e) (hD : RDbts W0 p dv g.d) (hs : SmallG 1000 g) (hp : ∀ x, p x → x < W0.heap.size) => rforced_any p g ev dv (ofQ qt) W (hE.on h) (hD.on h) (hs.mono (by omega)) fqt (fun x hx => Nat.lt_of_lt_of_le (hp x hx) h.size))
    have HP2 := Lib.hid (fun (p : Nat → Prop) (g : Grp) (ev dv : Value) (W0 W : World) (h : Below W0.heap.size W0 W) (hE : REsts W0 p ev g.e) (hD : RDbts W0 p dv g.d) (hs : SmallG 1000 g) (hp : ∀ x, p x → x < W0.heap.size) => forced_any p g ev dv r W (hE.on h) (hD.on h) (hs.mono (by omega)) fr' (fun x hx => Nat.lt_of_lt_of_le (hp x hx) h.size))
    have HQ2 := Lib.hid (fun (p : Nat → Prop) (g : Grp) (ev dv : Value) (W0 W : World) (h : Below W0.heap.size W0 W) (hE : REsts W0 p ev g.e) (hD : RDbts W0 p dv g.d) (hs : SmallG 1000 g) (hp : ∀ x, p x → x < W0.heap.size) => rforced_any p g ev dv r W (hE.on h) (hD.on h) (hs.mono (by omega)) fr' (fun x hx => Nat.lt_of_lt_of_le (hp x hx) h.size))
    generalize (ofQ qt).q = qf at *
    generalize r.q = qr at *
    have efn : (ofQ qt).n = rn qt := rfl
    have efs : (ofQ qt).s = rs qt := rfl
    have efd : (ofQ qt).d = rd qt := rfl
    rw [efn, efs, efd] at HP HQ
    generalize rn qt = q1 at *
    generalize rs qt = q2 at *
    generalize rd qt = q3 at *
    generalize r.n = rn' at *
    generalize r.s = rs' at *
    generalize r.d = rd' at *
    clear h1 h2 h3 h4 b1 b2 b3 b4 fr hs hr hqt hRt hsr fqt fr' efn efs efd HH
    go_enter Tryz.func7, Tryz.ntmps7
    go_wp2_with fail
    refine (HFR.out _).mono ?_; rintro e w1 ⟨rfl, hb1⟩
    obtain ⟨J, HB⟩ := boxes1 hb1
    have J := Lib.hid J
    have HB := Lib.hid HB
    clear hb1
    go_wp2_with fail
    refine (HG.out _ HB.out).mono ?_; rintro e w2 ⟨ev, dv, g, rfl, hE, hD, hsg, hb2⟩
    obtain ⟨x1, m1, y1, x2, m2, y2, rfl, rfl⟩ := slices_of hE hD
    have HB := Lib.hid (chain HB.out hb2 (Nat.le_refl _))
    have J := Lib.hid (J.out.on hb2)
    have HPg := Lib.hid (fun W (h : Below w2.heap.size w2 W) => HP.out _ _ _ _ w2 W h hE hD hsg (fun x hx => hx.2))
    have HQg := Lib.hid (fun W (h : Below w2.heap.size w2 W) => HQ.out _ _ _ _ w2 W h hE hD hsg (fun x hx => hx.2))
    have HP2g := Lib.hid (fun W (h : Below w2.heap.size w2 W) => HP2.out _ _ _ _ w2 W h hE hD hsg (fun x hx => hx.2))
    have HQ2g := Lib.hid (fun W (h : Below w2.heap.size w2 W) => HQ2.out _ _ _ _ w2 W h hE hD hsg (fun x hx => hx.2))
    have HSG1 := Lib.hid (fun W z z' ev dv ev' dv' (h : FBox W z (frcG g qf) ev dv) (h' : FBox W z' (frcG g qf) ev' dv') => by
      obtain ⟨p, h2⟩ := h.rgrp
      obtain ⟨p', h2'⟩ := h'.rgrp
      exact samegroup_eq p p' (frcG g qf) (.agg #[ev, dv]) (.agg #[ev', dv']) W h2 h2' (LimG.frc g qf))
    have HSG2 := Lib.hid (fun W z z' ev dv ev' dv' (h : FBox W z (frcG g qr) ev dv) (h' : FBox W z' (frcG g qr) ev' dv') => by
      obtain ⟨p, h2⟩ := h.rgrp
      obtain ⟨p', h2'⟩ := h'.rgrp
      exact samegroup_eq p p' (frcG g qr) (.agg #[ev, dv]) (.agg #[ev', dv']) W h2 h2' (LimG.frc g qr))
    clear hE hD hsg hb2 HP HQ HP2 HQ2 HG
    generalize frcG g qf = G1 at *
    generalize frcG g qr = G2 at *
    generalize frcE g qf = e1 at *
    generalize frcE g qr = e2 at *
    go_wp2_with fail
    obtain ⟨V, hVe⟩ : ∃ V, V = w2.alloc (.cells #[.slice x1 m1 y1, .slice x2 m2 y2] 59) := ⟨_, rfl⟩
    rw [← hVe]
    have K := Lib.hid (show Blk V w2.heap.size #[.slice x1 m1 y1, .slice x2 m2 y2] by rw [hVe]; exact Blk.new w2 _ _)
    have HC := Lib.hid (show Below w2.heap.size w2 V by rw [hVe]; exact (Below.refl _ _).alloc (Nat.le_refl _) _)
    have J := Lib.hid (show Blk V w.heap.size #[.bool rn', .string rs', .string rd'] by rw [hVe]; exact J.out.alloc _)
    clear hVe
    have k1 := exc_cell (B := V.heap.size) (K.out.cell 0) K.out.lt
    have k2 := exc_cell (B := V.heap.size) (K.out.cell 1) K.out.lt
    obtain ⟨S, hS⟩ : ∃ S : Nat → World → Prop, S = fun k => if k = 0 then Exc V (fromB V.heap.size) else fun _ => True := ⟨_, rfl⟩
    have S0 : S 0 = Exc V (fromB V.heap.size) := by subst hS; rfl
    have S1 : S 1 = fun _ => True := by subst hS; rfl
    have S2 : S 2 = fun _ => True := by subst hS; rfl
    have S3 : S 3 = fun _ => True := by subst hS; rfl
    have S6 : S 6 = fun _ => True := by subst hS; rfl
    have S7 : S 7 = fun _ => True := by subst hS; rfl
    have S8 : S 8 = fun _ => True := by subst hS; rfl
    have S11 : S 11 = fun _ => True := by subst hS; rfl
    have hSK : ∀ k, k ∉ [0] → ∀ w, S k w := fun k hk w => by subst hS; simp at hk; simp [hk]
    have hSX : ∀ k W', Below V.heap.size V W' → S k W' := fun k W' h => by
      subst hS
      by_cases h1 : k = 0
      · simp only [if_pos h1]; exact exc_below h
      · simp only [if_neg h1]
    clear hS
    refine wp_region_nt S [4, 5, 9, 10] [0] (.two [0, 1, 2, 3] 4 [0] (.two [] 5 [] (.one [6, 7, 8] 9 [] (.one [] 10 [] (.fin [11]))) 9 [0] (.one [] 5 [] (.one [6, 7, 8] 10 [] (.fin [11])))) 9 [0] (.one [] 4 [0] (.one [] 5 [] (.one [6, 7, 8] 10 [] (.fin [11]))))) (by kernel_rfl) (by kernel_rfl) (by kernel_rfl) (by kernel_rfl) hSK (fun k => hSX k _ (Below.refl _ _).drew) ?_
    have HSX := Lib.hid hSX
    clear hSX hSK
    have HVd := Lib.hid ((Below.refl V.heap.size V).drew)
    refine wpNT_two ?_
    repeat (refine wpQS_cons ?_; simp only [getOps, gl9]; (try simp only [S0, S1, S2, S3]); (first | go_big_quiet_skip | (refine wpQuiet_step (fun K hK => ?_); go_simp; (try simp (disch := omega) only [ar9]); (first | (refine hK _ ?_; clear hK K) | (simp (disch := omega) only [if_pos, dif_pos, if_neg, dif_neg, ar9]; go_simp; refine hK _ ?_; clear hK K)))); refine wpQuiet_nil ?_)
    with_reducible refine wpQS_nil ?_
    (try simp only [getOps, gl9])
    apply And.intro
    case' right =>
      have HX := HVd
      go_step
      rename_i K9 hK9
      refine hK9 _ _ ?_
      clear hK9 K9
      have HX := Lib.hid (HX.out.alloc HX.out.size (.cells #[.slice none 0 0, .slice none 0 0] 59))
      have HZ5 := Lib.hid (show Blk (V.drew.alloc (.cells #[.slice none 0 0, .slice none 0 0] 59)) V.heap.size #[.slice none 0 0, .slice none 0 0] from Blk.new V.drew _ _)
      refine segQ_normal ⟨fun k hk => HSX.out k _ HX.out, ?_⟩
      refine wpNT_one ?_
      repeat (refine wpQS_cons ?_; simp only [getOps, gl9]; (first | go_big_quiet_skip | (refine wpQuiet_step (fun K hK => ?_); go_simp; (try simp (disch := omega) only [ar9]); (first | (refine hK _ ?_; clear hK K) | (simp (disch := omega) only [if_pos, dif_pos, if_neg, dif_neg, ar9]; go_simp; refine hK _ ?_; clear hK K)))); refine wpQuiet_nil ?_)
      with_reducible refine wpQS_nil ?_
      (try simp only [getOps, gl9])
      go_step
      rename_i K9 hK9
      refine (HRt.out _).mono ?_
      rintro e w5 ⟨rfl, hb5⟩
      have HZ5 := Lib.hid (HZ5.out.on hb5)
      have hz5 : V.heap.size < w5.heap.size := by have := hb5.size; simp at this; omega
      have HX := Lib.hid (chain HX.out hb5 (Nat.le_refl _))
      clear hb5
      refine hK9 _ _ ?_
      clear hK9 K9
      refine segQ_normal ⟨fun k hk => HSX.out k _ HX.out, ?_⟩
      refine wpNT_one ?_
      repeat (refine wpQS_cons ?_; simp only [getOps, gl9]; (first | go_big_quiet_skip | (refine wpQuiet_step (fun K hK => ?_); go_simp; (try simp (disch := omega) only [ar9]); (first | (refine hK _ ?_; clear hK K) | (simp (disch := omega) only [if_pos, dif_pos, if_neg, dif_neg, ar9]; go_simp; refine hK _ ?_; clear hK K)))); refine wpQuiet_nil ?_)
      with_reducible refine wpQS_nil ?_
      (try simp only [getOps, gl9])
      go_step
      rename_i K9 hK9
      refine (HPg.out _ (chain HC.out HX.out (Nat.le_refl _))).mono ?_
      rintro e w6 hr6
      obtain ⟨u1, i1, o1, u2, i2, o2, rfl, hE6, hD6, hb6⟩ := hr6.get
      clear hr6
      have HZ5 := Lib.hid (HZ5.out.on hb6)
      have HX := Lib.hid (chain HX.out hb6 (Nat.le_refl _))
      refine hK9 _ _ ?_
      clear hK9 K9
      refine segQ_normal ⟨fun k hk => by simp at hk, ?_⟩
      refine wpNT_one ?_
      repeat (refine wpQS_cons ?_; simp only [getOps, gl9]; (try simp only [S6, S7, S8]); (first | go_big_quiet_skip | (refine wpQuiet_step (fun K hK => ?_); go_simp; (try simp (disch := omega) only [ar9]); (first | (refine hK _ ?_; clear hK K) | (simp (disch := omega) only [if_pos, dif_pos, if_neg, dif_neg, ar9]; go_simp; refine hK _ ?_; clear hK K)))); refine wpQuiet_nil ?_)
      with_reducible refine wpQS_nil ?_
      (try simp only [getOps, gl9])
      have z0 := HZ5.out.cell 0
      have z1 := HZ5.out.cell 1
      have g0 := HZ5.out.frozen 0
      have g1 := HZ5.out.frozen 1
      go_step
      rename_i K9 hK9
      refine hK9 _ _ ?_
      clear hK9 K9
      refine segQ_normal ⟨fun k hk => by simp at hk, ?_⟩
      have HY := Lib.hid (FBox.set HZ5.out hz5 hE6 hD6)
      have HZ := Lib.hid ((HX.out.setCell (p := ⟨V.heap.size, 0, none⟩) (by simp) (.slice u1 i1 o1)).setCell (p := ⟨V.heap.size, 1, none⟩) (by simp) (.slice u2 i2 o2))
      refine wpNT_forget (fun V' => ∃ z, z = V.heap.size ∧ FBox V' z G1 (.slice u1 i1 o1) (.slice u2 i2 o2) ∧ Below V.heap.size V V') ⟨_, rfl, HY.out, HZ.out⟩ ?_
      rintro W ⟨zBA, hz, hf, hbV⟩
      rw [← hz]
      clear hz HY HZ
      have BA := Lib.hid hf
      have J := Lib.hid (J.out.on hbV)
      have K := Lib.hid (K.out.on hbV)
      have HC := Lib.hid (chain HC.out hbV (Nat.le_refl _))
      clear hf hbV HX HVd HSX k1 k2
      clear hE6 hD6 hb6
      refine wpNT_fin ?_
      repeat (refine wpQS_cons ?_; simp only [getOps, gl9]; (try simp only [S11]); (first | go_big_quiet_skip | (refine wpQuiet_step (fun K hK => ?_); go_simp; (try simp (disch := omega) only [ar9]); (first | (refine hK _ ?_; clear hK K) | (simp (disch := omega) only [if_pos, dif_pos, if_neg, dif_neg, ar9]; go_simp; refine hK _ ?_; clear hK K)))); refine wpQuiet_nil ?_)
      with_reducible refine wpQS_nil ?_
      obtain ⟨u1BA, rfl⟩ : ∃ x, x = u1 := ⟨_, rfl⟩
      obtain ⟨i1BA, rfl⟩ : ∃ x, x = i1 := ⟨_, rfl⟩
      obtain ⟨o1BA, rfl⟩ : ∃ x, x = o1 := ⟨_, rfl⟩
      obtain ⟨u2BA, rfl⟩ : ∃ x, x = u2 := ⟨_, rfl⟩
      obtain ⟨i2BA, rfl⟩ : ∃ x, x = i2 := ⟨_, rfl⟩
      obtain ⟨o2BA, rfl⟩ : ∃ x, x = o2 := ⟨_, rfl⟩
      obtain ⟨VBA, rfl⟩ : ∃ x, x = W := ⟨_, rfl⟩
      clear S0 S1 S2 S3 S6 S7 S8 S11 S
    case' left =>
      have HX := HVd
      go_step
      rename_i K9 hK9
      refine (HRt.out _).mono ?_
      rintro e w5 ⟨rfl, hb5⟩
      have HX := Lib.hid (chain HX.out hb5 (Nat.le_refl _))
      clear hb5
      refine hK9 _ _ ?_
      clear hK9 K9
      refine segQ_normal ⟨fun k hk => HSX.out k _ HX.out, ?_⟩
      refine wpNT_two ?_
      repeat (refine wpQS_cons ?_; simp only [getOps, gl9]; (first | go_big_quiet_skip | (refine wpQuiet_step (fun K hK => ?_); go_simp; (try simp (disch := omega) only [ar9]); (first | (refine hK _ ?_; clear hK K) | (simp (disch := omega) only [if_pos, dif_pos, if_neg, dif_neg, ar9]; go_simp; refine hK _ ?_; clear hK K)))); refine wpQuiet_nil ?_)
      with_reducible refine wpQS_nil ?_
      (try simp only [getOps, gl9])
      apply And.intro
      case' right =>
        go_step
        rename_i K9 hK9
        refine hK9 _ _ ?_
        clear hK9 K9
        have hv5 := HX.out.size
        have HX := Lib.hid (HX.out.alloc HX.out.size (.cells #[.slice none 0 0, .slice none 0 0] 59))
        have HZ5 := Lib.hid (Blk.new w5 #[.slice none 0 0, .slice none 0 0] 59)
        refine segQ_normal ⟨fun k hk => HSX.out k _ HX.out, ?_⟩
        refine wpNT_one ?_
        repeat (refine wpQS_cons ?_; simp only [getOps, gl9]; (first | go_big_quiet_skip | (refine wpQuiet_step (fun K hK => ?_); go_simp; (try simp (disch := omega) only [ar9]); (first | (refine hK _ ?_; clear hK K) | (simp (disch := omega) only [if_pos, dif_pos, if_neg, dif_neg, ar9]; go_simp; refine hK _ ?_; clear hK K)))); refine wpQuiet_nil ?_)
        with_reducible refine wpQS_nil ?_
        (try simp only [getOps, gl9])
        go_step
        rename_i K9 hK9
        refine (HPg.out _ (chain HC.out HX.out (Nat.le_refl _))).mono ?_
        rintro e w6 hr6
        obtain ⟨u1, i1, o1, u2, i2, o2, rfl, hE6, hD6, hb6⟩ := hr6.get
        clear hr6
        have HZ5 := Lib.hid (HZ5.out.on hb6)
        have HX := Lib.hid (chain HX.out hb6 (Nat.le_refl _))
        refine hK9 _ _ ?_
        clear hK9 K9
        refine segQ_normal ⟨fun k hk => by simp at hk, ?_⟩
        refine wpNT_one ?_
        repeat (refine wpQS_cons ?_; simp only [getOps, gl9]; (try simp only [S6, S7, S8]); (first | go_big_quiet_skip | (refine wpQuiet_step (fun K hK => ?_); go_simp; (try simp (disch := omega) only [ar9]); (first | (refine hK _ ?_; clear hK K) | (simp (disch := omega) only [if_pos, dif_pos, if_neg, dif_neg, ar9]; go_simp; refine hK _ ?_; clear hK K)))); refine wpQuiet_nil ?_)
        with_reducible refine wpQS_nil ?_
        (try simp only [getOps, gl9])
        have z0 := HZ5.out.cell 0
        have z1 := HZ5.out.cell 1
        have g0 := HZ5.out.frozen 0
        have g1 := HZ5.out.frozen 1
        go_step
        rename_i K9 hK9
        refine hK9 _ _ ?_
        clear hK9 K9
        refine segQ_normal ⟨fun k hk => by simp at hk, ?_⟩
        have HY := Lib.hid (FBox.set HZ5.out (by simp) hE6 hD6)
        have HZ := Lib.hid ((HX.out.setCell (p := ⟨w5.heap.size, 0, none⟩) (by simp; omega) (.slice u1 i1 o1)).setCell (p := ⟨w5.heap.size, 1, none⟩) (by simp; omega) (.slice u2 i2 o2))
        refine wpNT_forget (fun V' => ∃ z, z = w5.heap.size ∧ FBox V' z G1 (.slice u1 i1 o1) (.slice u2 i2 o2) ∧ Below V.heap.size V V') ⟨_, rfl, HY.out, HZ.out⟩ ?_
        rintro W ⟨zBA, hz, hf, hbV⟩
        rw [← hz]
        clear hz HY HZ
        have BA := Lib.hid hf
        have J := Lib.hid (J.out.on hbV)
        have K := Lib.hid (K.out.on hbV)
        have HC := Lib.hid (chain HC.out hbV (Nat.le_refl _))
        clear hf hbV HX HVd HSX k1 k2
        clear hE6 hD6 hb6
        refine wpNT_fin ?_
        repeat (refine wpQS_cons ?_; simp only [getOps, gl9]; (try simp only [S11]); (first | go_big_quiet_skip | (refine wpQuiet_step (fun K hK => ?_); go_simp; (try simp (disch := omega) only [ar9]); (first | (refine hK _ ?_; clear hK K) | (simp (disch := omega) only [if_pos, dif_pos, if_neg, dif_neg, ar9]; go_simp; refine hK _ ?_; clear hK K)))); refine wpQuiet_nil ?_)
        with_reducible refine wpQS_nil ?_
        obtain ⟨u1BA, rfl⟩ : ∃ x, x = u1 := ⟨_, rfl⟩
        obtain ⟨i1BA, rfl⟩ : ∃ x, x = i1 := ⟨_, rfl⟩
        obtain ⟨o1BA, rfl⟩ : ∃ x, x = o1 := ⟨_, rfl⟩
        obtain ⟨u2BA, rfl⟩ : ∃ x, x = u2 := ⟨_, rfl⟩
        obtain ⟨i2BA, rfl⟩ : ∃ x, x = i2 := ⟨_, rfl⟩
        obtain ⟨o2BA, rfl⟩ : ∃ x, x = o2 := ⟨_, rfl⟩
        obtain ⟨VBA, rfl⟩ : ∃ x, x = W := ⟨_, rfl⟩
        clear S0 S1 S2 S3 S6 S7 S8 S11 S
      case' left =>
        go_step
        rename_i K9 hK9
        refine (HPg.out _ (chain HC.out HX.out (Nat.le_refl _))).mono ?_
        rintro e w6 hr6
        obtain ⟨u1, i1, o1, u2, i2, o2, rfl, hE6, hD6, hb6⟩ := hr6.get
        clear hr6
        have HX := Lib.hid (chain HX.out hb6 (Nat.le_refl _))
        refine hK9 _ _ ?_
        clear hK9 K9
        refine segQ_normal ⟨fun k hk => by simp at hk, ?_⟩
        refine wpNT_one ?_
        repeat (refine wpQS_cons ?_; simp only [getOps, gl9]; (try simp only [S6, S7, S8]); (first | go_big_quiet_skip | (refine wpQuiet_step (fun K hK => ?_); go_simp; (try simp (disch := omega) only [ar9]); (first | (refine hK _ ?_; clear hK K) | (simp (disch := omega) only [if_pos, dif_pos, if_neg, dif_neg, ar9]; go_simp; refine hK _ ?_; clear hK K)))); refine wpQuiet_nil ?_)
        with_reducible refine wpQS_nil ?_
        (try simp only [getOps, gl9])
        go_step
        rename_i K9 hK9
        refine hK9 _ _ ?_
        clear hK9 K9
        refine segQ_normal ⟨fun k hk => by simp at hk, ?_⟩
        refine wpNT_one ?_
        repeat (refine wpQS_cons ?_; simp only [getOps, gl9]; (first | go_big_quiet_skip | (refine wpQuiet_step (fun K hK => ?_); go_simp; (try simp (disch := omega) only [ar9]); (first | (refine hK _ ?_; clear hK K) | (simp (disch := omega) only [if_pos, dif_pos, if_neg, dif_neg, ar9]; go_simp; refine hK _ ?_; clear hK K)))); refine wpQuiet_nil ?_)
        with_reducible refine wpQS_nil ?_
        (try simp only [getOps, gl9])
        go_step
        rename_i K9 hK9
        refine hK9 _ _ ?_
        clear hK9 K9
        refine segQ_normal ⟨fun k hk => by simp at hk, ?_⟩
        have HY := Lib.hid (FBox.made hE6 hD6 59)
        have HZ := Lib.hid (HX.out.alloc HX.out.size (.cells #[.slice u1 i1 o1, .slice u2 i2 o2] 59))
        refine wpNT_forget (fun V' => ∃ z, z = w6.heap.size ∧ FBox V' z G1 (.slice u1 i1 o1) (.slice u2 i2 o2) ∧ Below V.heap.size V V') ⟨_, rfl, HY.out, HZ.out⟩ ?_
        rintro W ⟨zBA, hz, hf, hbV⟩
        rw [← hz]
        clear hz HY HZ
        have BA := Lib.hid hf
        have J := Lib.hid (J.out.on hbV)
        have K := Lib.hid (K.out.on hbV)
        have HC := Lib.hid (chain HC.out hbV (Nat.le_refl _))
        clear hf hbV HX HVd HSX k1 k2
        clear hE6 hD6 hb6
        refine wpNT_fin ?_
        repeat (refine wpQS_cons ?_; simp only [getOps, gl9]; (try simp only [S11]); (first | go_big_quiet_skip | (refine wpQuiet_step (fun K hK => ?_); go_simp; (try simp (disch := omega) only [ar9]); (first | (refine hK _ ?_; clear hK K) | (simp (disch := omega) only [if_pos, dif_pos, if_neg, dif_neg, ar9]; go_simp; refine hK _ ?_; clear hK K)))); refine wpQuiet_nil ?_)
        with_reducible refine wpQS_nil ?_
        obtain ⟨u1BA, rfl⟩ : ∃ x, x = u1 := ⟨_, rfl⟩
        obtain ⟨i1BA, rfl⟩ : ∃ x, x = i1 := ⟨_, rfl⟩
        obtain ⟨o1BA, rfl⟩ : ∃ x, x = o1 := ⟨_, rfl⟩
        obtain ⟨u2BA, rfl⟩ : ∃ x, x = u2 := ⟨_, rfl⟩
        obtain ⟨i2BA, rfl⟩ : ∃ x, x = i2 := ⟨_, rfl⟩
        obtain ⟨o2BA, rfl⟩ : ∃ x, x = o2 := ⟨_, rfl⟩
        obtain ⟨VBA, rfl⟩ : ∃ x, x = W := ⟨_, rfl⟩
        clear S0 S1 S2 S3 S6 S7 S8 S11 S
    all_goals
      go_wp2_with fail
      obtain ⟨V, rfl⟩ : ∃ x, x = VBA := ⟨_, rfl⟩
      have k1 := exc_cell (B := V.heap.size) (K.out.cell 0) K.out.lt
      have k2 := exc_cell (B := V.heap.size) (K.out.cell 1) K.out.lt
      obtain ⟨S, hS⟩ : ∃ S : Nat → World → Prop, S = fun k => if k = 0 then Exc V (fromB V.heap.size) else fun _ => True := ⟨_, rfl⟩
      have S0 : S 0 = Exc V (fromB V.heap.size) := by subst hS; rfl
      have S1 : S 1 = fun _ => True := by subst hS; rfl
      have S2 : S 2 = fun _ => True := by subst hS; rfl
      have S3 : S 3 = fun _ => True := by subst hS; rfl
      have S6 : S 6 = fun _ => True := by subst hS; rfl
      have S7 : S 7 = fun _ => True := by subst hS; rfl
      have S8 : S 8 = fun _ => True := by subst hS; rfl
      have S11 : S 11 = fun _ => True := by subst hS; rfl
      have hSK : ∀ k, k ∉ [0] → ∀ w, S k w := fun k hk w => by subst hS; simp at hk; simp [hk]
      have hSX : ∀ k W', Below V.heap.size V W' → S k W' := fun k W' h => by
        subst hS
        by_cases h1 : k = 0
        · simp only [if_pos h1]; exact exc_below h
        · simp only [if_neg h1]
      clear hS
      refine wp_region_nt S [4, 5, 9, 10] [0] (.two [0, 1, 2, 3] 4 [0] (.two [] 5 [] (.one [6, 7, 8] 9 [] (.one [] 10 [] (.fin [11]))) 9 [0] (.one [] 5 [] (.one [6, 7, 8] 10 [] (.fin [11])))) 9 [0] (.one [] 4 [0] (.one [] 5 [] (.one [6, 7, 8] 10 [] (.fin [11]))))) (by kernel_rfl) (by kernel_rfl) (by kernel_rfl) (by kernel_rfl) hSK (fun k => hSX k _ (Below.refl _ _).drew) ?_
      have HSX := Lib.hid hSX
      clear hSX hSK
      have HVd := Lib.hid ((Below.refl V.heap.size V).drew)
      refine wpNT_two ?_
      repeat (refine wpQS_cons ?_; simp only [getOps, gl9]; (try simp only [S0, S1, S2, S3]); (first | go_big_quiet_skip | (refine wpQuiet_step (fun K hK => ?_); go_simp; (try simp (disch := omega) only [ar9]); (first | (refine hK _ ?_; clear hK K) | (simp (disch := omega) only [if_pos, dif_pos, if_neg, dif_neg, ar9]; go_simp; refine hK _ ?_; clear hK K)))); refine wpQuiet_nil ?_)
      with_reducible refine wpQS_nil ?_
      (try simp only [getOps, gl9])
      apply And.intro
      case' right =>
        have HX := HVd
        go_step
        rename_i K9 hK9
        refine hK9 _ _ ?_
        clear hK9 K9
        have HX := Lib.hid (HX.out.alloc HX.out.size (.cells #[.slice none 0 0, .slice none 0 0] 59))
        have HZ5 := Lib.hid (show Blk (V.drew.alloc (.cells #[.slice none 0 0, .slice none 0 0] 59)) V.heap.size #[.slice none 0 0, .slice none 0 0] from Blk.new V.drew _ _)
        refine segQ_normal ⟨fun k hk => HSX.out k _ HX.out, ?_⟩
        refine wpNT_one ?_
        repeat (refine wpQS_cons ?_; simp only [getOps, gl9]; (first | go_big_quiet_skip | (refine wpQuiet_step (fun K hK => ?_); go_simp; (try simp (disch := omega) only [ar9]); (first | (refine hK _ ?_; clear hK K) | (simp (disch := omega) only [if_pos, dif_pos, if_neg, dif_neg, ar9]; go_simp; refine hK _ ?_; clear hK K)))); refine wpQuiet_nil ?_)
        with_reducible refine wpQS_nil ?_
        (try simp only [getOps, gl9])
        go_step
        rename_i K9 hK9
        refine (HRt.out _).mono ?_
        rintro e w5 ⟨rfl, hb5⟩
        have HZ5 := Lib.hid (HZ5.out.on hb5)
        have hz5 : V.heap.size < w5.heap.size := by have := hb5.size; simp at this; omega
        have HX := Lib.hid (chain HX.out hb5 (Nat.le_refl _))
        clear hb5
        refine hK9 _ _ ?_
        clear hK9 K9
        refine segQ_normal ⟨fun k hk => HSX.out k _ HX.out, ?_⟩
        refine wpNT_one ?_
        repeat (refine wpQS_cons ?_; simp only [getOps, gl9]; (first | go_big_quiet_skip | (refine wpQuiet_step (fun K hK => ?_); go_simp; (try simp (disch := omega) only [ar9]); (first | (refine hK _ ?_; clear hK K) | (simp (disch := omega) only [if_pos, dif_pos, if_neg, dif_neg, ar9]; go_simp; refine hK _ ?_; clear hK K)))); refine wpQuiet_nil ?_)
        with_reducible refine wpQS_nil ?_
        (try simp only [getOps, gl9])
        go_step
        rename_i K9 hK9
        refine (HQg.out _ (chain HC.out HX.out (Nat.le_refl _))).mono ?_
        rintro e w6 hr6
        obtain ⟨u1, i1, o1, u2, i2, o2, rfl, hE6, hD6, hb6⟩ := hr6.get
        clear hr6
        have HZ5 := Lib.hid (HZ5.out.on hb6)
        have HX := Lib.hid (chain HX.out hb6 (Nat.le_refl _))
        refine hK9 _ _ ?_
        clear hK9 K9
        refine segQ_normal ⟨fun k hk => by simp at hk, ?_⟩
        refine wpNT_one ?_
        repeat (refine wpQS_cons ?_; simp only [getOps, gl9]; (try simp only [S6, S7, S8]); (first | go_big_quiet_skip | (refine wpQuiet_step (fun K hK => ?_); go_simp; (try simp (disch := omega) only [ar9]); (first | (refine hK _ ?_; clear hK K) | (simp (disch := omega) only [if_pos, dif_pos, if_neg, dif_neg, ar9]; go_simp; refine hK _ ?_; clear hK K)))); refine wpQuiet_nil ?_)
        with_reducible refine wpQS_nil ?_
        (try simp only [getOps, gl9])
        have z0 := HZ5.out.cell 0
        have z1 := HZ5.out.cell 1
        have g0 := HZ5.out.frozen 0
        have g1 := HZ5.out.frozen 1
        go_step
        rename_i K9 hK9
        refine hK9 _ _ ?_
        clear hK9 K9
        refine segQ_normal ⟨fun k hk => by simp at hk, ?_⟩
        have HY := Lib.hid (FBox.set HZ5.out hz5 hE6 hD6)
        have HZ := Lib.hid ((HX.out.setCell (p := ⟨V.heap.size, 0, none⟩) (by simp) (.slice u1 i1 o1)).setCell (p := ⟨V.heap.size, 1, none⟩) (by simp) (.slice u2 i2 o2))
        refine wpNT_forget (fun V' => ∃ z, z = V.heap.size ∧ FBox V' z G1 (.slice u1 i1 o1) (.slice u2 i2 o2) ∧ Below V.heap.size V V') ⟨_, rfl, HY.out, HZ.out⟩ ?_
        rintro W ⟨zBB, hz, hf, hbV⟩
        rw [← hz]
        clear hz HY HZ
        have BB := Lib.hid hf
        have J := Lib.hid (J.out.on hbV)
        have K := Lib.hid (K.out.on hbV)
        have BA := Lib.hid (BA.out.on hbV)
        have HC := Lib.hid (chain HC.out hbV (Nat.le_refl _))
        clear hf hbV HX HVd HSX k1 k2
        clear hE6 hD6 hb6
        refine wpNT_fin ?_
        repeat (refine wpQS_cons ?_; simp only [getOps, gl9]; (try simp only [S11]); (first | go_big_quiet_skip | (refine wpQuiet_step (fun K hK => ?_); go_simp; (try simp (disch := omega) only [ar9]); (first | (refine hK _ ?_; clear hK K) | (simp (disch := omega) only [if_pos, dif_pos, if_neg, dif_neg, ar9]; go_simp; refine hK _ ?_; clear hK K)))); refine wpQuiet_nil ?_)
        with_reducible refine wpQS_nil ?_
        obtain ⟨u1BB, rfl⟩ : ∃ x, x = u1 := ⟨_, rfl⟩
        obtain ⟨i1BB, rfl⟩ : ∃ x, x = i1 := ⟨_, rfl⟩
        obtain ⟨o1BB, rfl⟩ : ∃ x, x = o1 := ⟨_, rfl⟩
        obtain ⟨u2BB, rfl⟩ : ∃ x, x = u2 := ⟨_, rfl⟩
        obtain ⟨i2BB, rfl⟩ : ∃ x, x = i2 := ⟨_, rfl⟩
        obtain ⟨o2BB, rfl⟩ : ∃ x, x = o2 := ⟨_, rfl⟩
        obtain ⟨VBB, rfl⟩ : ∃ x, x = W := ⟨_, rfl⟩
        clear S0 S1 S2 S3 S6 S7 S8 S11 S
      case' left =>
        have HX := HVd
        go_step
        rename_i K9 hK9
        refine (HRt.out _).mono ?_
        rintro e w5 ⟨rfl, hb5⟩
        have HX := Lib.hid (chain HX.out hb5 (Nat.le_refl _))
        clear hb5
        refine hK9 _ _ ?_
        clear hK9 K9
        refine segQ_normal ⟨fun k hk => HSX.out k _ HX.out, ?_⟩
        refine wpNT_two ?_
        repeat (refine wpQS_cons ?_; simp only [getOps, gl9]; (first | go_big_quiet_skip | (refine wpQuiet_step (fun K hK => ?_); go_simp; (try simp (disch := omega) only [ar9]); (first | (refine hK _ ?_; clear hK K) | (simp (disch := omega) only [if_pos, dif_pos, if_neg, dif_neg, ar9]; go_simp; refine hK _ ?_; clear hK K)))); refine wpQuiet_nil ?_)
        with_reducible refine wpQS_nil ?_
        (try simp only [getOps, gl9])
        apply And.intro
        case' right =>
          go_step
          rename_i K9 hK9
          refine hK9 _ _ ?_
          clear hK9 K9
          have hv5 := HX.out.size
          have HX := Lib.hid (HX.out.alloc HX.out.size (.cells #[.slice none 0 0, .slice none 0 0] 59))
          have HZ5 := Lib.hid (Blk.new w5 #[.slice none 0 0, .slice none 0 0] 59)
          refine segQ_normal ⟨fun k hk => HSX.out k _ HX.out, ?_⟩
          refine wpNT_one ?_
          repeat (refine wpQS_cons ?_; simp only [getOps, gl9]; (first | go_big_quiet_skip | (refine wpQuiet_step (fun K hK => ?_); go_simp; (try simp (disch := omega) only [ar9]); (first | (refine hK _ ?_; clear hK K) | (simp (disch := omega) only [if_pos, dif_pos, if_neg, dif_neg, ar9]; go_simp; refine hK _ ?_; clear hK K)))); refine wpQuiet_nil ?_)
          with_reducible refine wpQS_nil ?_
          (try simp only [getOps, gl9])
          go_step
          rename_i K9 hK9
          refine (HQg.out _ (chain HC.out HX.out (Nat.le_refl _))).mono ?_
          rintro e w6 hr6
          obtain ⟨u1, i1, o1, u2, i2, o2, rfl, hE6, hD6, hb6⟩ := hr6.get
          clear hr6
          have HZ5 := Lib.hid (HZ5.out.on hb6)
          have HX := Lib.hid (chain HX.out hb6 (Nat.le_refl _))
          refine hK9 _ _ ?_
          clear hK9 K9
          refine segQ_normal ⟨fun k hk => by simp at hk, ?_⟩
          refine wpNT_one ?_
          repeat (refine wpQS_cons ?_; simp only [getOps, gl9]; (try simp only [S6, S7, S8]); (first | go_big_quiet_skip | (refine wpQuiet_step (fun K hK => ?_); go_simp; (try simp (disch := omega) only [ar9]); (first | (refine hK _ ?_; clear hK K) | (simp (disch := omega) only [if_pos, dif_pos, if_neg, dif_neg, ar9]; go_simp; refine hK _ ?_; clear hK K)))); refine wpQuiet_nil ?_)
          with_reducible refine wpQS_nil ?_
          (try simp only [getOps, gl9])
          have z0 := HZ5.out.cell 0
          have z1 := HZ5.out.cell 1
          have g0 := HZ5.out.frozen 0
          have g1 := HZ5.out.frozen 1
          go_step
          rename_i K9 hK9
          refine hK9 _ _ ?_
          clear hK9 K9
          refine segQ_normal ⟨fun k hk => by simp at hk, ?_⟩
          have HY := Lib.hid (FBox.set HZ5.out (by simp) hE6 hD6)
          have HZ := Lib.hid ((HX.out.setCell (p := ⟨w5.heap.size, 0, none⟩) (by simp; omega) (.slice u1 i1 o1)).setCell (p := ⟨w5.heap.size, 1, none⟩) (by simp; omega) (.slice u2 i2 o2))
          refine wpNT_forget (fun V' => ∃ z, z = w5.heap.size ∧ FBox V' z G1 (.slice u1 i1 o1) (.slice u2 i2 o2) ∧ Below V.heap.size V V') ⟨_, rfl, HY.out, HZ.out⟩ ?_
          rintro W ⟨zBB, hz, hf, hbV⟩
          rw [← hz]
          clear hz HY HZ
          have BB := Lib.hid hf
          have J := Lib.hid (J.out.on hbV)
          have K := Lib.hid (K.out.on hbV)
          have BA := Lib.hid (BA.out.on hbV)
          have HC := Lib.hid (chain HC.out hbV (Nat.le_refl _))
          clear hf hbV HX HVd HSX k1 k2
          clear hE6 hD6 hb6
          refine wpNT_fin ?_
          repeat (refine wpQS_cons ?_; simp only [getOps, gl9]; (try simp only [S11]); (first | go_big_quiet_skip | (refine wpQuiet_step (fun K hK => ?_); go_simp; (try simp (disch := omega) only [ar9]); (first | (refine hK _ ?_; clear hK K) | (simp (disch := omega) only [if_pos, dif_pos, if_neg, dif_neg, ar9]; go_simp; refine hK _ ?_; clear hK K)))); refine wpQuiet_nil ?_)
          with_reducible refine wpQS_nil ?_
          obtain ⟨u1BB, rfl⟩ : ∃ x, x = u1 := ⟨_, rfl⟩
          obtain ⟨i1BB, rfl⟩ : ∃ x, x = i1 := ⟨_, rfl⟩
          obtain ⟨o1BB, rfl⟩ : ∃ x, x = o1 := ⟨_, rfl⟩
          obtain ⟨u2BB, rfl⟩ : ∃ x, x = u2 := ⟨_, rfl⟩
          obtain ⟨i2BB, rfl⟩ : ∃ x, x = i2 := ⟨_, rfl⟩
          obtain ⟨o2BB, rfl⟩ : ∃ x, x = o2 := ⟨_, rfl⟩
          obtain ⟨VBB, rfl⟩ : ∃ x, x = W := ⟨_, rfl⟩
          clear S0 S1 S2 S3 S6 S7 S8 S11 S
        case' left =>
          go_step
          rename_i K9 hK9
          refine (HQg.out _ (chain HC.out HX.out (Nat.le_refl _))).mono ?_
          rintro e w6 hr6
          obtain ⟨u1, i1, o1, u2, i2, o2, rfl, hE6, hD6, hb6⟩ := hr6.get
          clear hr6
          have HX := Lib.hid (chain HX.out hb6 (Nat.le_refl _))
          refine hK9 _ _ ?_
          clear hK9 K9
          refine segQ_normal ⟨fun k hk => by simp at hk, ?_⟩
          refine wpNT_one ?_
          repeat (refine wpQS_cons ?_; simp only [getOps, gl9]; (try simp only [S6, S7, S8]); (first | go_big_quiet_skip | (refine wpQuiet_step (fun K hK => ?_); go_simp; (try simp (disch := omega) only [ar9]); (first | (refine hK _ ?_; clear hK K) | (simp (disch := omega) only [if_pos, dif_pos, if_neg, dif_neg, ar9]; go_simp; refine hK _ ?_; clear hK K)))); refine wpQuiet_nil ?_)
          with_reducible refine wpQS_nil ?_
          (try simp only [getOps, gl9])
          go_step
          rename_i K9 hK9
          refine hK9 _ _ ?_
          clear hK9 K9
          refine segQ_normal ⟨fun k hk => by simp at hk, ?_⟩
          refine wpNT_one ?_
          repeat (refine wpQS_cons ?_; simp only [getOps, gl9]; (first | go_big_quiet_skip | (refine wpQuiet_step (fun K hK => ?_); go_simp; (try simp (disch := omega) only [ar9]); (first | (refine hK _ ?_; clear hK K) | (simp (disch := omega) only [if_pos, dif_pos, if_neg, dif_neg, ar9]; go_simp; refine hK _ ?_; clear hK K)))); refine wpQuiet_nil ?_)
          with_reducible refine wpQS_nil ?_
          (try simp only [getOps, gl9])
          go_step
          rename_i K9 hK9
          refine hK9 _ _ ?_
          clear hK9 K9
          refine segQ_normal ⟨fun k hk => by simp at hk, ?_⟩
          have HY := Lib.hid (FBox.made hE6 hD6 59)
          have HZ := Lib.hid (HX.out.alloc HX.out.size (.cells #[.slice u1 i1 o1, .slice u2 i2 o2] 59))
          refine wpNT_forget (fun V' => ∃ z, z = w6.heap.size ∧ FBox V' z G1 (.slice u1 i1 o1) (.slice u2 i2 o2) ∧ Below V.heap.size V V') ⟨_, rfl, HY.out, HZ.out⟩ ?_
          rintro W ⟨zBB, hz, hf, hbV⟩
          rw [← hz]
          clear hz HY HZ
          have BB := Lib.hid hf
          have J := Lib.hid (J.out.on hbV)
          have K := Lib.hid (K.out.on hbV)
          have BA := Lib.hid (BA.out.on hbV)
          have HC := Lib.hid (chain HC.out hbV (Nat.le_refl _))
          clear hf hbV HX HVd HSX k1 k2
          clear hE6 hD6 hb6
          refine wpNT_fin ?_
          repeat (refine wpQS_cons ?_; simp only [getOps, gl9]; (try simp only [S11]); (first | go_big_quiet_skip | (refine wpQuiet_step (fun K hK => ?_); go_simp; (try simp (disch := omega) only [ar9]); (first | (refine hK _ ?_; clear hK K) | (simp (disch := omega) only [if_pos, dif_pos, if_neg, dif_neg, ar9]; go_simp; refine hK _ ?_; clear hK K)))); refine wpQuiet_nil ?_)
          with_reducible refine wpQS_nil ?_
          obtain ⟨u1BB, rfl⟩ : ∃ x, x = u1 := ⟨_, rfl⟩
          obtain ⟨i1BB, rfl⟩ : ∃ x, x = i1 := ⟨_, rfl⟩
          obtain ⟨o1BB, rfl⟩ : ∃ x, x = o1 := ⟨_, rfl⟩
          obtain ⟨u2BB, rfl⟩ : ∃ x, x = u2 := ⟨_, rfl⟩
          obtain ⟨i2BB, rfl⟩ : ∃ x, x = i2 := ⟨_, rfl⟩
          obtain ⟨o2BB, rfl⟩ : ∃ x, x = o2 := ⟨_, rfl⟩
          obtain ⟨VBB, rfl⟩ : ∃ x, x = W := ⟨_, rfl⟩
          clear S0 S1 S2 S3 S6 S7 S8 S11 S
      all_goals
        obtain ⟨j0, j1, j2, -, -, -⟩ := J.out.get3
        have k0 := K.out.cell 0
        have k1 := K.out.cell 1
        go_wp2_with fail
        refine (HP2g.out _ HC.out).mono ?_
        rintro e w6 hr6
        obtain ⟨u1BC, i1BC, o1BC, u2BC, i2BC, o2BC, rfl, hE6, hD6, hb6⟩ := hr6.get
        have hbV := hb6.alloc hb6.size (.cells #[.slice u1BC i1BC o1BC, .slice u2BC i2BC o2BC] 59)
        have BC := Lib.hid (FBox.made hE6 hD6 59)
        have J := Lib.hid (J.out.on hbV)
        have K := Lib.hid (K.out.on hbV)
        have BA := Lib.hid (BA.out.on hbV)
        have BB := Lib.hid (BB.out.on hbV)
        have HC := Lib.hid (chain HC.out hbV (Nat.le_refl _))
        clear hr6 hE6 hD6 hb6 hbV j0 j1 j2 k0 k1
        obtain ⟨j0, j1, j2, -, -, -⟩ := J.out.get3
        have k0 := K.out.cell 0
        have k1 := K.out.cell 1
        go_wp2_with fail
        refine (HQ2g.out _ HC.out).mono ?_
        rintro e w6 hr6
        obtain ⟨u1BD, i1BD, o1BD, u2BD, i2BD, o2BD, rfl, hE6, hD6, hb6⟩ := hr6.get
        have hbV := hb6.alloc hb6.size (.cells #[.slice u1BD i1BD o1BD, .slice u2BD i2BD o2BD] 59)
        have BD := Lib.hid (FBox.made hE6 hD6 59)
        have J := Lib.hid (J.out.on hbV)
        have K := Lib.hid (K.out.on hbV)
        have BA := Lib.hid (BA.out.on hbV)
        have BB := Lib.hid (BB.out.on hbV)
        have BC := Lib.hid (BC.out.on hbV)
        have HC := Lib.hid (chain HC.out hbV (Nat.le_refl _))
        clear hr6 hE6 hD6 hb6 hbV j0 j1 j2 k0 k1
        go_wp2_with fail
        refine (HW.out _).mono ?_; rintro e w7 ⟨rfl, hb7⟩
        have BA := Lib.hid (BA.out.on hb7)
        have BB := Lib.hid (BB.out.on hb7)
        have BC := Lib.hid (BC.out.on hb7)
        have BD := Lib.hid (BD.out.on hb7)
        have HC := Lib.hid (chain HC.out hb7 (Nat.le_refl _))
        obtain ⟨f1, f2, f0⟩ := BA.out.cells
        obtain ⟨f3, f4, f5⟩ := BB.out.cells
        clear hb7
        go_wp2_with fail
        refine (HSG1.out _ _ _ _ _ _ _ BA.out BB.out).mono ?_; rintro e w8 ⟨rfl, hb8⟩
        have BC := Lib.hid (BC.out.on hb8)
        have BD := Lib.hid (BD.out.on hb8)
        have HC := Lib.hid (chain HC.out hb8 (Nat.le_refl _))
        clear hb8 f1 f2 f3 f4 f0 f5 BA BB
        obtain ⟨f1, f2, f0⟩ := BC.out.cells
        obtain ⟨f3, f4, f5⟩ := BD.out.cells
        go_wp2_with fail
        refine (HSG2.out _ _ _ _ _ _ _ BC.out BD.out).mono ?_; rintro e w9 ⟨rfl, hb9⟩
        have HC := Lib.hid (chain HC.out hb9 (Nat.le_refl _))
        clear hb9 f1 f2 f3 f4 f0 f5
        go_wp2
        go_ret
        exact ⟨rfl, chain HB.out HC.out (Nat.le_refl _)⟩
  · have hs2 : smallB r = false := Bool.eq_false_iff.mpr hs
    rw [hs2] at HFR
    generalize r.n = rn' at *
    generalize r.s = rs' at *
    generalize r.d = rd' at *
    clear h1 h2 h3 h4 b1 b2 b3 b4 fr hs hs2 HG HH
    go_enter Tryz.func7, Tryz.ntmps7
    go_wp2_with fail
    refine (HFR.out _).mono ?_; rintro e w1 ⟨rfl, hb1⟩
    have HB := Lib.hid (boxes1 hb1).2
    clear hb1
    go_wp2_with fail
    refine (HW.out _).mono ?_; rintro e w4 ⟨rfl, hb4⟩
    have HB := Lib.hid (chain HB.out hb4 (Nat.le_refl _))
    clear hb4
    go_wp2
    go_ret
    exact ⟨rfl, HB.out⟩
end Go.Proofs.Ins
