/- The walk of liquidation.Floor. -/
import Derived.Test.YtobbllakdjampaaGreatDoorL4
set_option linter.unusedSimpArgs false
set_option linter.unusedVariables false
namespace Go.Proofs.Ins
open Go.RowKit

theorem maxR_or (p q : Rat) : maxR p q = p ∨ maxR p q = q := by unfold maxR; split <;> simp
theorem minR_or (p q : Rat) : minR p q = p ∨ minR p q = q := by unfold minR; split <;> simp
theorem sm_maxR {k : Nat} {p q : Rat} (h : Sm k p) (h2 : Sm k q) : Sm k (maxR p q) := by rcases maxR_or p q with e | e <;> rw [e] <;> assumption
theorem sm_minR {k : Nat} {p q : Rat} (h : Sm k p) (h2 : Sm k q) : Sm k (minR p q) := by rcases minR_or p q with e | e <;> rw [e] <;> assumption
def leastQ (v : V8) (x : R3) : Rat := (leastR v x).q
theorem leastQ_eq (v : V8) (x : R3) : leastQ v x = if x.q = 0 then 0 else if v.a.q = 0 then v.k.q else minR (x.q / v.a.q) v.k.q := by
  unfold leastQ leastR
  split
  · exact ofQ_q 0
  · split
    · rfl
    · exact ofQ_q _
theorem sm_r3 {r : R3} {k : Nat} (h : r.fits k) : Sm (k + k + 1) r.q := (sm_raw r.n r.s r.d).mono (by have := h.1; have := h.2; omega)
theorem sm_least {v : V8} {x : R3} (hv : v.fits 1000) (hx : x.fits 1000) : Sm 4002 (leastQ v x) := by
  rw [leastQ_eq]
  split
  · exact sm_zero _ (by omega)
  · split
    · exact (sm_r3 hv.2).mono (by omega)
    · rename_i h
      exact sm_minR (((sm_r3 hx).div (sm_r3 hv.1) h).mono (by omega)) ((sm_r3 hv.2).mono (by omega))
theorem least_fits {v : V8} {x : R3} (hv : v.fits 1000) (hx : x.fits 1000) : (leastR v x).fits 4002 := by
  unfold leastR
  split
  · exact ofQ_fits (sm_zero _ (by omega))
  · split
    · exact ⟨Nat.le_trans hv.2.1 (by omega), Nat.le_trans hv.2.2 (by omega)⟩
    · rename_i h
      exact ofQ_fits (sm_minR (((sm_r3 hx).div (sm_r3 hv.1) h).mono (by omega)) ((sm_r3 hv.2).mono (by omega)))
/-- The greatest of the least shares. -/
def flo (V : Nat → V8) (A : Nat → R3) : Nat → Rat
  | 0 => 0
  | k + 1 => maxR (flo V A k) (leastQ (V k) (A k))
theorem sm_flo {V : Nat → V8} {A : Nat → R3} : ∀ n, (∀ i, i < n → (V i).fits 1000) → (∀ i, i < n → (A i).fits 1000) → Sm 4002 (flo V A n)
  | 0, _, _ => sm_zero _ (by omega)
  | n + 1, h1, h2 => sm_maxR (sm_flo n (fun i hi => h1 i (by omega)) fun i hi => h2 i (by omega)) (sm_least (h1 n (by omega)) (h2 n (by omega)))
/-- The floor. -/
def flQ (n m : Nat) (V : Nat → V8) (A : Nat → R3) : Rat := if chk n m V A = 0 then minR (flo V A n) 1 else 0

set_option maxRecDepth 100000 in
set_option maxHeartbeats 1600000 in
theorem floor_any (a1 : Option Addr) (n c1 : Nat) (a2 : Option Addr) (m c2 : Nat) (V : Nat → V8) (A : Nat → R3) (w : World) (hV : SArg w a1 n 8 fun i => (V i).c) (hA : SArg w a2 m 3 fun i => (A i).c)
    (fV : ∀ i, i < n → (V i).fits 1000) (fA : ∀ i, i < m → (A i).fits 1000) (hn : n ≤ 1000000) (hm : m ≤ 1000000) :
    Calls Tryz.prog 11 #[.slice a1 n c1, .slice a2 m c2] w fun e w' => e = .returned (.tuple #[rv (flQ n m V A), .int .i64 (chk n m V A)]) ∧ Below w.heap.size w w' := by
  have HC := Lib.hid (fun w (h1 : SArg w a1 n 8 fun i => (V i).c) (h2 : SArg w a2 m 3 fun i => (A i).c) => check_any a1 n c1 a2 m c2 V A w h1 h2 (fun i hi => by have := fV i hi; exact ⟨⟨by have := this.1.1; omega, by have := this.1.2; omega⟩, ⟨by have := this.2.1; omega, by have := this.2.2; omega⟩⟩) (fun i hi => by have := fA i hi; exact ⟨by have := this.1; omega, by have := this.2; omega⟩) (by omega) (by omega))
  have HV := Lib.hid (hV.on ((Below.refl w.heap.size w).alloc (Nat.le_refl _) (.cells #[.bool false, .string ⟨#[]⟩, .string ⟨#[]⟩] 30)))
  have HA := Lib.hid (hA.on ((Below.refl w.heap.size w).alloc (Nat.le_refl _) (.cells #[.bool false, .string ⟨#[]⟩, .string ⟨#[]⟩] 30)))
  have HV0 := Lib.hid hV
  have HA0 := Lib.hid hA
  by_cases hc : chk n m V A = 0
  · have hmn : m = n := by
      unfold chk at hc
      by_cases h1 : 64 < n
      · rw [if_pos h1] at hc; cases hc
      · rw [if_neg h1] at hc
        by_cases h2 : m = n
        · exact h2
        · rw [if_pos h2] at hc; cases hc
    subst hmn
    have hq : flQ m m V A = minR (flo V A m) 1 := by unfold flQ; rw [if_pos hc]
    rw [hq, hc]
    rw [hc] at HC
    unfold rv
    have hsf := sm_flo (V := V) (A := A) m fV fA
    have h1s : Sm 1 (1 : Rat) := ⟨by decide, by decide⟩
    have hM := fun w => min_rat (rn (flo V A m)) (rs (flo V A m)) (rd (flo V A m)) (rn 1) (rs 1) (rd 1) w (by have := hsf.rs; have := hsf.rd; omega) (by have := h1s.rs; have := h1s.rd; omega)
    rw [rq_of, rq_of] at hM
    unfold rv at hM
    have HM := Lib.hid hM
    have hI := fun w => int_any 1 w (by omega) (by omega)
    rw [show (((1 : Int) : Rat)) = 1 from rfl] at hI
    have HI := Lib.hid hI
    have HFV := Lib.hid fV
    have HFA := Lib.hid fA
    generalize minR (flo V A m) 1 = T at *
    generalize rn T = t1 at *
    generalize rs T = t2 at *
    generalize rd T = t3 at *
    generalize rn 1 = o1 at *
    generalize rs 1 = o2 at *
    generalize rd 1 = o3 at *
    clear hq hsf h1s hM hI fV fA hV hA hc
    go_enter Tryz.func11, Tryz.ntmps11
    go_wp2_with fail
    refine (HC.out _ HV.out HA.out).mono ?_
    rintro e w3 ⟨rfl, hb3⟩
    obtain ⟨H1, HB⟩ := boxes1 hb3
    have hz3 := H1.lt
    have H1 := Lib.hid (H1.alloc (.cells #[.bool false, .string ⟨#[]⟩, .string ⟨#[]⟩] 30))
    have H2 := Lib.hid (Blk.new w3 #[.bool false, .string ⟨#[]⟩, .string ⟨#[]⟩] 30)
    have HB := Lib.hid (HB.alloc (by omega) (.cells #[.bool false, .string ⟨#[]⟩, .string ⟨#[]⟩] 30))
    clear hb3 HV HA HC
    go_wp2_with fail
    go_loopw [19] (fun i wr => ∃ k : Nat, i = .int .i64 k ∧ k ≤ m ∧ Blk wr w.heap.size #[.bool false, .string ⟨#[]⟩, .string ⟨#[]⟩] ∧ Blk wr w3.heap.size (ofQ (flo V A k)).c.toArray ∧ Below w.heap.size w wr) (fun i _ => m - (intOf i).toNat)
    case atStart => exact ⟨0, rfl, by omega, H1.out, H2.out, HB.out⟩
    case round =>
      obtain ⟨k, rfl, hk, J1, J2, hbel⟩ := hrel
      have HB4 := Lib.hid hbel
      have hzr := J2.lt
      have hzw := hbel.size
      by_cases hlt : k < m
      · skip
        rcases HV0.out with h0 | ⟨bv, ov, rfl, lv, rv'⟩
        · omega
        rcases HA0.out with h0 | ⟨ba, oa, rfl, la, ra⟩
        · omega
        obtain ⟨v0, v1, v2, v3, v4, v5, v6, v7⟩ := (rv'.below hbel lv).v8 hlt
        have hlq := sm_least (HFV.out k hlt) (HFA.out k hlt)
        have hlf := least_fits (HFV.out k hlt) (HFA.out k hlt)
        have hsf := sm_flo (V := V) (A := A) k (fun i hi => HFV.out i (by omega)) (fun i hi => HFA.out i (by omega))
        have HL := Lib.hid (fun w => least_any (V k) (A k) w (HFV.out k hlt) (HFA.out k hlt))
        have hX := fun w => max_rat (rn (flo V A k)) (rs (flo V A k)) (rd (flo V A k)) (leastR (V k) (A k)).n (leastR (V k) (A k)).s (leastR (V k) (A k)).d w (by have := hsf.rs; have := hsf.rd; omega) (by have := hlf.1; have := hlf.2; omega)
        rw [rq_of, show rq (leastR (V k) (A k)).n (leastR (V k) (A k)).s (leastR (V k) (A k)).d = leastQ (V k) (A k) from rfl, show maxR (flo V A k) (leastQ (V k) (A k)) = flo V A (k + 1) from rfl] at hX
        unfold rv at hX
        have HX := Lib.hid hX
        have JK := Lib.hid (show Blk wr w3.heap.size #[.bool (rn (flo V A k)), .string (rs (flo V A k)), .string (rd (flo V A k))] from J2)
        have HJ1 := Lib.hid J1
        have hgoal : ∀ W, Blk W w3.heap.size #[.bool (rn (flo V A (k + 1))), .string (rs (flo V A (k + 1))), .string (rd (flo V A (k + 1)))] → Blk W w3.heap.size (ofQ (flo V A (k + 1))).c.toArray := fun W h => h
        have HGO := Lib.hid hgoal
        have hca : ∀ W, Below w.heap.size w W → W.cell? ⟨ba, oa + k * 3, none⟩ = some (.bool (A k).n) ∧ W.cell? ⟨ba, oa + k * 3 + 1, none⟩ = some (.string (A k).s) ∧ W.cell? ⟨ba, oa + k * 3 + 2, none⟩ = some (.string (A k).d) := fun W h => (ra.below h la).r3 hlt
        have HCA := Lib.hid hca
        clear J1 J2 rv' ra hlq hlf hsf hX hgoal hca
        generalize hF2 : flo V A (k + 1) = F2 at *
        have HF2 := Lib.hid hF2
        clear hF2
        unfold V8.v at HL
        generalize flo V A k = F1 at *
        generalize rn F1 = g1 at *
        generalize rs F1 = g2 at *
        generalize rd F1 = g3 at *
        generalize hlr : leastR (V k) (A k) = LR at *
        generalize LR.n = l1 at *
        generalize LR.s = l2 at *
        generalize LR.d = l3 at *
        clear hlr
        generalize hvk : V k = vk at *
        generalize hak : A k = ak at *
        generalize vk.p = vp at *
        generalize vk.a.n = an at *
        generalize vk.a.s = as' at *
        generalize vk.a.d = ad at *
        generalize vk.k.n = kn at *
        generalize vk.k.s = ks at *
        generalize vk.k.d = kd at *
        generalize vk.x = vx at *
        generalize ak.n = xn at *
        generalize ak.s = xs at *
        generalize ak.d = xd at *
        clear hvk hak
        have i1 : (0 : Int) ≤ (k : Int) := by omega
        have i2 : (k : Int) < (m : Int) := by omega
        generalize rn F2 = n1 at *
        generalize rs F2 = n2 at *
        generalize rd F2 = n3 at *
        clear HM HI HFV HFA HV0 HA0
        go_wp2_with fail
        refine wp_forget (fun W => Blk W w3.heap.size #[.bool g1, .string g2, .string g3] ∧ Blk W wr.heap.size #[.int .i64 vp, .bool an, .string as', .string ad, .bool kn, .string ks, .string kd, .bool vx] ∧ Blk W w.heap.size #[.bool false, .string ⟨#[]⟩, .string ⟨#[]⟩] ∧ Below w.heap.size w W)
          ⟨JK.out.alloc _, Blk.new wr _ _, HJ1.out.alloc _, HB4.out.alloc (by omega) _⟩ ?_
        rintro W ⟨H1, H2, H3, HBW⟩
        obtain ⟨q0, q1, q2⟩ := HCA.out W HBW
        obtain ⟨k0, k1, k2⟩ := H1.later3
        have k3 := cell_regrown (H2.cell 0)
        have k4 := cell_regrown (H2.cell 1)
        have k5 := cell_regrown (H2.cell 2)
        have k6 := cell_regrown (H2.cell 3)
        have k7 := cell_regrown (H2.cell 4)
        have k8 := cell_regrown (H2.cell 5)
        have k9 := cell_regrown (H2.cell 6)
        have k10 := cell_regrown (H2.cell 7)
        have k11 := cell_regrown q0
        have k12 := cell_regrown q1
        have k13 := cell_regrown q2
        clear q0 q1 q2 v0 v1 v2 v3 v4 v5 v6 v7
        refine wp_region_qbt 8 (by kernel_rfl) (by kernel_rfl) ?_
        simp only [List.take_succ_cons, List.take_zero, List.drop_succ_cons, List.drop_zero]
        repeat (first | go_big_quiet_skip | quiet_step (first | with_reducible exact Calls.later (HL.out _) | with_reducible exact Calls.later (HX.out _)))
        clear k0 k1 k2 k3 k4 k5 k6 k7 k8 k9 k10 k11 k12 k13
        refine wpQuiet_nil ?_
        intro W1 hb1
        have J1 := Lib.hid (H1.on hb1)
        have J3 := Lib.hid (H3.on hb1)
        have JB := Lib.hid (chain HBW hb1 (Nat.le_refl _))
        obtain ⟨a0, a1, a2, a3, a4, a5⟩ := J1.out.get3
        clear hb1 H1 H2 H3 HBW hbel
        go_wp2
        go_roundw
        case rel => exact ⟨k + 1, by go_num, by omega, J3.out.set3Other (by omega) _ _ _, by rw [HF2.out]; exact HGO.out _ (Blk.set3 J1.out _ _ _), below_set3 JB.out (by omega) _ _ _⟩
        case measure => simp [intOf]; omega
      · obtain rfl : k = m := by omega
        have H1 : Blk wr w3.heap.size #[.bool (rn (flo V A k)), .string (rs (flo V A k)), .string (rd (flo V A k))] := J2
        have H3 := Lib.hid J1
        clear J2 J1 HV0 HA0 HFV HFA
        have hnl : decide ((k : Int) < (k : Int)) = false := by simp
        generalize flo V A k = F at *
        generalize rn F = g1 at *
        generalize rs F = g2 at *
        generalize rd F = g3 at *
        obtain ⟨k0, k1, k2⟩ := H1.later3
        go_wp2
        refine wp_region_qbt 3 (by kernel_rfl) (by kernel_rfl) ?_
        simp only [List.take_succ_cons, List.take_zero, List.drop_succ_cons, List.drop_zero]
        repeat (first | go_big_quiet_skip | quiet_step (first | with_reducible exact Calls.later (HI.out _) | with_reducible exact Calls.later (HM.out _)))
        clear k0 k1 k2
        refine wpQuiet_nil ?_
        intro W1 hb1
        have H2 := Lib.hid (H3.out.on hb1)
        have HB := Lib.hid (chain HB4.out hb1 (Nat.le_refl _))
        obtain ⟨a0, a1, a2, a3, a4, a5⟩ := H2.out.get3
        clear hb1 H1 H3 hbel
        go_wp2
        refine bodyPost_forget (fun W => Blk W w.heap.size #[.bool t1, .string t2, .string t3] ∧ Below w.heap.size w W) ⟨by exact Blk.set3 H2.out _ _ _, below_set3 HB.out (by omega) _ _ _⟩ ?_
        rintro WR ⟨hr9, hb9⟩
        obtain ⟨y90, y91, y92, -, -, -⟩ := hr9.get3
        exact bodyPost_ret (v := .tuple #[.agg #[.bool t1, .string t2, .string t3], .int .i64 0]) (by simp [results, Tryz.results11, go_sem, y90, y91, y92]) rfl ⟨rfl, hb9⟩
  · have hq : flQ n m V A = 0 := by unfold flQ; rw [if_neg hc]
    rw [hq]
    unfold rv
    rw [rn_zero, rs_zero, rd_zero]
    have h1 : (chk n m V A == 0) = false := by simp [hc]
    generalize chk n m V A = c at *
    clear fV fA hV hA hq
    go_enter Tryz.func11, Tryz.ntmps11
    go_wp2_with fail
    refine (HC.out _ HV.out HA.out).mono ?_
    rintro e w3 ⟨rfl, hb3⟩
    obtain ⟨H1, HB⟩ := boxes1 hb3
    obtain ⟨a0, a1, a2, a3, a4, a5⟩ := H1.get3
    have H2 := Lib.hid H1
    have HB := Lib.hid HB
    clear hb3 H1
    go_wp2
    refine bodyPost_forget (fun W => Blk W w.heap.size #[.bool false, .string ⟨#[]⟩, .string ⟨#[]⟩] ∧ Below w.heap.size w W) ⟨by exact Blk.set3 H2.out _ _ _, below_set3 HB.out (by omega) _ _ _⟩ ?_
    rintro WR ⟨hr9, hb9⟩
    obtain ⟨y90, y91, y92, -, -, -⟩ := hr9.get3
    exact bodyPost_ret (v := .tuple #[.agg #[.bool false, .string ⟨#[]⟩, .string ⟨#[]⟩], .int .i64 c]) (by simp [results, Tryz.results11, go_sem, y90, y91, y92]) rfl ⟨rfl, hb9⟩
end Go.Proofs.Ins
