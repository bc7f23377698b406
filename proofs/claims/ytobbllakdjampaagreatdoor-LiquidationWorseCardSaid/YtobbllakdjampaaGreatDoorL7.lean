/- The walk of insolvencyref29.Floor. -/
import Derived.Test.YtobbllakdjampaaGreatDoorL5
import Derived.Test.YtobbllakdjampaaGreatDoorL6
import Derived.Test.YtobbllakdjampaaGreatDoorSeg
set_option linter.unusedSimpArgs false
set_option linter.unusedVariables false
namespace Go.Proofs.Ins
open Go.RowKit

theorem rat_tri (p q : Rat) : p < q ∨ p = q ∨ q < p := by
  by_cases h : p < q
  · exact .inl h
  · by_cases h2 : q < p
    · exact .inr (.inr h2)
    · exact .inr (.inl (Rat.le_antisymm (Rat.not_lt.mp h2) (Rat.not_lt.mp h)))
theorem rat_asymm {p q : Rat} (h : p < q) : ¬ q < p := Rat.not_lt.mpr (Rat.le_of_lt h)
theorem les_min (p q : Rat) : lesR p q = minR p q := by
  unfold lesR minR
  rcases rat_tri p q with h | rfl | h
  · rw [if_neg (rat_asymm h), cmpR_lt h]; rfl
  · rw [if_neg Rat.lt_irrefl, cmpR_eq]; rfl
  · rw [if_pos h, cmpR_gt h]; rfl
theorem les_min' (p q : Rat) : lesR q p = minR p q := by
  unfold lesR minR
  rcases rat_tri p q with h | rfl | h
  · rw [if_pos h, cmpR_lt h]; rfl
  · rw [if_neg Rat.lt_irrefl, cmpR_eq]; rfl
  · rw [if_neg (rat_asymm h), cmpR_gt h]; rfl
theorem gre_max (p q : Rat) : greR p q = maxR p q := by
  unfold greR maxR
  rcases rat_tri p q with h | rfl | h
  · rw [if_pos h, cmpR_lt h]; rfl
  · rw [if_neg Rat.lt_irrefl, cmpR_eq]; rfl
  · rw [if_neg (rat_asymm h), cmpR_gt h]; rfl

/-- The reference's rate of one voter. -/
def rateQ (v : V8) (x : R3) : Rat := if v.a.q = 0 then (if x.q = 0 then 0 else v.k.q) else lesR v.k.q (x.q / v.a.q)
theorem sg_nonneg {q : Rat} (h : decide (sg q < 0) = false) : ¬ q < 0 := fun h2 => by
  have h0 : q ≠ 0 := fun e => by rw [e] at h2; exact Rat.lt_irrefl h2
  have : sg q = -1 := by unfold sg; rw [if_neg h0, if_pos h2]
  rw [this] at h; simp at h
theorem rate_least (v : V8) (x : R3) (h : negV v = false) : rateQ v x = leastQ v x := by
  rw [leastQ_eq]; unfold rateQ
  rw [les_min']
  have hk : ¬ v.k.q < 0 := sg_nonneg (by unfold negV at h; rw [Bool.or_eq_false_iff] at h; exact h.2)
  by_cases ha : v.a.q = 0
  · rw [if_pos ha, if_pos ha]
  · rw [if_neg ha, if_neg ha]
    by_cases hz : x.q = 0
    · rw [if_pos hz, hz, Rat.div_def, Rat.zero_mul, ← les_min']
      unfold lesR
      by_cases h0 : 0 < v.k.q
      · rw [if_pos h0]
      · rw [if_neg h0]; exact Rat.le_antisymm (Rat.not_lt.mp h0) (Rat.not_lt.mp hk)
    · rw [if_neg hz]

theorem chk_neg {n m : Nat} {V : Nat → V8} {A : Nat → R3} (h : chk n m V A = 0) : ∀ i, i < n → negV (V i) = false := by
  unfold chk at h
  by_cases h1 : 64 < n
  · rw [if_pos h1] at h; cases h
  · rw [if_neg h1] at h
    by_cases h2 : m = n
    · rw [if_neg (by omega)] at h
      by_cases h3 : (anyB (fun i => negV (V i)) n || anyB (fun i => negR (A i)) m) = true
      · rw [if_pos h3] at h; cases h
      · have h4 := Bool.eq_false_iff.mpr h3
        rw [Bool.or_eq_false_iff] at h4
        exact anyB_get h4.1
    · rw [if_pos h2] at h; cases h

set_option maxRecDepth 100000 in
set_option maxHeartbeats 1600000 in
theorem rfloor_any (a1 : Option Addr) (n c1 : Nat) (a2 : Option Addr) (m c2 : Nat) (V : Nat → V8) (A : Nat → R3) (w : World) (hV : SArg w a1 n 8 fun i => (V i).c) (hA : SArg w a2 m 3 fun i => (A i).c)
    (fV : ∀ i, i < n → (V i).fits 1000) (fA : ∀ i, i < m → (A i).fits 1000) (hn : n ≤ 1000000) (hm : m ≤ 1000000) :
    Calls Tryz.prog 13 #[.slice a1 n c1, .slice a2 m c2] w fun e w' => e = .returned (.tuple #[rv (flQ n m V A), .int .i64 (chk n m V A)]) ∧ Below w.heap.size w w' := by
  have HC := Lib.hid (fun w (h1 : SArg w a1 n 8 fun i => (V i).c) (h2 : SArg w a2 m 3 fun i => (A i).c) => rcheck_any a1 n c1 a2 m c2 V A w h1 h2 fV fA (by omega) (by omega))
  have HV := Lib.hid (hV.on ((Below.refl w.heap.size w).alloc (Nat.le_refl _) (.cells #[.bool false, .string ⟨#[]⟩, .string ⟨#[]⟩] 30)))
  have HA := Lib.hid (hA.on ((Below.refl w.heap.size w).alloc (Nat.le_refl _) (.cells #[.bool false, .string ⟨#[]⟩, .string ⟨#[]⟩] 30)))
  have HV0 := Lib.hid hV
  have HA0 := Lib.hid hA
  by_cases hc : chk n m V A = 0
  · have hmn : m = n := by
      unfold chk at hc
      by_cases h1 : 64 < n
      · rw [if_pos h1] at hc; cases hc
      · rw [if_neg h1] at hc
        by_cases h2 : m = n
        · exact h2
        · rw [if_pos h2] at hc; cases hc
    have HNG := Lib.hid (chk_neg hc)
    subst hmn
    have hq : flQ m m V A = minR (flo V A m) 1 := by unfold flQ; rw [if_pos hc]
    rw [hq, hc]
    rw [hc] at HC
    unfold rv
    have hsf := sm_flo (V := V) (A := A) m fV fA
    have h1s : Sm 4002 (1 : Rat) := (show Sm 1 (1 : Rat) from ⟨by decide, by decide⟩).mono (by omega)
    have hM := fun w => rlesser_any (flo V A m) 1 4002 w hsf h1s (by omega)
    rw [les_min] at hM
    have HM := Lib.hid hM
    have HI := Lib.hid (fun w => rone_any w)
    have HFV := Lib.hid fV
    have HFA := Lib.hid fA
    generalize minR (flo V A m) 1 = T at *
    generalize rn T = t1 at *
    generalize rs T = t2 at *
    generalize rd T = t3 at *
    generalize rn 1 = o1 at *
    generalize rs 1 = o2 at *
    generalize rd 1 = o3 at *
    clear hq hsf h1s hM fV fA hV hA hc
    go_enter Tryz.func13, Tryz.ntmps13
    go_wp2_with fail
    refine (HC.out _ HV.out HA.out).mono ?_
    rintro e w3 ⟨rfl, hb3⟩
    obtain ⟨H1, HB⟩ := boxes1 hb3
    have hz3 := H1.lt
    have H1 := Lib.hid (H1.alloc (.cells #[.bool false, .string ⟨#[]⟩, .string ⟨#[]⟩] 30))
    have H2 := Lib.hid (Blk.new w3 #[.bool false, .string ⟨#[]⟩, .string ⟨#[]⟩] 30)
    have HB := Lib.hid (HB.alloc (by omega) (.cells #[.bool false, .string ⟨#[]⟩, .string ⟨#[]⟩] 30))
    clear hb3 HV HA HC
    go_wp2_with fail
    go_loopw [8] (fun i wr => ∃ k : Nat, i = .int .i64 k ∧ k ≤ m ∧ Blk wr w.heap.size #[.bool false, .string ⟨#[]⟩, .string ⟨#[]⟩] ∧ Blk wr w3.heap.size (ofQ (flo V A k)).c.toArray ∧ Below w.heap.size w wr) (fun i _ => m - (intOf i).toNat)
    case atStart => exact ⟨0, rfl, by omega, H1.out, H2.out, HB.out⟩
    case round =>
      obtain ⟨k, rfl, hk, J1, J2, hbel⟩ := hrel
      have HB4 := Lib.hid hbel
      have hzr := J2.lt
      have hzw := hbel.size
      by_cases hlt : k < m
      · skip
        rcases HV0.out with h0 | ⟨bv, ov, rfl, lv, rv'⟩
        · omega
        rcases HA0.out with h0 | ⟨ba, oa, rfl, la, ra⟩
        · omega
        have HCV := Lib.hid (fun W (h : Below w.heap.size w W) => (rv'.below h lv).v8 hlt)
        have HCA := Lib.hid (fun W (h : Below w.heap.size w W) => (ra.below h la).r3 hlt)
        obtain ⟨-, -, -, -, v1, v2, v3, -⟩ := HCV.out wr hbel
        have f1 := HFV.out k hlt
        have f2 := HFA.out k hlt
        have hsf := sm_flo (V := V) (A := A) k (fun i hi => HFV.out i (by omega)) (fun i hi => HFA.out i (by omega))
        have hsk : Sm 4002 (V k).k.q := (sm_r3 f1.2).mono (by omega)
        have hsl := sm_least f1 f2
        have hrl := rate_least (V k) (A k) (HNG.out k hlt)
        have HFX := Lib.hid (fun w => fix_agg (V k).k.n (V k).k.s (V k).k.d w (by have := f1.2.1; omega) (by have := f1.2.2; omega))
        have hD := fun w => rdivideR_any (A k).n (A k).s (A k).d (V k).a.n (V k).a.s (V k).a.d w (by have := f2.1; have := f2.2; omega) (by have := f1.1.1; have := f1.1.2; omega)
        have HS := Lib.hid (fun w => rsign_r3 (A k) w ⟨by have := f2.1; omega, by have := f2.2; omega⟩)
        have hG := fun w => rgreater_any (flo V A k) (leastQ (V k) (A k)) 4002 w hsf hsl (by omega)
        rw [gre_max, show maxR (flo V A k) (leastQ (V k) (A k)) = flo V A (k + 1) from rfl] at hG
        have HG := Lib.hid hG
        have hq1 : rq (A k).n (A k).s (A k).d = (A k).q := rfl
        have hq2 : rq (V k).a.n (V k).a.s (V k).a.d = (V k).a.q := rfl
        have hq3 : rq (V k).k.n (V k).k.s (V k).k.d = (V k).k.q := rfl
        rw [hq1, hq2] at hD
        rw [hq3] at HFX
        unfold rvB at hD
        have JK := Lib.hid (show Blk wr w3.heap.size #[.bool (rn (flo V A k)), .string (rs (flo V A k)), .string (rd (flo V A k))] from J2)
        have HJ1 := Lib.hid J1
        have hgoal : ∀ W, Blk W w3.heap.size #[.bool (rn (flo V A (k + 1))), .string (rs (flo V A (k + 1))), .string (rd (flo V A (k + 1)))] → Blk W w3.heap.size (ofQ (flo V A (k + 1))).c.toArray := fun W h => h
        have HGO := Lib.hid hgoal
        clear J1 J2 rv' ra hgoal hq1 hq2 hq3 hsf hsl hG
        have HSK := Lib.hid hsk
        have i1 : (0 : Int) ≤ (k : Int) := by omega
        have i2 : (k : Int) < (m : Int) := by omega
        clear hsk
        generalize hF2 : flo V A (k + 1) = F2 at *
        have HF2 := Lib.hid hF2
        clear hF2
        generalize flo V A k = F1 at *
        generalize leastQ (V k) (A k) = LQ at *
        by_cases ha : (V k).a.q = 0
        · by_cases hz : (A k).q = 0
          · have hrl2 : LQ = 0 := by rw [← hrl]; unfold rateQ; rw [if_pos ha, if_pos hz]
            have hok : okR (V k).a.q = false := by unfold okR; simp [ha]
            rw [hok] at hD
            have HD := Lib.hid hD
            generalize divR (A k).q (V k).a.q = DQ at *
            rw [hrl2, rn_zero, rs_zero, rd_zero] at HG
            rw [hz, show sg 0 = 0 from rfl] at HS
            generalize (V k).k.q = KQ at *
            clear hD hok hrl2 hrl ha hz HSK f1 f2 HM HI HFV HFA HV0 HA0 HNG
            generalize rn F2 = n1 at *
            generalize rs F2 = n2 at *
            generalize rd F2 = n3 at *
            generalize rn F1 = g1 at *
            generalize rs F1 = g2 at *
            generalize rd F1 = g3 at *
            skip
            generalize rn KQ = r1 at *
            generalize rs KQ = r2 at *
            generalize rd KQ = r3 at *
            generalize rn DQ = d1 at *
            generalize rs DQ = d2 at *
            generalize rd DQ = d3 at *
            generalize (V k).a.n = an at *
            generalize (V k).a.s = as' at *
            generalize (V k).a.d = ad at *
            generalize (V k).k.n = kn at *
            generalize (V k).k.s = ks at *
            generalize (V k).k.d = kd at *
            generalize (V k).p = vp at *
            generalize (V k).x = vx at *
            generalize (A k).n = xn at *
            generalize (A k).s = xs at *
            generalize (A k).d = xd at *
            go_wp2_with fail
            refine (HFX.out _).mono ?_; rintro e w4 ⟨rfl, hb4⟩
            have HB5 := Lib.hid (chain HB4.out hb4 (Nat.le_refl _))
            have HJK := Lib.hid (JK.out.on hb4)
            have HJ0 := Lib.hid (HJ1.out.on hb4)
            have hz4 := hb4.size
            clear hb4 v1 v2 v3
            go_wp2_with fail
            refine wp_forget (fun W => Blk W w3.heap.size #[.bool g1, .string g2, .string g3] ∧ Blk W w4.heap.size #[.bool r1, .string r2, .string r3] ∧ Blk W w.heap.size #[.bool false, .string ⟨#[]⟩, .string ⟨#[]⟩] ∧ Below w.heap.size w W)
              ⟨HJK.out.alloc _, Blk.new w4 _ _, HJ0.out.alloc _, HB5.out.alloc (by omega) _⟩ ?_
            rintro W ⟨H1, H2, H3, HBW⟩
            obtain ⟨q0, q1, q2⟩ := HCA.out W HBW
            obtain ⟨-, q3, q4, q5, -⟩ := HCV.out W HBW
            have hzW := H2.lt
            have hzw2 := HBW.size
            have k1 := exc_cell (B := W.heap.size) q0 (show ba < W.heap.size by omega)
            have k2 := exc_cell (B := W.heap.size) q1 (show ba < W.heap.size by omega)
            have k3 := exc_cell (B := W.heap.size) q2 (show ba < W.heap.size by omega)
            have k4 := exc_cell (B := W.heap.size) q3 (show bv < W.heap.size by omega)
            have k5 := exc_cell (B := W.heap.size) q4 (show bv < W.heap.size by omega)
            have k6 := exc_cell (B := W.heap.size) q5 (show bv < W.heap.size by omega)
            clear q0 q1 q2 q3 q4 q5
            refine wp_region_tree (Exc W (fromB W.heap.size)) (.two [0, 1, 2, 3, 4, 5, 6, 7, 8] 9 13 (.one [10, 11, 12] 13 (.one [] 14 (.fin [15]))) (.one [] 9 (.one [10, 11, 12] 14 (.fin [15])))) (by kernel_rfl) (by kernel_rfl) (by kernel_rfl) (by kernel_rfl) (exc_below (Below.refl _ _).drew) ?_
            refine wpTree_two ?_
            simp only [getOps, List.filterMap_cons, List.filterMap_nil, List.getElem?_cons_zero, List.getElem?_cons_succ]
            repeat (first | go_big_quiet_skip | (refine wpQuiet_step (fun K hK => ?_); go_simp; (try simp (disch := omega) only [IntWalk.i64_in, IntWalk.u64_in, IntWalk.u32_in, IntWalk.u16_in, IntWalk.u8_in, Int.tmod_eq_emod_of_nonneg, Int.tdiv_eq_ediv_of_nonneg]); (first | (refine hK _ ?_; clear hK K) | (simp (disch := omega) only [if_pos, dif_pos, if_neg, dif_neg, IntWalk.i64_in, IntWalk.u64_in, IntWalk.u32_in, IntWalk.u16_in, IntWalk.u8_in, Int.tmod_eq_emod_of_nonneg, Int.tdiv_eq_ediv_of_nonneg]; go_simp; refine hK _ ?_; clear hK K))))
            refine wpQuiet_nil ?_
            refine ⟨?_, ?_⟩
            · go_step
              rename_i K9 hK9
              refine (HD.out _).mono ?_; rintro e w5 ⟨rfl, hb5⟩
              have hb5' : Below W.heap.size W w5 := chain (Below.refl W.heap.size W).drew hb5 (Nat.le_refl _)
              have H1 := Lib.hid (H1.on hb5')
              have H2 := Lib.hid (H2.on hb5')
              have H3 := Lib.hid (H3.on hb5')
              have HW5 := Lib.hid hb5'
              have HBW := Lib.hid (chain HBW hb5' (by omega))
              have hz5 := hb5'.size
              clear hb5 hb5' k1 k2 k3 k4 k5 k6
              refine hK9 _ _ ?_
              clear hK9 K9
              refine segQ_normal (And.intro (exc_below HW5.out) ?_)
              refine wpTree_one ?_
              simp only [getOps, List.filterMap_cons, List.filterMap_nil, List.getElem?_cons_zero, List.getElem?_cons_succ]
              repeat (first | go_big_quiet_skip | (refine wpQuiet_step (fun K hK => ?_); go_simp; (try simp (disch := omega) only [IntWalk.i64_in, IntWalk.u64_in, IntWalk.u32_in, IntWalk.u16_in, IntWalk.u8_in, Int.tmod_eq_emod_of_nonneg, Int.tdiv_eq_ediv_of_nonneg]); (first | (refine hK _ ?_; clear hK K) | (simp (disch := omega) only [if_pos, dif_pos, if_neg, dif_neg, IntWalk.i64_in, IntWalk.u64_in, IntWalk.u32_in, IntWalk.u16_in, IntWalk.u8_in, Int.tmod_eq_emod_of_nonneg, Int.tdiv_eq_ediv_of_nonneg]; go_simp; refine hK _ ?_; clear hK K))))
              refine wpQuiet_nil ?_
              go_step
              rename_i K9 hK9
              refine hK9 _ _ ?_
              clear hK9 K9
              refine segQ_normal (And.intro (exc_below (HW5.out.alloc (by omega) _)) ?_)
              refine wpTree_one ?_
              simp only [getOps, List.filterMap_cons, List.filterMap_nil, List.getElem?_cons_zero, List.getElem?_cons_succ]
              repeat (first | go_big_quiet_skip | (refine wpQuiet_step (fun K hK => ?_); go_simp; (try simp (disch := omega) only [IntWalk.i64_in, IntWalk.u64_in, IntWalk.u32_in, IntWalk.u16_in, IntWalk.u8_in, Int.tmod_eq_emod_of_nonneg, Int.tdiv_eq_ediv_of_nonneg]); (first | (refine hK _ ?_; clear hK K) | (simp (disch := omega) only [if_pos, dif_pos, if_neg, dif_neg, IntWalk.i64_in, IntWalk.u64_in, IntWalk.u32_in, IntWalk.u16_in, IntWalk.u8_in, Int.tmod_eq_emod_of_nonneg, Int.tdiv_eq_ediv_of_nonneg]; go_simp; refine hK _ ?_; clear hK K))))
              refine wpQuiet_nil ?_
              go_step
              rename_i K9 hK9
              refine hK9 _ _ ?_
              clear hK9 K9
              refine segQ_normal (And.intro (exc_below (HW5.out.alloc (by omega) _)) ?_)
              have HFIN := Lib.hid (And.intro (Blk.new w5 #[.bool d1, .string d2, .string d3] 30) (And.intro (H2.out.alloc (.cells #[.bool d1, .string d2, .string d3] 30)) (And.intro (H1.out.alloc (.cells #[.bool d1, .string d2, .string d3] 30)) (And.intro (H3.out.alloc (.cells #[.bool d1, .string d2, .string d3] 30)) (HBW.out.alloc (by omega) (.cells #[.bool d1, .string d2, .string d3] 30))))))
              refine wpTree_fin ?_
              simp only [getOps, List.filterMap_cons, List.filterMap_nil, List.getElem?_cons_zero, List.getElem?_cons_succ]
              repeat (first | go_big_quiet_skip | (refine wpQuiet_step (fun K hK => ?_); go_simp; (try simp (disch := omega) only [IntWalk.i64_in, IntWalk.u64_in, IntWalk.u32_in, IntWalk.u16_in, IntWalk.u8_in, Int.tmod_eq_emod_of_nonneg, Int.tdiv_eq_ediv_of_nonneg]); (first | (refine hK _ ?_; clear hK K) | (simp (disch := omega) only [if_pos, dif_pos, if_neg, dif_neg, IntWalk.i64_in, IntWalk.u64_in, IntWalk.u32_in, IntWalk.u16_in, IntWalk.u8_in, Int.tmod_eq_emod_of_nonneg, Int.tdiv_eq_ediv_of_nonneg]; go_simp; refine hK _ ?_; clear hK K))))
              refine wpQuiet_nil ?_
              have hp10 : w4.heap.size < w5.heap.size := by omega
              refine exit_forget (fun W' => Blk W' w5.heap.size #[.bool d1, .string d2, .string d3] ∧ Blk W' w4.heap.size #[.bool r1, .string r2, .string r3] ∧ Blk W' w3.heap.size #[.bool g1, .string g2, .string g3] ∧ Blk W' w.heap.size #[.bool false, .string ⟨#[]⟩, .string ⟨#[]⟩] ∧ Below w.heap.size w W') HFIN.out ?_
              rintro W8 ⟨E1, E2, E3, E4, E5⟩
              have E3 := Lib.hid E3
              have E4 := Lib.hid E4
              have E5 := Lib.hid E5
              obtain ⟨a0, a1, a2, -, -, -⟩ := E1.get3
              obtain ⟨b0, b1, b2, -, -, -⟩ := E2.get3
              have HX8 := Lib.hid (HCA.out _ E5.out)
              obtain ⟨x0, x1, x2⟩ := HX8.out
              clear HFIN E1 HX8
              generalize w5.heap.size = p10 at *
              go_wp2_with fail
              refine (HS.out _).mono ?_; rintro e w9 ⟨rfl, hb9⟩
              have E2 := Lib.hid (E2.on hb9)
              have E3 := Lib.hid (E3.out.on hb9)
              have E4 := Lib.hid (E4.out.on hb9)
              have hz9 := E5.out.size
              have E5 := Lib.hid (chain E5.out hb9 (Nat.le_refl _))
              clear hb9 a0 a1 a2 b0 b1 b2 x0 x1 x2
              obtain ⟨b0, b1, b2, b3, b4, b5⟩ := E2.out.get3
              obtain ⟨a0, a1, a2, -, -, -⟩ := E3.out.get3
              have G2 := Lib.hid (E2.out.set3 (.bool false) (.string ⟨#[]⟩) (.string ⟨#[]⟩))
              have G3 := Lib.hid (E3.out.set3Other (show w3.heap.size ≠ w4.heap.size by omega) (.bool false) (.string ⟨#[]⟩) (.string ⟨#[]⟩))
              have G4 := Lib.hid (E4.out.set3Other (show w.heap.size ≠ w4.heap.size by omega) (.bool false) (.string ⟨#[]⟩) (.string ⟨#[]⟩))
              have G5 := Lib.hid (below_set3 E5.out (show w.heap.size ≤ w4.heap.size by omega) (.bool false) (.string ⟨#[]⟩) (.string ⟨#[]⟩))
              obtain ⟨y0, y1, y2, -, -, -⟩ := G2.out.get3
              obtain ⟨z0, z1, z2, -, -, -⟩ := G3.out.get3
              go_wp2_with fail
              refine (HG.out _).mono ?_; rintro e w10 ⟨rfl, hb10⟩
              have G3 := Lib.hid (G3.out.on hb10)
              have G4 := Lib.hid (G4.out.on hb10)
              have G5 := Lib.hid (chain G5.out hb10 (Nat.le_refl _))
              clear hb10 y0 y1 y2 z0 z1 z2 G2
              clear a0 a1 a2 b0 b1 b2 b3 b4 b5
              obtain ⟨a0, a1, a2, a3, a4, a5⟩ := G3.out.get3
              go_wp2
              go_roundw
              case rel => exact ⟨k + 1, by go_num, by omega, G4.out.set3Other (by omega) _ _ _, by rw [HF2.out]; exact HGO.out _ (Blk.set3 G3.out _ _ _), below_set3 G5.out (by omega) _ _ _⟩
              case measure => simp [intOf]; omega
            · go_step
              rename_i K9 hK9
              refine hK9 _ _ ?_
              clear hK9 K9
              have hb6 : Below W.heap.size W (W.drew.alloc (.cells #[.bool false, .string ⟨#[]⟩, .string ⟨#[]⟩] 30)) := (Below.refl W.heap.size W).drew.alloc (Nat.le_refl _) _
              refine segQ_normal (And.intro (exc_below hb6) ?_)
              refine wpTree_one ?_
              simp only [getOps, List.filterMap_cons, List.filterMap_nil, List.getElem?_cons_zero, List.getElem?_cons_succ]
              repeat (first | go_big_quiet_skip | (refine wpQuiet_step (fun K hK => ?_); go_simp; (try simp (disch := omega) only [IntWalk.i64_in, IntWalk.u64_in, IntWalk.u32_in, IntWalk.u16_in, IntWalk.u8_in, Int.tmod_eq_emod_of_nonneg, Int.tdiv_eq_ediv_of_nonneg]); (first | (refine hK _ ?_; clear hK K) | (simp (disch := omega) only [if_pos, dif_pos, if_neg, dif_neg, IntWalk.i64_in, IntWalk.u64_in, IntWalk.u32_in, IntWalk.u16_in, IntWalk.u8_in, Int.tmod_eq_emod_of_nonneg, Int.tdiv_eq_ediv_of_nonneg]; go_simp; refine hK _ ?_; clear hK K))))
              refine wpQuiet_nil ?_
              go_step
              rename_i K9 hK9
              refine (HD.out _).mono ?_; rintro e w5 ⟨rfl, hb5⟩
              have hb5' : Below W.heap.size W w5 := chain hb6 hb5 (Nat.le_refl _)
              have H0 : Hid (Blk w5 W.heap.size #[.bool false, .string ⟨#[]⟩, .string ⟨#[]⟩]) := (Blk.new W.drew #[.bool false, .string ⟨#[]⟩, .string ⟨#[]⟩] 30).on hb5
              have H1 := Lib.hid (H1.on hb5')
              have H2 := Lib.hid (H2.on hb5')
              have H3 := Lib.hid (H3.on hb5')
              have HW5 := Lib.hid hb5'
              have HBW := Lib.hid (chain HBW hb5' (by omega))
              have hz5 := hb5'.size
              clear hb5 hb5' hb6 k1 k2 k3 k4 k5 k6
              refine hK9 _ _ ?_
              clear hK9 K9
              refine segQ_normal (And.intro (exc_below HW5.out) ?_)
              refine wpTree_one ?_
              simp only [getOps, List.filterMap_cons, List.filterMap_nil, List.getElem?_cons_zero, List.getElem?_cons_succ]
              repeat (first | go_big_quiet_skip | (refine wpQuiet_step (fun K hK => ?_); go_simp; (try simp (disch := omega) only [IntWalk.i64_in, IntWalk.u64_in, IntWalk.u32_in, IntWalk.u16_in, IntWalk.u8_in, Int.tmod_eq_emod_of_nonneg, Int.tdiv_eq_ediv_of_nonneg]); (first | (refine hK _ ?_; clear hK K) | (simp (disch := omega) only [if_pos, dif_pos, if_neg, dif_neg, IntWalk.i64_in, IntWalk.u64_in, IntWalk.u32_in, IntWalk.u16_in, IntWalk.u8_in, Int.tmod_eq_emod_of_nonneg, Int.tdiv_eq_ediv_of_nonneg]; go_simp; refine hK _ ?_; clear hK K))))
              refine wpQuiet_nil ?_
              obtain ⟨c0, c1', c2', c3, c4, c5⟩ := H0.out.get3
              go_step
              rename_i K9 hK9
              refine hK9 _ _ ?_
              clear hK9 K9 c0 c1' c2' c3 c4 c5
              refine segQ_normal (And.intro (exc_below (below_set3 HW5.out (Nat.le_refl _) _ _ _)) ?_)
              have HFIN := Lib.hid (And.intro (Blk.set3 H0.out (.bool d1) (.string d2) (.string d3)) (And.intro (H2.out.set3Other (show w4.heap.size ≠ W.heap.size by omega) (.bool d1) (.string d2) (.string d3)) (And.intro (H1.out.set3Other (show w3.heap.size ≠ W.heap.size by omega) (.bool d1) (.string d2) (.string d3)) (And.intro (H3.out.set3Other (show w.heap.size ≠ W.heap.size by omega) (.bool d1) (.string d2) (.string d3)) (below_set3 HBW.out (show w.heap.size ≤ W.heap.size by omega) (.bool d1) (.string d2) (.string d3))))))
              refine wpTree_fin ?_
              simp only [getOps, List.filterMap_cons, List.filterMap_nil, List.getElem?_cons_zero, List.getElem?_cons_succ]
              repeat (first | go_big_quiet_skip | (refine wpQuiet_step (fun K hK => ?_); go_simp; (try simp (disch := omega) only [IntWalk.i64_in, IntWalk.u64_in, IntWalk.u32_in, IntWalk.u16_in, IntWalk.u8_in, Int.tmod_eq_emod_of_nonneg, Int.tdiv_eq_ediv_of_nonneg]); (first | (refine hK _ ?_; clear hK K) | (simp (disch := omega) only [if_pos, dif_pos, if_neg, dif_neg, IntWalk.i64_in, IntWalk.u64_in, IntWalk.u32_in, IntWalk.u16_in, IntWalk.u8_in, Int.tmod_eq_emod_of_nonneg, Int.tdiv_eq_ediv_of_nonneg]; go_simp; refine hK _ ?_; clear hK K))))
              refine wpQuiet_nil ?_
              have hp10 : w4.heap.size < W.heap.size := by omega
              refine exit_forget (fun W' => Blk W' W.heap.size #[.bool d1, .string d2, .string d3] ∧ Blk W' w4.heap.size #[.bool r1, .string r2, .string r3] ∧ Blk W' w3.heap.size #[.bool g1, .string g2, .string g3] ∧ Blk W' w.heap.size #[.bool false, .string ⟨#[]⟩, .string ⟨#[]⟩] ∧ Below w.heap.size w W') HFIN.out ?_
              rintro W8 ⟨E1, E2, E3, E4, E5⟩
              have E3 := Lib.hid E3
              have E4 := Lib.hid E4
              have E5 := Lib.hid E5
              obtain ⟨a0, a1, a2, -, -, -⟩ := E1.get3
              obtain ⟨b0, b1, b2, -, -, -⟩ := E2.get3
              have HX8 := Lib.hid (HCA.out _ E5.out)
              obtain ⟨x0, x1, x2⟩ := HX8.out
              clear HFIN E1 HX8
              generalize W.heap.size = p10 at *
              go_wp2_with fail
              refine (HS.out _).mono ?_; rintro e w9 ⟨rfl, hb9⟩
              have E2 := Lib.hid (E2.on hb9)
              have E3 := Lib.hid (E3.out.on hb9)
              have E4 := Lib.hid (E4.out.on hb9)
              have hz9 := E5.out.size
              have E5 := Lib.hid (chain E5.out hb9 (Nat.le_refl _))
              clear hb9 a0 a1 a2 b0 b1 b2 x0 x1 x2
              obtain ⟨b0, b1, b2, b3, b4, b5⟩ := E2.out.get3
              obtain ⟨a0, a1, a2, -, -, -⟩ := E3.out.get3
              have G2 := Lib.hid (E2.out.set3 (.bool false) (.string ⟨#[]⟩) (.string ⟨#[]⟩))
              have G3 := Lib.hid (E3.out.set3Other (show w3.heap.size ≠ w4.heap.size by omega) (.bool false) (.string ⟨#[]⟩) (.string ⟨#[]⟩))
              have G4 := Lib.hid (E4.out.set3Other (show w.heap.size ≠ w4.heap.size by omega) (.bool false) (.string ⟨#[]⟩) (.string ⟨#[]⟩))
              have G5 := Lib.hid (below_set3 E5.out (show w.heap.size ≤ w4.heap.size by omega) (.bool false) (.string ⟨#[]⟩) (.string ⟨#[]⟩))
              obtain ⟨y0, y1, y2, -, -, -⟩ := G2.out.get3
              obtain ⟨z0, z1, z2, -, -, -⟩ := G3.out.get3
              go_wp2_with fail
              refine (HG.out _).mono ?_; rintro e w10 ⟨rfl, hb10⟩
              have G3 := Lib.hid (G3.out.on hb10)
              have G4 := Lib.hid (G4.out.on hb10)
              have G5 := Lib.hid (chain G5.out hb10 (Nat.le_refl _))
              clear hb10 y0 y1 y2 z0 z1 z2 G2
              clear a0 a1 a2 b0 b1 b2 b3 b4 b5
              obtain ⟨a0, a1, a2, a3, a4, a5⟩ := G3.out.get3
              go_wp2
              go_roundw
              case rel => exact ⟨k + 1, by go_num, by omega, G4.out.set3Other (by omega) _ _ _, by rw [HF2.out]; exact HGO.out _ (Blk.set3 G3.out _ _ _), below_set3 G5.out (by omega) _ _ _⟩
              case measure => simp [intOf]; omega
          · have hrl2 : LQ = (V k).k.q := by rw [← hrl]; unfold rateQ; rw [if_pos ha, if_neg hz]
            have hok : okR (V k).a.q = false := by unfold okR; simp [ha]
            rw [hok] at hD
            have HD := Lib.hid hD
            generalize divR (A k).q (V k).a.q = DQ at *
            rw [hrl2] at HG
            have h2 : (sg (A k).q == 0) = false := by simp [sg_eq_zero, hz]
            have h2' : ¬ sg (A k).q = 0 := by simp [sg_eq_zero, hz]
            generalize sg (A k).q = sx at *
            generalize (V k).k.q = KQ at *
            clear hD hok hrl2 hrl ha hz HSK f1 f2 HM HI HFV HFA HV0 HA0 HNG
            generalize rn F2 = n1 at *
            generalize rs F2 = n2 at *
            generalize rd F2 = n3 at *
            generalize rn F1 = g1 at *
            generalize rs F1 = g2 at *
            generalize rd F1 = g3 at *
            skip
            generalize rn KQ = r1 at *
            generalize rs KQ = r2 at *
            generalize rd KQ = r3 at *
            generalize rn DQ = d1 at *
            generalize rs DQ = d2 at *
            generalize rd DQ = d3 at *
            generalize (V k).a.n = an at *
            generalize (V k).a.s = as' at *
            generalize (V k).a.d = ad at *
            generalize (V k).k.n = kn at *
            generalize (V k).k.s = ks at *
            generalize (V k).k.d = kd at *
            generalize (V k).p = vp at *
            generalize (V k).x = vx at *
            generalize (A k).n = xn at *
            generalize (A k).s = xs at *
            generalize (A k).d = xd at *
            go_wp2_with fail
            refine (HFX.out _).mono ?_; rintro e w4 ⟨rfl, hb4⟩
            have HB5 := Lib.hid (chain HB4.out hb4 (Nat.le_refl _))
            have HJK := Lib.hid (JK.out.on hb4)
            have HJ0 := Lib.hid (HJ1.out.on hb4)
            have hz4 := hb4.size
            clear hb4 v1 v2 v3
            go_wp2_with fail
            refine wp_forget (fun W => Blk W w3.heap.size #[.bool g1, .string g2, .string g3] ∧ Blk W w4.heap.size #[.bool r1, .string r2, .string r3] ∧ Blk W w.heap.size #[.bool false, .string ⟨#[]⟩, .string ⟨#[]⟩] ∧ Below w.heap.size w W)
              ⟨HJK.out.alloc _, Blk.new w4 _ _, HJ0.out.alloc _, HB5.out.alloc (by omega) _⟩ ?_
            rintro W ⟨H1, H2, H3, HBW⟩
            obtain ⟨q0, q1, q2⟩ := HCA.out W HBW
            obtain ⟨-, q3, q4, q5, -⟩ := HCV.out W HBW
            have hzW := H2.lt
            have hzw2 := HBW.size
            have k1 := exc_cell (B := W.heap.size) q0 (show ba < W.heap.size by omega)
            have k2 := exc_cell (B := W.heap.size) q1 (show ba < W.heap.size by omega)
            have k3 := exc_cell (B := W.heap.size) q2 (show ba < W.heap.size by omega)
            have k4 := exc_cell (B := W.heap.size) q3 (show bv < W.heap.size by omega)
            have k5 := exc_cell (B := W.heap.size) q4 (show bv < W.heap.size by omega)
            have k6 := exc_cell (B := W.heap.size) q5 (show bv < W.heap.size by omega)
            clear q0 q1 q2 q3 q4 q5
            refine wp_region_tree (Exc W (fromB W.heap.size)) (.two [0, 1, 2, 3, 4, 5, 6, 7, 8] 9 13 (.one [10, 11, 12] 13 (.one [] 14 (.fin [15]))) (.one [] 9 (.one [10, 11, 12] 14 (.fin [15])))) (by kernel_rfl) (by kernel_rfl) (by kernel_rfl) (by kernel_rfl) (exc_below (Below.refl _ _).drew) ?_
            refine wpTree_two ?_
            simp only [getOps, List.filterMap_cons, List.filterMap_nil, List.getElem?_cons_zero, List.getElem?_cons_succ]
            repeat (first | go_big_quiet_skip | (refine wpQuiet_step (fun K hK => ?_); go_simp; (try simp (disch := omega) only [IntWalk.i64_in, IntWalk.u64_in, IntWalk.u32_in, IntWalk.u16_in, IntWalk.u8_in, Int.tmod_eq_emod_of_nonneg, Int.tdiv_eq_ediv_of_nonneg]); (first | (refine hK _ ?_; clear hK K) | (simp (disch := omega) only [if_pos, dif_pos, if_neg, dif_neg, IntWalk.i64_in, IntWalk.u64_in, IntWalk.u32_in, IntWalk.u16_in, IntWalk.u8_in, Int.tmod_eq_emod_of_nonneg, Int.tdiv_eq_ediv_of_nonneg]; go_simp; refine hK _ ?_; clear hK K))))
            refine wpQuiet_nil ?_
            refine ⟨?_, ?_⟩
            · go_step
              rename_i K9 hK9
              refine (HD.out _).mono ?_; rintro e w5 ⟨rfl, hb5⟩
              have hb5' : Below W.heap.size W w5 := chain (Below.refl W.heap.size W).drew hb5 (Nat.le_refl _)
              have H1 := Lib.hid (H1.on hb5')
              have H2 := Lib.hid (H2.on hb5')
              have H3 := Lib.hid (H3.on hb5')
              have HW5 := Lib.hid hb5'
              have HBW := Lib.hid (chain HBW hb5' (by omega))
              have hz5 := hb5'.size
              clear hb5 hb5' k1 k2 k3 k4 k5 k6
              refine hK9 _ _ ?_
              clear hK9 K9
              refine segQ_normal (And.intro (exc_below HW5.out) ?_)
              refine wpTree_one ?_
              simp only [getOps, List.filterMap_cons, List.filterMap_nil, List.getElem?_cons_zero, List.getElem?_cons_succ]
              repeat (first | go_big_quiet_skip | (refine wpQuiet_step (fun K hK => ?_); go_simp; (try simp (disch := omega) only [IntWalk.i64_in, IntWalk.u64_in, IntWalk.u32_in, IntWalk.u16_in, IntWalk.u8_in, Int.tmod_eq_emod_of_nonneg, Int.tdiv_eq_ediv_of_nonneg]); (first | (refine hK _ ?_; clear hK K) | (simp (disch := omega) only [if_pos, dif_pos, if_neg, dif_neg, IntWalk.i64_in, IntWalk.u64_in, IntWalk.u32_in, IntWalk.u16_in, IntWalk.u8_in, Int.tmod_eq_emod_of_nonneg, Int.tdiv_eq_ediv_of_nonneg]; go_simp; refine hK _ ?_; clear hK K))))
              refine wpQuiet_nil ?_
              go_step
              rename_i K9 hK9
              refine hK9 _ _ ?_
              clear hK9 K9
              refine segQ_normal (And.intro (exc_below (HW5.out.alloc (by omega) _)) ?_)
              refine wpTree_one ?_
              simp only [getOps, List.filterMap_cons, List.filterMap_nil, List.getElem?_cons_zero, List.getElem?_cons_succ]
              repeat (first | go_big_quiet_skip | (refine wpQuiet_step (fun K hK => ?_); go_simp; (try simp (disch := omega) only [IntWalk.i64_in, IntWalk.u64_in, IntWalk.u32_in, IntWalk.u16_in, IntWalk.u8_in, Int.tmod_eq_emod_of_nonneg, Int.tdiv_eq_ediv_of_nonneg]); (first | (refine hK _ ?_; clear hK K) | (simp (disch := omega) only [if_pos, dif_pos, if_neg, dif_neg, IntWalk.i64_in, IntWalk.u64_in, IntWalk.u32_in, IntWalk.u16_in, IntWalk.u8_in, Int.tmod_eq_emod_of_nonneg, Int.tdiv_eq_ediv_of_nonneg]; go_simp; refine hK _ ?_; clear hK K))))
              refine wpQuiet_nil ?_
              go_step
              rename_i K9 hK9
              refine hK9 _ _ ?_
              clear hK9 K9
              refine segQ_normal (And.intro (exc_below (HW5.out.alloc (by omega) _)) ?_)
              have HFIN := Lib.hid (And.intro (Blk.new w5 #[.bool d1, .string d2, .string d3] 30) (And.intro (H2.out.alloc (.cells #[.bool d1, .string d2, .string d3] 30)) (And.intro (H1.out.alloc (.cells #[.bool d1, .string d2, .string d3] 30)) (And.intro (H3.out.alloc (.cells #[.bool d1, .string d2, .string d3] 30)) (HBW.out.alloc (by omega) (.cells #[.bool d1, .string d2, .string d3] 30))))))
              refine wpTree_fin ?_
              simp only [getOps, List.filterMap_cons, List.filterMap_nil, List.getElem?_cons_zero, List.getElem?_cons_succ]
              repeat (first | go_big_quiet_skip | (refine wpQuiet_step (fun K hK => ?_); go_simp; (try simp (disch := omega) only [IntWalk.i64_in, IntWalk.u64_in, IntWalk.u32_in, IntWalk.u16_in, IntWalk.u8_in, Int.tmod_eq_emod_of_nonneg, Int.tdiv_eq_ediv_of_nonneg]); (first | (refine hK _ ?_; clear hK K) | (simp (disch := omega) only [if_pos, dif_pos, if_neg, dif_neg, IntWalk.i64_in, IntWalk.u64_in, IntWalk.u32_in, IntWalk.u16_in, IntWalk.u8_in, Int.tmod_eq_emod_of_nonneg, Int.tdiv_eq_ediv_of_nonneg]; go_simp; refine hK _ ?_; clear hK K))))
              refine wpQuiet_nil ?_
              have hp10 : w4.heap.size < w5.heap.size := by omega
              refine exit_forget (fun W' => Blk W' w5.heap.size #[.bool d1, .string d2, .string d3] ∧ Blk W' w4.heap.size #[.bool r1, .string r2, .string r3] ∧ Blk W' w3.heap.size #[.bool g1, .string g2, .string g3] ∧ Blk W' w.heap.size #[.bool false, .string ⟨#[]⟩, .string ⟨#[]⟩] ∧ Below w.heap.size w W') HFIN.out ?_
              rintro W8 ⟨E1, E2, E3, E4, E5⟩
              have E3 := Lib.hid E3
              have E4 := Lib.hid E4
              have E5 := Lib.hid E5
              obtain ⟨a0, a1, a2, -, -, -⟩ := E1.get3
              obtain ⟨b0, b1, b2, -, -, -⟩ := E2.get3
              have HX8 := Lib.hid (HCA.out _ E5.out)
              obtain ⟨x0, x1, x2⟩ := HX8.out
              clear HFIN E1 HX8
              generalize w5.heap.size = p10 at *
              go_wp2_with fail
              refine (HS.out _).mono ?_; rintro e w9 ⟨rfl, hb9⟩
              have E2 := Lib.hid (E2.on hb9)
              have E3 := Lib.hid (E3.out.on hb9)
              have E4 := Lib.hid (E4.out.on hb9)
              have hz9 := E5.out.size
              have E5 := Lib.hid (chain E5.out hb9 (Nat.le_refl _))
              clear hb9 a0 a1 a2 b0 b1 b2 x0 x1 x2
              obtain ⟨b0, b1, b2, b3, b4, b5⟩ := E2.out.get3
              obtain ⟨a0, a1, a2, -, -, -⟩ := E3.out.get3
              go_wp2_with fail
              refine (HG.out _).mono ?_; rintro e w10 ⟨rfl, hb10⟩
              have G3 := Lib.hid (E3.out.on hb10)
              have G4 := Lib.hid (E4.out.on hb10)
              have G5 := Lib.hid (chain E5.out hb10 (Nat.le_refl _))
              clear hb10
              clear a0 a1 a2 b0 b1 b2 b3 b4 b5
              obtain ⟨a0, a1, a2, a3, a4, a5⟩ := G3.out.get3
              go_wp2
              go_roundw
              case rel => exact ⟨k + 1, by go_num, by omega, G4.out.set3Other (by omega) _ _ _, by rw [HF2.out]; exact HGO.out _ (Blk.set3 G3.out _ _ _), below_set3 G5.out (by omega) _ _ _⟩
              case measure => simp [intOf]; omega
            · go_step
              rename_i K9 hK9
              refine hK9 _ _ ?_
              clear hK9 K9
              have hb6 : Below W.heap.size W (W.drew.alloc (.cells #[.bool false, .string ⟨#[]⟩, .string ⟨#[]⟩] 30)) := (Below.refl W.heap.size W).drew.alloc (Nat.le_refl _) _
              refine segQ_normal (And.intro (exc_below hb6) ?_)
              refine wpTree_one ?_
              simp only [getOps, List.filterMap_cons, List.filterMap_nil, List.getElem?_cons_zero, List.getElem?_cons_succ]
              repeat (first | go_big_quiet_skip | (refine wpQuiet_step (fun K hK => ?_); go_simp; (try simp (disch := omega) only [IntWalk.i64_in, IntWalk.u64_in, IntWalk.u32_in, IntWalk.u16_in, IntWalk.u8_in, Int.tmod_eq_emod_of_nonneg, Int.tdiv_eq_ediv_of_nonneg]); (first | (refine hK _ ?_; clear hK K) | (simp (disch := omega) only [if_pos, dif_pos, if_neg, dif_neg, IntWalk.i64_in, IntWalk.u64_in, IntWalk.u32_in, IntWalk.u16_in, IntWalk.u8_in, Int.tmod_eq_emod_of_nonneg, Int.tdiv_eq_ediv_of_nonneg]; go_simp; refine hK _ ?_; clear hK K))))
              refine wpQuiet_nil ?_
              go_step
              rename_i K9 hK9
              refine (HD.out _).mono ?_; rintro e w5 ⟨rfl, hb5⟩
              have hb5' : Below W.heap.size W w5 := chain hb6 hb5 (Nat.le_refl _)
              have H0 : Hid (Blk w5 W.heap.size #[.bool false, .string ⟨#[]⟩, .string ⟨#[]⟩]) := (Blk.new W.drew #[.bool false, .string ⟨#[]⟩, .string ⟨#[]⟩] 30).on hb5
              have H1 := Lib.hid (H1.on hb5')
              have H2 := Lib.hid (H2.on hb5')
              have H3 := Lib.hid (H3.on hb5')
              have HW5 := Lib.hid hb5'
              have HBW := Lib.hid (chain HBW hb5' (by omega))
              have hz5 := hb5'.size
              clear hb5 hb5' hb6 k1 k2 k3 k4 k5 k6
              refine hK9 _ _ ?_
              clear hK9 K9
              refine segQ_normal (And.intro (exc_below HW5.out) ?_)
              refine wpTree_one ?_
              simp only [getOps, List.filterMap_cons, List.filterMap_nil, List.getElem?_cons_zero, List.getElem?_cons_succ]
              repeat (first | go_big_quiet_skip | (refine wpQuiet_step (fun K hK => ?_); go_simp; (try simp (disch := omega) only [IntWalk.i64_in, IntWalk.u64_in, IntWalk.u32_in, IntWalk.u16_in, IntWalk.u8_in, Int.tmod_eq_emod_of_nonneg, Int.tdiv_eq_ediv_of_nonneg]); (first | (refine hK _ ?_; clear hK K) | (simp (disch := omega) only [if_pos, dif_pos, if_neg, dif_neg, IntWalk.i64_in, IntWalk.u64_in, IntWalk.u32_in, IntWalk.u16_in, IntWalk.u8_in, Int.tmod_eq_emod_of_nonneg, Int.tdiv_eq_ediv_of_nonneg]; go_simp; refine hK _ ?_; clear hK K))))
              refine wpQuiet_nil ?_
              obtain ⟨c0, c1', c2', c3, c4, c5⟩ := H0.out.get3
              go_step
              rename_i K9 hK9
              refine hK9 _ _ ?_
              clear hK9 K9 c0 c1' c2' c3 c4 c5
              refine segQ_normal (And.intro (exc_below (below_set3 HW5.out (Nat.le_refl _) _ _ _)) ?_)
              have HFIN := Lib.hid (And.intro (Blk.set3 H0.out (.bool d1) (.string d2) (.string d3)) (And.intro (H2.out.set3Other (show w4.heap.size ≠ W.heap.size by omega) (.bool d1) (.string d2) (.string d3)) (And.intro (H1.out.set3Other (show w3.heap.size ≠ W.heap.size by omega) (.bool d1) (.string d2) (.string d3)) (And.intro (H3.out.set3Other (show w.heap.size ≠ W.heap.size by omega) (.bool d1) (.string d2) (.string d3)) (below_set3 HBW.out (show w.heap.size ≤ W.heap.size by omega) (.bool d1) (.string d2) (.string d3))))))
              refine wpTree_fin ?_
              simp only [getOps, List.filterMap_cons, List.filterMap_nil, List.getElem?_cons_zero, List.getElem?_cons_succ]
              repeat (first | go_big_quiet_skip | (refine wpQuiet_step (fun K hK => ?_); go_simp; (try simp (disch := omega) only [IntWalk.i64_in, IntWalk.u64_in, IntWalk.u32_in, IntWalk.u16_in, IntWalk.u8_in, Int.tmod_eq_emod_of_nonneg, Int.tdiv_eq_ediv_of_nonneg]); (first | (refine hK _ ?_; clear hK K) | (simp (disch := omega) only [if_pos, dif_pos, if_neg, dif_neg, IntWalk.i64_in, IntWalk.u64_in, IntWalk.u32_in, IntWalk.u16_in, IntWalk.u8_in, Int.tmod_eq_emod_of_nonneg, Int.tdiv_eq_ediv_of_nonneg]; go_simp; refine hK _ ?_; clear hK K))))
              refine wpQuiet_nil ?_
              have hp10 : w4.heap.size < W.heap.size := by omega
              refine exit_forget (fun W' => Blk W' W.heap.size #[.bool d1, .string d2, .string d3] ∧ Blk W' w4.heap.size #[.bool r1, .string r2, .string r3] ∧ Blk W' w3.heap.size #[.bool g1, .string g2, .string g3] ∧ Blk W' w.heap.size #[.bool false, .string ⟨#[]⟩, .string ⟨#[]⟩] ∧ Below w.heap.size w W') HFIN.out ?_
              rintro W8 ⟨E1, E2, E3, E4, E5⟩
              have E3 := Lib.hid E3
              have E4 := Lib.hid E4
              have E5 := Lib.hid E5
              obtain ⟨a0, a1, a2, -, -, -⟩ := E1.get3
              obtain ⟨b0, b1, b2, -, -, -⟩ := E2.get3
              have HX8 := Lib.hid (HCA.out _ E5.out)
              obtain ⟨x0, x1, x2⟩ := HX8.out
              clear HFIN E1 HX8
              generalize W.heap.size = p10 at *
              go_wp2_with fail
              refine (HS.out _).mono ?_; rintro e w9 ⟨rfl, hb9⟩
              have E2 := Lib.hid (E2.on hb9)
              have E3 := Lib.hid (E3.out.on hb9)
              have E4 := Lib.hid (E4.out.on hb9)
              have hz9 := E5.out.size
              have E5 := Lib.hid (chain E5.out hb9 (Nat.le_refl _))
              clear hb9 a0 a1 a2 b0 b1 b2 x0 x1 x2
              obtain ⟨b0, b1, b2, b3, b4, b5⟩ := E2.out.get3
              obtain ⟨a0, a1, a2, -, -, -⟩ := E3.out.get3
              go_wp2_with fail
              refine (HG.out _).mono ?_; rintro e w10 ⟨rfl, hb10⟩
              have G3 := Lib.hid (E3.out.on hb10)
              have G4 := Lib.hid (E4.out.on hb10)
              have G5 := Lib.hid (chain E5.out hb10 (Nat.le_refl _))
              clear hb10
              clear a0 a1 a2 b0 b1 b2 b3 b4 b5
              obtain ⟨a0, a1, a2, a3, a4, a5⟩ := G3.out.get3
              go_wp2
              go_roundw
              case rel => exact ⟨k + 1, by go_num, by omega, G4.out.set3Other (by omega) _ _ _, by rw [HF2.out]; exact HGO.out _ (Blk.set3 G3.out _ _ _), below_set3 G5.out (by omega) _ _ _⟩
              case measure => simp [intOf]; omega
        · have hrl2 : LQ = lesR (V k).k.q ((A k).q / (V k).a.q) := by rw [← hrl]; unfold rateQ; rw [if_neg ha]
          have hok : okR (V k).a.q = true := by unfold okR; simp [ha]
          have hdv : divR (A k).q (V k).a.q = (A k).q / (V k).a.q := by unfold divR; rw [if_neg ha]
          rw [hok, hdv] at hD
          have HD := Lib.hid hD
          have hsd : Sm 4002 ((A k).q / (V k).a.q) := ((sm_r3 f2).div (sm_r3 f1.1) ha).mono (by omega)
          have HL := Lib.hid (fun w => rlesser_any (V k).k.q ((A k).q / (V k).a.q) 4002 w HSK.out hsd (by omega))
          rw [← hrl2] at HL
          generalize (A k).q / (V k).a.q = DQ at *
          generalize sg (A k).q = sx at *
          generalize (V k).k.q = KQ at *
          clear hD hsd hok hdv hrl2 hrl ha HSK f1 f2 HM HI HFV HFA HV0 HA0 HNG HS
          generalize rn F2 = n1 at *
          generalize rs F2 = n2 at *
          generalize rd F2 = n3 at *
          generalize rn F1 = g1 at *
          generalize rs F1 = g2 at *
          generalize rd F1 = g3 at *
          generalize rn LQ = l1 at *
          generalize rs LQ = l2 at *
          generalize rd LQ = l3 at *
          generalize rn KQ = r1 at *
          generalize rs KQ = r2 at *
          generalize rd KQ = r3 at *
          generalize rn DQ = d1 at *
          generalize rs DQ = d2 at *
          generalize rd DQ = d3 at *
          generalize (V k).a.n = an at *
          generalize (V k).a.s = as' at *
          generalize (V k).a.d = ad at *
          generalize (V k).k.n = kn at *
          generalize (V k).k.s = ks at *
          generalize (V k).k.d = kd at *
          generalize (V k).p = vp at *
          generalize (V k).x = vx at *
          generalize (A k).n = xn at *
          generalize (A k).s = xs at *
          generalize (A k).d = xd at *
          go_wp2_with fail
          refine (HFX.out _).mono ?_; rintro e w4 ⟨rfl, hb4⟩
          have HB5 := Lib.hid (chain HB4.out hb4 (Nat.le_refl _))
          have HJK := Lib.hid (JK.out.on hb4)
          have HJ0 := Lib.hid (HJ1.out.on hb4)
          have hz4 := hb4.size
          clear hb4 v1 v2 v3
          go_wp2_with fail
          refine wp_forget (fun W => Blk W w3.heap.size #[.bool g1, .string g2, .string g3] ∧ Blk W w4.heap.size #[.bool r1, .string r2, .string r3] ∧ Blk W w.heap.size #[.bool false, .string ⟨#[]⟩, .string ⟨#[]⟩] ∧ Below w.heap.size w W)
            ⟨HJK.out.alloc _, Blk.new w4 _ _, HJ0.out.alloc _, HB5.out.alloc (by omega) _⟩ ?_
          rintro W ⟨H1, H2, H3, HBW⟩
          obtain ⟨q0, q1, q2⟩ := HCA.out W HBW
          obtain ⟨-, q3, q4, q5, -⟩ := HCV.out W HBW
          have hzW := H2.lt
          have hzw2 := HBW.size
          have k1 := exc_cell (B := W.heap.size) q0 (show ba < W.heap.size by omega)
          have k2 := exc_cell (B := W.heap.size) q1 (show ba < W.heap.size by omega)
          have k3 := exc_cell (B := W.heap.size) q2 (show ba < W.heap.size by omega)
          have k4 := exc_cell (B := W.heap.size) q3 (show bv < W.heap.size by omega)
          have k5 := exc_cell (B := W.heap.size) q4 (show bv < W.heap.size by omega)
          have k6 := exc_cell (B := W.heap.size) q5 (show bv < W.heap.size by omega)
          clear q0 q1 q2 q3 q4 q5
          refine wp_region_tree (Exc W (fromB W.heap.size)) (.two [0, 1, 2, 3, 4, 5, 6, 7, 8] 9 13 (.one [10, 11, 12] 13 (.one [] 14 (.fin [15]))) (.one [] 9 (.one [10, 11, 12] 14 (.fin [15])))) (by kernel_rfl) (by kernel_rfl) (by kernel_rfl) (by kernel_rfl) (exc_below (Below.refl _ _).drew) ?_
          refine wpTree_two ?_
          simp only [getOps, List.filterMap_cons, List.filterMap_nil, List.getElem?_cons_zero, List.getElem?_cons_succ]
          repeat (first | go_big_quiet_skip | (refine wpQuiet_step (fun K hK => ?_); go_simp; (try simp (disch := omega) only [IntWalk.i64_in, IntWalk.u64_in, IntWalk.u32_in, IntWalk.u16_in, IntWalk.u8_in, Int.tmod_eq_emod_of_nonneg, Int.tdiv_eq_ediv_of_nonneg]); (first | (refine hK _ ?_; clear hK K) | (simp (disch := omega) only [if_pos, dif_pos, if_neg, dif_neg, IntWalk.i64_in, IntWalk.u64_in, IntWalk.u32_in, IntWalk.u16_in, IntWalk.u8_in, Int.tmod_eq_emod_of_nonneg, Int.tdiv_eq_ediv_of_nonneg]; go_simp; refine hK _ ?_; clear hK K))))
          refine wpQuiet_nil ?_
          refine ⟨?_, ?_⟩
          · go_step
            rename_i K9 hK9
            refine (HD.out _).mono ?_; rintro e w5 ⟨rfl, hb5⟩
            have hb5' : Below W.heap.size W w5 := chain (Below.refl W.heap.size W).drew hb5 (Nat.le_refl _)
            have H1 := Lib.hid (H1.on hb5')
            have H2 := Lib.hid (H2.on hb5')
            have H3 := Lib.hid (H3.on hb5')
            have HW5 := Lib.hid hb5'
            have HBW := Lib.hid (chain HBW hb5' (by omega))
            have hz5 := hb5'.size
            clear hb5 hb5' k1 k2 k3 k4 k5 k6
            refine hK9 _ _ ?_
            clear hK9 K9
            refine segQ_normal (And.intro (exc_below HW5.out) ?_)
            refine wpTree_one ?_
            simp only [getOps, List.filterMap_cons, List.filterMap_nil, List.getElem?_cons_zero, List.getElem?_cons_succ]
            repeat (first | go_big_quiet_skip | (refine wpQuiet_step (fun K hK => ?_); go_simp; (try simp (disch := omega) only [IntWalk.i64_in, IntWalk.u64_in, IntWalk.u32_in, IntWalk.u16_in, IntWalk.u8_in, Int.tmod_eq_emod_of_nonneg, Int.tdiv_eq_ediv_of_nonneg]); (first | (refine hK _ ?_; clear hK K) | (simp (disch := omega) only [if_pos, dif_pos, if_neg, dif_neg, IntWalk.i64_in, IntWalk.u64_in, IntWalk.u32_in, IntWalk.u16_in, IntWalk.u8_in, Int.tmod_eq_emod_of_nonneg, Int.tdiv_eq_ediv_of_nonneg]; go_simp; refine hK _ ?_; clear hK K))))
            refine wpQuiet_nil ?_
            go_step
            rename_i K9 hK9
            refine hK9 _ _ ?_
            clear hK9 K9
            refine segQ_normal (And.intro (exc_below (HW5.out.alloc (by omega) _)) ?_)
            refine wpTree_one ?_
            simp only [getOps, List.filterMap_cons, List.filterMap_nil, List.getElem?_cons_zero, List.getElem?_cons_succ]
            repeat (first | go_big_quiet_skip | (refine wpQuiet_step (fun K hK => ?_); go_simp; (try simp (disch := omega) only [IntWalk.i64_in, IntWalk.u64_in, IntWalk.u32_in, IntWalk.u16_in, IntWalk.u8_in, Int.tmod_eq_emod_of_nonneg, Int.tdiv_eq_ediv_of_nonneg]); (first | (refine hK _ ?_; clear hK K) | (simp (disch := omega) only [if_pos, dif_pos, if_neg, dif_neg, IntWalk.i64_in, IntWalk.u64_in, IntWalk.u32_in, IntWalk.u16_in, IntWalk.u8_in, Int.tmod_eq_emod_of_nonneg, Int.tdiv_eq_ediv_of_nonneg]; go_simp; refine hK _ ?_; clear hK K))))
            refine wpQuiet_nil ?_
            go_step
            rename_i K9 hK9
            refine hK9 _ _ ?_
            clear hK9 K9
            refine segQ_normal (And.intro (exc_below (HW5.out.alloc (by omega) _)) ?_)
            have HFIN := Lib.hid (And.intro (Blk.new w5 #[.bool d1, .string d2, .string d3] 30) (And.intro (H2.out.alloc (.cells #[.bool d1, .string d2, .string d3] 30)) (And.intro (H1.out.alloc (.cells #[.bool d1, .string d2, .string d3] 30)) (And.intro (H3.out.alloc (.cells #[.bool d1, .string d2, .string d3] 30)) (HBW.out.alloc (by omega) (.cells #[.bool d1, .string d2, .string d3] 30))))))
            refine wpTree_fin ?_
            simp only [getOps, List.filterMap_cons, List.filterMap_nil, List.getElem?_cons_zero, List.getElem?_cons_succ]
            repeat (first | go_big_quiet_skip | (refine wpQuiet_step (fun K hK => ?_); go_simp; (try simp (disch := omega) only [IntWalk.i64_in, IntWalk.u64_in, IntWalk.u32_in, IntWalk.u16_in, IntWalk.u8_in, Int.tmod_eq_emod_of_nonneg, Int.tdiv_eq_ediv_of_nonneg]); (first | (refine hK _ ?_; clear hK K) | (simp (disch := omega) only [if_pos, dif_pos, if_neg, dif_neg, IntWalk.i64_in, IntWalk.u64_in, IntWalk.u32_in, IntWalk.u16_in, IntWalk.u8_in, Int.tmod_eq_emod_of_nonneg, Int.tdiv_eq_ediv_of_nonneg]; go_simp; refine hK _ ?_; clear hK K))))
            refine wpQuiet_nil ?_
            have hp10 : w4.heap.size < w5.heap.size := by omega
            refine exit_forget (fun W' => Blk W' w5.heap.size #[.bool d1, .string d2, .string d3] ∧ Blk W' w4.heap.size #[.bool r1, .string r2, .string r3] ∧ Blk W' w3.heap.size #[.bool g1, .string g2, .string g3] ∧ Blk W' w.heap.size #[.bool false, .string ⟨#[]⟩, .string ⟨#[]⟩] ∧ Below w.heap.size w W') HFIN.out ?_
            rintro W8 ⟨E1, E2, E3, E4, E5⟩
            have E3 := Lib.hid E3
            have E4 := Lib.hid E4
            have E5 := Lib.hid E5
            obtain ⟨a0, a1, a2, -, -, -⟩ := E1.get3
            obtain ⟨b0, b1, b2, -, -, -⟩ := E2.get3
            have HX8 := Lib.hid (HCA.out _ E5.out)
            obtain ⟨x0, x1, x2⟩ := HX8.out
            clear HFIN E1 HX8
            generalize w5.heap.size = p10 at *
            go_wp2_with fail
            refine (HL.out _).mono ?_; rintro e w9 ⟨rfl, hb9⟩
            have E2 := Lib.hid (E2.on hb9)
            have E3 := Lib.hid (E3.out.on hb9)
            have E4 := Lib.hid (E4.out.on hb9)
            have hz9 := E5.out.size
            have E5 := Lib.hid (chain E5.out hb9 (Nat.le_refl _))
            clear hb9 a0 a1 a2 b0 b1 b2 x0 x1 x2
            obtain ⟨b0, b1, b2, b3, b4, b5⟩ := E2.out.get3
            obtain ⟨a0, a1, a2, -, -, -⟩ := E3.out.get3
            have G2 := Lib.hid (E2.out.set3 (.bool l1) (.string l2) (.string l3))
            have G3 := Lib.hid (E3.out.set3Other (show w3.heap.size ≠ w4.heap.size by omega) (.bool l1) (.string l2) (.string l3))
            have G4 := Lib.hid (E4.out.set3Other (show w.heap.size ≠ w4.heap.size by omega) (.bool l1) (.string l2) (.string l3))
            have G5 := Lib.hid (below_set3 E5.out (show w.heap.size ≤ w4.heap.size by omega) (.bool l1) (.string l2) (.string l3))
            obtain ⟨y0, y1, y2, -, -, -⟩ := G2.out.get3
            obtain ⟨z0, z1, z2, -, -, -⟩ := G3.out.get3
            go_wp2_with fail
            refine (HG.out _).mono ?_; rintro e w10 ⟨rfl, hb10⟩
            have G3 := Lib.hid (G3.out.on hb10)
            have G4 := Lib.hid (G4.out.on hb10)
            have G5 := Lib.hid (chain G5.out hb10 (Nat.le_refl _))
            clear hb10 y0 y1 y2 z0 z1 z2 G2
            clear a0 a1 a2 b0 b1 b2 b3 b4 b5
            obtain ⟨a0, a1, a2, a3, a4, a5⟩ := G3.out.get3
            go_wp2
            go_roundw
            case rel => exact ⟨k + 1, by go_num, by omega, G4.out.set3Other (by omega) _ _ _, by rw [HF2.out]; exact HGO.out _ (Blk.set3 G3.out _ _ _), below_set3 G5.out (by omega) _ _ _⟩
            case measure => simp [intOf]; omega
          · go_step
            rename_i K9 hK9
            refine hK9 _ _ ?_
            clear hK9 K9
            have hb6 : Below W.heap.size W (W.drew.alloc (.cells #[.bool false, .string ⟨#[]⟩, .string ⟨#[]⟩] 30)) := (Below.refl W.heap.size W).drew.alloc (Nat.le_refl _) _
            refine segQ_normal (And.intro (exc_below hb6) ?_)
            refine wpTree_one ?_
            simp only [getOps, List.filterMap_cons, List.filterMap_nil, List.getElem?_cons_zero, List.getElem?_cons_succ]
            repeat (first | go_big_quiet_skip | (refine wpQuiet_step (fun K hK => ?_); go_simp; (try simp (disch := omega) only [IntWalk.i64_in, IntWalk.u64_in, IntWalk.u32_in, IntWalk.u16_in, IntWalk.u8_in, Int.tmod_eq_emod_of_nonneg, Int.tdiv_eq_ediv_of_nonneg]); (first | (refine hK _ ?_; clear hK K) | (simp (disch := omega) only [if_pos, dif_pos, if_neg, dif_neg, IntWalk.i64_in, IntWalk.u64_in, IntWalk.u32_in, IntWalk.u16_in, IntWalk.u8_in, Int.tmod_eq_emod_of_nonneg, Int.tdiv_eq_ediv_of_nonneg]; go_simp; refine hK _ ?_; clear hK K))))
            refine wpQuiet_nil ?_
            go_step
            rename_i K9 hK9
            refine (HD.out _).mono ?_; rintro e w5 ⟨rfl, hb5⟩
            have hb5' : Below W.heap.size W w5 := chain hb6 hb5 (Nat.le_refl _)
            have H0 : Hid (Blk w5 W.heap.size #[.bool false, .string ⟨#[]⟩, .string ⟨#[]⟩]) := (Blk.new W.drew #[.bool false, .string ⟨#[]⟩, .string ⟨#[]⟩] 30).on hb5
            have H1 := Lib.hid (H1.on hb5')
            have H2 := Lib.hid (H2.on hb5')
            have H3 := Lib.hid (H3.on hb5')
            have HW5 := Lib.hid hb5'
            have HBW := Lib.hid (chain HBW hb5' (by omega))
            have hz5 := hb5'.size
            clear hb5 hb5' hb6 k1 k2 k3 k4 k5 k6
            refine hK9 _ _ ?_
            clear hK9 K9
            refine segQ_normal (And.intro (exc_below HW5.out) ?_)
            refine wpTree_one ?_
            simp only [getOps, List.filterMap_cons, List.filterMap_nil, List.getElem?_cons_zero, List.getElem?_cons_succ]
            repeat (first | go_big_quiet_skip | (refine wpQuiet_step (fun K hK => ?_); go_simp; (try simp (disch := omega) only [IntWalk.i64_in, IntWalk.u64_in, IntWalk.u32_in, IntWalk.u16_in, IntWalk.u8_in, Int.tmod_eq_emod_of_nonneg, Int.tdiv_eq_ediv_of_nonneg]); (first | (refine hK _ ?_; clear hK K) | (simp (disch := omega) only [if_pos, dif_pos, if_neg, dif_neg, IntWalk.i64_in, IntWalk.u64_in, IntWalk.u32_in, IntWalk.u16_in, IntWalk.u8_in, Int.tmod_eq_emod_of_nonneg, Int.tdiv_eq_ediv_of_nonneg]; go_simp; refine hK _ ?_; clear hK K))))
            refine wpQuiet_nil ?_
            obtain ⟨c0, c1', c2', c3, c4, c5⟩ := H0.out.get3
            go_step
            rename_i K9 hK9
            refine hK9 _ _ ?_
            clear hK9 K9 c0 c1' c2' c3 c4 c5
            refine segQ_normal (And.intro (exc_below (below_set3 HW5.out (Nat.le_refl _) _ _ _)) ?_)
            have HFIN := Lib.hid (And.intro (Blk.set3 H0.out (.bool d1) (.string d2) (.string d3)) (And.intro (H2.out.set3Other (show w4.heap.size ≠ W.heap.size by omega) (.bool d1) (.string d2) (.string d3)) (And.intro (H1.out.set3Other (show w3.heap.size ≠ W.heap.size by omega) (.bool d1) (.string d2) (.string d3)) (And.intro (H3.out.set3Other (show w.heap.size ≠ W.heap.size by omega) (.bool d1) (.string d2) (.string d3)) (below_set3 HBW.out (show w.heap.size ≤ W.heap.size by omega) (.bool d1) (.string d2) (.string d3))))))
            refine wpTree_fin ?_
            simp only [getOps, List.filterMap_cons, List.filterMap_nil, List.getElem?_cons_zero, List.getElem?_cons_succ]
            repeat (first | go_big_quiet_skip | (refine wpQuiet_step (fun K hK => ?_); go_simp; (try simp (disch := omega) only [IntWalk.i64_in, IntWalk.u64_in, IntWalk.u32_in, IntWalk.u16_in, IntWalk.u8_in, Int.tmod_eq_emod_of_nonneg, Int.tdiv_eq_ediv_of_nonneg]); (first | (refine hK _ ?_; clear hK K) | (simp (disch := omega) only [if_pos, dif_pos, if_neg, dif_neg, IntWalk.i64_in, IntWalk.u64_in, IntWalk.u32_in, IntWalk.u16_in, IntWalk.u8_in, Int.tmod_eq_emod_of_nonneg, Int.tdiv_eq_ediv_of_nonneg]; go_simp; refine hK _ ?_; clear hK K))))
            refine wpQuiet_nil ?_
            have hp10 : w4.heap.size < W.heap.size := by omega
            refine exit_forget (fun W' => Blk W' W.heap.size #[.bool d1, .string d2, .string d3] ∧ Blk W' w4.heap.size #[.bool r1, .string r2, .string r3] ∧ Blk W' w3.heap.size #[.bool g1, .string g2, .string g3] ∧ Blk W' w.heap.size #[.bool false, .string ⟨#[]⟩, .string ⟨#[]⟩] ∧ Below w.heap.size w W') HFIN.out ?_
            rintro W8 ⟨E1, E2, E3, E4, E5⟩
            have E3 := Lib.hid E3
            have E4 := Lib.hid E4
            have E5 := Lib.hid E5
            obtain ⟨a0, a1, a2, -, -, -⟩ := E1.get3
            obtain ⟨b0, b1, b2, -, -, -⟩ := E2.get3
            have HX8 := Lib.hid (HCA.out _ E5.out)
            obtain ⟨x0, x1, x2⟩ := HX8.out
            clear HFIN E1 HX8
            generalize W.heap.size = p10 at *
            go_wp2_with fail
            refine (HL.out _).mono ?_; rintro e w9 ⟨rfl, hb9⟩
            have E2 := Lib.hid (E2.on hb9)
            have E3 := Lib.hid (E3.out.on hb9)
            have E4 := Lib.hid (E4.out.on hb9)
            have hz9 := E5.out.size
            have E5 := Lib.hid (chain E5.out hb9 (Nat.le_refl _))
            clear hb9 a0 a1 a2 b0 b1 b2 x0 x1 x2
            obtain ⟨b0, b1, b2, b3, b4, b5⟩ := E2.out.get3
            obtain ⟨a0, a1, a2, -, -, -⟩ := E3.out.get3
            have G2 := Lib.hid (E2.out.set3 (.bool l1) (.string l2) (.string l3))
            have G3 := Lib.hid (E3.out.set3Other (show w3.heap.size ≠ w4.heap.size by omega) (.bool l1) (.string l2) (.string l3))
            have G4 := Lib.hid (E4.out.set3Other (show w.heap.size ≠ w4.heap.size by omega) (.bool l1) (.string l2) (.string l3))
            have G5 := Lib.hid (below_set3 E5.out (show w.heap.size ≤ w4.heap.size by omega) (.bool l1) (.string l2) (.string l3))
            obtain ⟨y0, y1, y2, -, -, -⟩ := G2.out.get3
            obtain ⟨z0, z1, z2, -, -, -⟩ := G3.out.get3
            go_wp2_with fail
            refine (HG.out _).mono ?_; rintro e w10 ⟨rfl, hb10⟩
            have G3 := Lib.hid (G3.out.on hb10)
            have G4 := Lib.hid (G4.out.on hb10)
            have G5 := Lib.hid (chain G5.out hb10 (Nat.le_refl _))
            clear hb10 y0 y1 y2 z0 z1 z2 G2
            clear a0 a1 a2 b0 b1 b2 b3 b4 b5
            obtain ⟨a0, a1, a2, a3, a4, a5⟩ := G3.out.get3
            go_wp2
            go_roundw
            case rel => exact ⟨k + 1, by go_num, by omega, G4.out.set3Other (by omega) _ _ _, by rw [HF2.out]; exact HGO.out _ (Blk.set3 G3.out _ _ _), below_set3 G5.out (by omega) _ _ _⟩
            case measure => simp [intOf]; omega
      · obtain rfl : k = m := by omega
        have H1 : Blk wr w3.heap.size #[.bool (rn (flo V A k)), .string (rs (flo V A k)), .string (rd (flo V A k))] := J2
        have H3 := Lib.hid J1
        clear J2 J1 HV0 HA0 HFV HFA
        have hnl : decide ((k : Int) < (k : Int)) = false := by simp
        generalize flo V A k = F at *
        generalize rn F = g1 at *
        generalize rs F = g2 at *
        generalize rd F = g3 at *
        obtain ⟨k0, k1, k2⟩ := H1.later3
        go_wp2
        refine wp_region_qbt 3 (by kernel_rfl) (by kernel_rfl) ?_
        simp only [List.take_succ_cons, List.take_zero, List.drop_succ_cons, List.drop_zero]
        repeat (first | go_big_quiet_skip | quiet_step (first | with_reducible exact Calls.later (HI.out _) | with_reducible exact Calls.later (HM.out _)))
        clear k0 k1 k2
        refine wpQuiet_nil ?_
        intro W1 hb1
        have H2 := Lib.hid (H3.out.on hb1)
        have HB := Lib.hid (chain HB4.out hb1 (Nat.le_refl _))
        obtain ⟨a0, a1, a2, a3, a4, a5⟩ := H2.out.get3
        clear hb1 H1 H3 hbel
        go_wp2
        refine bodyPost_forget (fun W => Blk W w.heap.size #[.bool t1, .string t2, .string t3] ∧ Below w.heap.size w W) ⟨by exact Blk.set3 H2.out _ _ _, below_set3 HB.out (by omega) _ _ _⟩ ?_
        rintro WR ⟨hr9, hb9⟩
        obtain ⟨y90, y91, y92, -, -, -⟩ := hr9.get3
        exact bodyPost_ret (v := .tuple #[.agg #[.bool t1, .string t2, .string t3], .int .i64 0]) (by simp [results, Tryz.results13, go_sem, y90, y91, y92]) rfl ⟨rfl, hb9⟩
  · have hq : flQ n m V A = 0 := by unfold flQ; rw [if_neg hc]
    rw [hq]
    unfold rv
    rw [rn_zero, rs_zero, rd_zero]
    have h1 : (chk n m V A == 0) = false := by simp [hc]
    generalize chk n m V A = c at *
    clear fV fA hV hA hq
    go_enter Tryz.func13, Tryz.ntmps13
    go_wp2_with fail
    refine (HC.out _ HV.out HA.out).mono ?_
    rintro e w3 ⟨rfl, hb3⟩
    obtain ⟨H1, HB⟩ := boxes1 hb3
    obtain ⟨a0, a1, a2, a3, a4, a5⟩ := H1.get3
    have H2 := Lib.hid H1
    have HB := Lib.hid HB
    clear hb3 H1
    go_wp2
    refine bodyPost_forget (fun W => Blk W w.heap.size #[.bool false, .string ⟨#[]⟩, .string ⟨#[]⟩] ∧ Below w.heap.size w W) ⟨by exact Blk.set3 H2.out _ _ _, below_set3 HB.out (by omega) _ _ _⟩ ?_
    rintro WR ⟨hr9, hb9⟩
    obtain ⟨y90, y91, y92, -, -, -⟩ := hr9.get3
    exact bodyPost_ret (v := .tuple #[.agg #[.bool false, .string ⟨#[]⟩, .string ⟨#[]⟩], .int .i64 c]) (by simp [results, Tryz.results13, go_sem, y90, y91, y92]) rfl ⟨rfl, hb9⟩
end Go.Proofs.Ins
