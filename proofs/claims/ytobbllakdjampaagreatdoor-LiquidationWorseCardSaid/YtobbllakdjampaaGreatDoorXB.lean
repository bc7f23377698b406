/- The walks of insolvencyref1.SameInts and insolvencylaw31.LiquidationWorse. -/
import Derived.Test.YtobbllakdjampaaGreatDoorL5
import Derived.Test.YtobbllakdjampaaGreatDoorL6
import Derived.Test.YtobbllakdjampaaGreatDoorL9

set_option linter.unusedSimpArgs false
set_option linter.unusedVariables false
namespace Go.Proofs.Ins
open Go.RowKit

/-- Whether a voter is worse off and does not accept. -/
def worB (v : V8) (x r : R3) : Bool := decide (0 < cmpR v.k.q r.q) && decide (0 < cmpR x.q (v.a.q * r.q))
/-- Whether a number lies between 0 and 1. -/
def inRB (q : Rat) : Bool := decide (0 ≤ sg q) && decide (cmpR q 1 ≤ 0)

theorem boxes_two (w : World) (vs us : Array Value) (T U : TypeId) : Blk ((w.alloc (.cells vs T)).alloc (.cells us U)) w.heap.size vs ∧ Blk ((w.alloc (.cells vs T)).alloc (.cells us U)) (w.heap.size + 1) us ∧ Below w.heap.size w ((w.alloc (.cells vs T)).alloc (.cells us U)) := by
  refine ⟨(Blk.new w vs T).alloc _, ?_, ((Below.refl _ _).alloc (Nat.le_refl _) _).alloc (by simp) _⟩
  have := Blk.new (w.alloc (.cells vs T)) us U
  rwa [World.size_alloc] at this
theorem boxes_three (w : World) (vs us ts : Array Value) (T U V : TypeId) : Blk (((w.alloc (.cells vs T)).alloc (.cells us U)).alloc (.cells ts V)) w.heap.size vs ∧ Blk (((w.alloc (.cells vs T)).alloc (.cells us U)).alloc (.cells ts V)) (w.heap.size + 1) us ∧ Blk (((w.alloc (.cells vs T)).alloc (.cells us U)).alloc (.cells ts V)) (w.heap.size + 1 + 1) ts ∧ Below w.heap.size w (((w.alloc (.cells vs T)).alloc (.cells us U)).alloc (.cells ts V)) := by
  obtain ⟨h1, h2, h3⟩ := boxes_two w vs us T U
  refine ⟨h1.alloc _, h2.alloc _, ?_, h3.alloc (by simp; omega) _⟩
  have := Blk.new ((w.alloc (.cells vs T)).alloc (.cells us U)) ts V
  rwa [World.size_alloc, World.size_alloc] at this
theorem Blk.later8 {w : World} {b : Nat} {v0 v1 v2 v3 v4 v5 v6 v7 : Value} (h : Blk w b #[v0, v1, v2, v3, v4, v5, v6, v7]) :
    (∀ d os, (Sort.grow (redrawn w d) os).cell? ⟨b, 0, none⟩ = some v0) ∧ (∀ d os, (Sort.grow (redrawn w d) os).cell? ⟨b, 1, none⟩ = some v1) ∧ (∀ d os, (Sort.grow (redrawn w d) os).cell? ⟨b, 2, none⟩ = some v2) ∧ (∀ d os, (Sort.grow (redrawn w d) os).cell? ⟨b, 3, none⟩ = some v3) ∧
    (∀ d os, (Sort.grow (redrawn w d) os).cell? ⟨b, 4, none⟩ = some v4) ∧ (∀ d os, (Sort.grow (redrawn w d) os).cell? ⟨b, 5, none⟩ = some v5) ∧ (∀ d os, (Sort.grow (redrawn w d) os).cell? ⟨b, 6, none⟩ = some v6) ∧ (∀ d os, (Sort.grow (redrawn w d) os).cell? ⟨b, 7, none⟩ = some v7) :=
  ⟨cell_regrown (h.cell 0), cell_regrown (h.cell 1), cell_regrown (h.cell 2), cell_regrown (h.cell 3), cell_regrown (h.cell 4), cell_regrown (h.cell 5), cell_regrown (h.cell 6), cell_regrown (h.cell 7)⟩

set_option maxRecDepth 100000 in
set_option maxHeartbeats 1600000 in
theorem worse_any (v : V8) (x r : R3) (w : World) (hv : v.fits 1000) (hx : x.fits 1000) (hr : r.fits 1000) :
    Calls Tryz.prog 42 #[v.v, .agg #[.bool x.n, .string x.s, .string x.d], .agg #[.bool r.n, .string r.s, .string r.d]] w fun e w' => e = .returned (.bool (worB v x r)) ∧ Below w.heap.size w w' := by
  obtain ⟨⟨hv1, hv2⟩, hv3, hv4⟩ := hv
  obtain ⟨hx1, hx2⟩ := hx
  obtain ⟨hr1, hr2⟩ := hr
  have HC1 := Lib.hid (fun w => compare_rat v.k.n v.k.s v.k.d r.n r.s r.d w (by omega) (by omega))
  have HM := Lib.hid (fun w => multiply_rat v.a.n v.a.s v.a.d r.n r.s r.d w (by omega) (by omega))
  have hsm : Sm 4002 (rq v.a.n v.a.s v.a.d * rq r.n r.s r.d) := ((sm_raw v.a.n v.a.s v.a.d).mul (sm_raw r.n r.s r.d)).mono (by omega)
  have hC2 := fun w => compare_rat x.n x.s x.d (rn (rq v.a.n v.a.s v.a.d * rq r.n r.s r.d)) (rs (rq v.a.n v.a.s v.a.d * rq r.n r.s r.d)) (rd (rq v.a.n v.a.s v.a.d * rq r.n r.s r.d)) w (by omega) (by have := hsm.rs; have := hsm.rd; omega)
  rw [rq_of] at hC2
  have HC2 := Lib.hid hC2
  have hT : worB v x r = (decide (0 < cmpR (rq v.k.n v.k.s v.k.d) (rq r.n r.s r.d)) && decide (0 < cmpR (rq x.n x.s x.d) (rq v.a.n v.a.s v.a.d * rq r.n r.s r.d))) := rfl
  rw [hT]
  unfold rv at HM
  unfold V8.v
  clear hsm hC2 hT hv1 hv2 hv3 hv4 hx1 hx2 hr1 hr2
  generalize cmpR (rq v.k.n v.k.s v.k.d) (rq r.n r.s r.d) = c1 at *
  generalize cmpR (rq x.n x.s x.d) (rq v.a.n v.a.s v.a.d * rq r.n r.s r.d) = c2 at *
  generalize rq v.a.n v.a.s v.a.d * rq r.n r.s r.d = M at *
  generalize rn M = m1 at *
  generalize rs M = m2 at *
  generalize rd M = m3 at *
  generalize x.n = xn at *
  generalize x.s = xs at *
  generalize x.d = xd at *
  generalize r.n = rn' at *
  generalize r.s = rs' at *
  generalize r.d = rd' at *
  generalize v.a.n = an at *
  generalize v.a.s = as' at *
  generalize v.a.d = ad at *
  generalize v.k.n = kn at *
  generalize v.k.s = ks at *
  generalize v.k.d = kd at *
  generalize v.p = vp at *
  generalize v.x = vx at *
  generalize hT : (decide (0 < c1) && decide (0 < c2)) = T
  have HT := Lib.hid hT
  clear hT
  go_enter Tryz.func42, Tryz.ntmps42
  go_wp2
  refine wp_forget (fun W => Blk W w.heap.size #[.int .i64 vp, .bool an, .string as', .string ad, .bool kn, .string ks, .string kd, .bool vx] ∧ Blk W (w.heap.size + 1) #[.bool xn, .string xs, .string xd] ∧ Blk W (w.heap.size + 1 + 1) #[.bool rn', .string rs', .string rd'] ∧ Below w.heap.size w W) (boxes_three w _ _ _ _ _ _) ?_
  rintro W ⟨H1, H2, H3, HB⟩
  obtain ⟨-, k1, k2, k3, k4, k5, k6, -⟩ := H1.later8
  obtain ⟨j1, j2, j3⟩ := H2.later3
  obtain ⟨l1, l2, l3⟩ := H3.later3
  have HBB := Lib.hid HB
  clear H1 H2 H3 HB
  by_cases h : 0 < c1
  · have e1 : decide (0 < c1) = true := decide_eq_true h
    have HE := Lib.hid (show decide (0 < c2) = T by rw [← HT.out, e1, Bool.true_and])
    clear h
    refine wp_region_qb (by kernel_rfl) (by kernel_rfl) ?_
    repeat (first | go_big_quiet_skip | (refine wpQuiet_step (fun K hK => ?_); go_simp; (try simp (disch := omega) only [IntWalk.i64_in, IntWalk.u64_in, IntWalk.u32_in, IntWalk.u16_in, IntWalk.u8_in, Int.tmod_eq_emod_of_nonneg, Int.tdiv_eq_ediv_of_nonneg]); (first | (refine hK _ ?_; clear hK K) | (apply Exists.intro; refine ⟨fun _ => ?_, hK _ ?_⟩; (first | with_reducible exact Calls.later (HC1.out _) | with_reducible exact Calls.later (HM.out _) | with_reducible exact Calls.later (HC2.out _)); clear hK K))))
    clear k1 k2 k3 k4 k5 k6 j1 j2 j3 l1 l2 l3
    refine wpQuiet_nil ?_
    intro W1 hb1
    have HB := Lib.hid (chain HBB.out hb1 (Nat.le_refl _))
    clear hb1
    go_wp2
    go_ret
    exact ⟨ret_bool HE.out, HB.out⟩
  · have e1 : decide (0 < c1) = false := decide_eq_false h
    have HE := Lib.hid (show false = T by rw [← HT.out, e1, Bool.false_and])
    clear h
    refine wp_region_qb (by kernel_rfl) (by kernel_rfl) ?_
    repeat (first | go_big_quiet_skip | (refine wpQuiet_step (fun K hK => ?_); go_simp; (try simp (disch := omega) only [IntWalk.i64_in, IntWalk.u64_in, IntWalk.u32_in, IntWalk.u16_in, IntWalk.u8_in, Int.tmod_eq_emod_of_nonneg, Int.tdiv_eq_ediv_of_nonneg]); (first | (refine hK _ ?_; clear hK K) | (apply Exists.intro; refine ⟨fun _ => ?_, hK _ ?_⟩; (first | with_reducible exact Calls.later (HC1.out _) | with_reducible exact Calls.later (HM.out _) | with_reducible exact Calls.later (HC2.out _)); clear hK K))))
    clear k1 k2 k3 k4 k5 k6 j1 j2 j3 l1 l2 l3
    refine wpQuiet_nil ?_
    intro W1 hb1
    have HB := Lib.hid (chain HBB.out hb1 (Nat.le_refl _))
    clear hb1
    go_wp2
    go_ret
    exact ⟨ret_bool HE.out, HB.out⟩

set_option maxRecDepth 100000 in
set_option maxHeartbeats 1600000 in
theorem inrange_any (r : R3) (w : World) (hr : r.fits 1000) :
    Calls Tryz.prog 41 #[.agg #[.bool r.n, .string r.s, .string r.d]] w fun e w' => e = .returned (.bool (inRB r.q)) ∧ Below w.heap.size w w' := by
  have hq : r.q = rq r.n r.s r.d := rfl
  obtain ⟨hr1, hr2⟩ := hr
  have HS := Lib.hid (fun w => sign_rat r.n r.s r.d w (by omega) (by omega))
  have h1s : Sm 1 (1 : Rat) := ⟨by decide, by decide⟩
  have hI := fun w => int_any 1 w (by omega) (by omega)
  rw [show (((1 : Int) : Rat)) = 1 from rfl] at hI
  have HI := Lib.hid hI
  have hC := fun w => compare_rat r.n r.s r.d (rn 1) (rs 1) (rd 1) w (by omega) (by have := h1s.rs; have := h1s.rd; omega)
  rw [rq_of] at hC
  have HC := Lib.hid hC
  unfold inRB
  rw [hq]
  clear hI hC h1s hr1 hr2 hq
  generalize cmpR (rq r.n r.s r.d) 1 = c at *
  generalize sg (rq r.n r.s r.d) = s at *
  generalize rn 1 = o1 at *
  generalize rs 1 = o2 at *
  generalize rd 1 = o3 at *
  generalize r.n = rn' at *
  generalize r.s = rs' at *
  generalize r.d = rd' at *
  generalize hT : (decide (0 ≤ s) && decide (c ≤ 0)) = T
  have HT := Lib.hid hT
  clear hT
  go_enter Tryz.func41, Tryz.ntmps41
  go_wp2
  refine wp_forget (fun W => Blk W w.heap.size #[.bool rn', .string rs', .string rd'] ∧ Below w.heap.size w W) ⟨Blk.new w _ _, (Below.refl _ _).alloc (Nat.le_refl _) _⟩ ?_
  rintro W ⟨H1, HB⟩
  obtain ⟨k1, k2, k3⟩ := H1.later3
  have HBB := Lib.hid HB
  clear H1 HB
  by_cases h : 0 ≤ s
  · have e1 : decide (0 ≤ s) = true := decide_eq_true h
    have HE := Lib.hid (show decide (c ≤ 0) = T by rw [← HT.out, e1, Bool.true_and])
    clear h
    refine wp_region_qb (by kernel_rfl) (by kernel_rfl) ?_
    repeat (first | go_big_quiet_skip | (refine wpQuiet_step (fun K hK => ?_); go_simp; (try simp (disch := omega) only [IntWalk.i64_in, IntWalk.u64_in, IntWalk.u32_in, IntWalk.u16_in, IntWalk.u8_in, Int.tmod_eq_emod_of_nonneg, Int.tdiv_eq_ediv_of_nonneg]); (first | (refine hK _ ?_; clear hK K) | (apply Exists.intro; refine ⟨fun _ => ?_, hK _ ?_⟩; (first | with_reducible exact Calls.later (HS.out _) | with_reducible exact Calls.later (HI.out _) | with_reducible exact Calls.later (HC.out _)); clear hK K))))
    clear k1 k2 k3
    refine wpQuiet_nil ?_
    intro W1 hb1
    have HB := Lib.hid (chain HBB.out hb1 (Nat.le_refl _))
    clear hb1
    go_wp2
    go_ret
    exact ⟨ret_bool HE.out, HB.out⟩
  · have e1 : decide (0 ≤ s) = false := decide_eq_false h
    have HE := Lib.hid (show false = T by rw [← HT.out, e1, Bool.false_and])
    clear h
    refine wp_region_qb (by kernel_rfl) (by kernel_rfl) ?_
    repeat (first | go_big_quiet_skip | (refine wpQuiet_step (fun K hK => ?_); go_simp; (try simp (disch := omega) only [IntWalk.i64_in, IntWalk.u64_in, IntWalk.u32_in, IntWalk.u16_in, IntWalk.u8_in, Int.tmod_eq_emod_of_nonneg, Int.tdiv_eq_ediv_of_nonneg]); (first | (refine hK _ ?_; clear hK K) | (apply Exists.intro; refine ⟨fun _ => ?_, hK _ ?_⟩; (first | with_reducible exact Calls.later (HS.out _) | with_reducible exact Calls.later (HI.out _) | with_reducible exact Calls.later (HC.out _)); clear hK K))))
    clear k1 k2 k3
    refine wpQuiet_nil ?_
    intro W1 hb1
    have HB := Lib.hid (chain HBB.out hb1 (Nat.le_refl _))
    clear hb1
    go_wp2
    go_ret
    exact ⟨ret_bool HE.out, HB.out⟩
end Go.Proofs.Ins

set_option linter.unusedSimpArgs false
set_option linter.unusedVariables false
namespace Go.Proofs.Ins
open Go.RowKit

/-- The voters that are worse off, of the first k. -/
def wixs (V : Nat → V8) (A : Nat → R3) (r : R3) (k : Nat) : List Nat := (List.range k).filter fun i => worB (V i) (A i) r
theorem wixs_zero (V : Nat → V8) (A : Nat → R3) (r : R3) : wixs V A r 0 = [] := rfl
theorem wixs_yes {V : Nat → V8} {A : Nat → R3} {r : R3} {k : Nat} (h : worB (V k) (A k) r = true) : wixs V A r (k + 1) = wixs V A r k ++ [k] := by
  unfold wixs; rw [List.range_succ, List.filter_append]; simp [h]
theorem wixs_no {V : Nat → V8} {A : Nat → R3} {r : R3} {k : Nat} (h : worB (V k) (A k) r = false) : wixs V A r (k + 1) = wixs V A r k := by
  unfold wixs; rw [List.range_succ, List.filter_append]; simp [h]
theorem wixs_len (V : Nat → V8) (A : Nat → R3) (r : R3) (k : Nat) : (wixs V A r k).length ≤ k := by
  have := List.length_filter_le (fun i => worB (V i) (A i) r) (List.range k)
  rwa [List.length_range] at this
/-- A list of numbers, as cells. -/
def cI (l : List Nat) (j : Nat) : List Value := [.int .i64 ((l.getD j 0 : Nat) : Int)]
theorem cI_snoc (l : List Nat) (k j : Nat) (hj : j < l.length + 1) : (if j < l.length then cI l j else [.int .i64 (k : Int)]) = cI (l ++ [k]) j := by
  unfold cI
  by_cases h : j < l.length
  · rw [if_pos h]; simp [List.getElem?_append_left h]
  · obtain rfl : j = l.length := by omega
    rw [if_neg h]; simp
theorem SOwn.mono {w : World} {base base' : Nat} {T : TypeId} {sz : Nat} {v : Value} {n : Nat} {F : Nat → List Value} (h : SOwn w base T sz v n F) (hb : base' ≤ base) : SOwn w base' T sz v n F := by
  obtain ⟨⟨h1, h2⟩, h3⟩ := h
  refine ⟨⟨h1, ?_⟩, h3⟩
  rcases h2 with h2 | ⟨g, cap, cur, hv, hg, r⟩
  · exact .inl h2
  · exact .inr ⟨g, cap, cur, hv, Nat.le_trans hb hg, r⟩
/-- What Worse gives. -/
def wrsL (n m : Nat) (V : Nat → V8) (A : Nat → R3) (r : R3) : List Nat := if chk n m V A = 0 ∧ inRB r.q = true then wixs V A r n else []
def wrsE (n m : Nat) (V : Nat → V8) (A : Nat → R3) (r : R3) : Int := if chk n m V A = 0 then (if inRB r.q = true then 0 else 1) else chk n m V A
/-- A list of numbers and an error, handed back. -/
def RetW (w : World) (T : TypeId) (l : List Nat) (x : Int) (e : Ending) (w' : World) : Prop :=
  ∃ v, e = .returned (.tuple #[v, .int .i64 x]) ∧ SOwn w' w.heap.size T 1 v l.length (cI l) ∧ Below w.heap.size w w'
theorem RetW.nil {w w' : World} {T : TypeId} {x : Int} (h : Below w.heap.size w w') : RetW w T [] x (.returned (.tuple #[.slice none 0 0, .int .i64 x])) w' :=
  ⟨_, rfl, SOwn.nil _ _ _ _ _, h⟩
theorem intInfo : (Tryz.prog.info? 3).map (fun i => (i.zero.map (fun z => z.cells.size), i.size, i.bytes)) = some (some 1, 1, 8) := by kernel_rfl

set_option maxRecDepth 100000 in
set_option maxHeartbeats 1600000 in
theorem worses_any (a1 : Option Addr) (n c1 : Nat) (a2 : Option Addr) (m c2 : Nat) (V : Nat → V8) (A : Nat → R3) (r : R3) (w : World) (hV : SArg w a1 n 8 fun i => (V i).c) (hA : SArg w a2 m 3 fun i => (A i).c)
    (fV : ∀ i, i < n → (V i).fits 1000) (fA : ∀ i, i < m → (A i).fits 1000) (fr : r.fits 1000) (hn : n ≤ 1000000) (hm : m ≤ 1000000) :
    Calls Tryz.prog 15 #[.slice a1 n c1, .slice a2 m c2, .agg #[.bool r.n, .string r.s, .string r.d]] w (RetW w 3 (wrsL n m V A r) (wrsE n m V A r)) := by
  have HC := Lib.hid (fun w (h1 : SArg w a1 n 8 fun i => (V i).c) (h2 : SArg w a2 m 3 fun i => (A i).c) => check_any a1 n c1 a2 m c2 V A w h1 h2 (fun i hi => by have := fV i hi; exact ⟨⟨by have := this.1.1; omega, by have := this.1.2; omega⟩, ⟨by have := this.2.1; omega, by have := this.2.2; omega⟩⟩) (fun i hi => by have := fA i hi; exact ⟨by have := this.1; omega, by have := this.2; omega⟩) (by omega) (by omega))
  have HI := Lib.hid (fun w => inrange_any r w fr)
  have HV := Lib.hid (hV.on ((Below.refl w.heap.size w).alloc (Nat.le_refl _) (.cells #[.bool r.n, .string r.s, .string r.d] 30)))
  have HA := Lib.hid (hA.on ((Below.refl w.heap.size w).alloc (Nat.le_refl _) (.cells #[.bool r.n, .string r.s, .string r.d] 30)))
  have HV0 := Lib.hid hV
  have HA0 := Lib.hid hA
  by_cases hc : chk n m V A = 0
  · have hmn : m = n := by
      unfold chk at hc
      by_cases h1 : 64 < n
      · rw [if_pos h1] at hc; cases hc
      · rw [if_neg h1] at hc
        by_cases h2 : m = n
        · exact h2
        · rw [if_pos h2] at hc; cases hc
    subst hmn
    have hl : wrsL m m V A r = if inRB r.q = true then wixs V A r m else [] := by unfold wrsL; simp [hc]
    have he : wrsE m m V A r = if inRB r.q = true then 0 else 1 := by unfold wrsE; rw [if_pos hc]
    rw [hl, he]
    rw [hc] at HC
    have HFV := Lib.hid fV
    have HFA := Lib.hid fA
    have HFR := Lib.hid fr
    have HW := Lib.hid (fun k (h : k < m) w => worse_any (V k) (A k) r w (HFV.out k h) (HFA.out k h) HFR.out)
    have HY := Lib.hid (fun k => wixs_yes (V := V) (A := A) (r := r) (k := k))
    have HN := Lib.hid (fun k => wixs_no (V := V) (A := A) (r := r) (k := k))
    have HLEN := Lib.hid (wixs_len V A r)
    have HZ := Lib.hid (wixs_zero V A r)
    generalize hwx : wixs V A r = X at *
    clear hwx hl he fV fA fr hV hA hc
    by_cases hi : inRB r.q = true
    · rw [if_pos hi, if_pos hi]
      rw [hi] at HI
      clear hi
      generalize r.n = rn' at *
      generalize r.s = rs' at *
      generalize r.d = rd' at *
      go_enter Tryz.func15, Tryz.ntmps15
      go_wp2_with fail
      refine (HC.out _ HV.out HA.out).mono ?_
      rintro e w3 ⟨rfl, hb3⟩
      obtain ⟨H1, HB⟩ := boxes1 hb3
      have hz3 := H1.lt
      have H1 := Lib.hid H1
      have HB := Lib.hid HB
      obtain ⟨k0, k1, k2, -, -, -⟩ := H1.out.get3
      clear hb3 HV HA HC
      go_wp2_with fail
      refine (HI.out _).mono ?_
      rintro e w4 ⟨rfl, hb4⟩
      have H1 := Lib.hid (H1.out.on hb4)
      have HB := Lib.hid (chain HB.out hb4 (Nat.le_refl _))
      have hz4 := H1.out.lt
      clear hb4 HI k0 k1 k2
      go_wp2_with fail
      go_loopw [9, 23] (fun v i wr => ∃ k : Nat, i = .int .i64 k ∧ k ≤ m ∧ Blk wr w.heap.size #[.bool rn', .string rs', .string rd'] ∧ SOwn wr (w.heap.size + 1) 3 1 v (X k).length (cI (X k)) ∧ Below w.heap.size w wr) (fun _ i _ => m - (intOf i).toNat)
      case atStart => exact ⟨0, rfl, by omega, H1.out, by rw [HZ.out]; exact SOwn.nil _ _ _ _ _, HB.out⟩
      case round =>
        obtain ⟨k, rfl, hk, J1, hown, hbel⟩ := hrel
        have HB4 := Lib.hid hbel
        have HO := Lib.hid hown
        have J1 := Lib.hid J1
        have hzr := J1.out.lt
        have hzw := hbel.size
        clear hown
        by_cases hlt : k < m
        · skip
          rcases HV0.out with h0 | ⟨bv, ov, rfl, lv, rv'⟩
          · omega
          rcases HA0.out with h0 | ⟨ba, oa, rfl, la, ra⟩
          · omega
          obtain ⟨v0, v1, v2, v3, v4, v5, v6, v7⟩ := (rv'.below hbel lv).v8 hlt
          have HCA := Lib.hid (fun W (h : Below w.heap.size w W) => (ra.below h la).r3 hlt)
          have HWK := Lib.hid (HW.out k hlt)
          have HYK := Lib.hid (HY.out k)
          have HNK := Lib.hid (HN.out k)
          have HLK := HLEN.out k
          unfold V8.v at HWK
          clear hbel rv' ra HW HY HN HLEN HV0 HA0 HFV HFA
          generalize hwb : worB (V k) (A k) r = WB at *
          clear hwb
          generalize (V k).p = vp at *
          generalize (V k).a.n = an at *
          generalize (V k).a.s = as' at *
          generalize (V k).a.d = ad at *
          generalize (V k).k.n = kn at *
          generalize (V k).k.s = ks at *
          generalize (V k).k.d = kd at *
          generalize (V k).x = vx at *
          generalize (A k).n = xn at *
          generalize (A k).s = xs at *
          generalize (A k).d = xd at *
          have i1 : (0 : Int) ≤ (k : Int) := by omega
          have i2 : (k : Int) < (m : Int) := by omega
          go_wp2
          refine wp_forget (fun W => Blk W wr.heap.size #[.int .i64 vp, .bool an, .string as', .string ad, .bool kn, .string ks, .string kd, .bool vx] ∧ Blk W w.heap.size #[.bool rn', .string rs', .string rd'] ∧ SOwn W (w.heap.size + 1) 3 1 _ (X k).length (cI (X k)) ∧ Below w.heap.size w W)
            ⟨Blk.new wr _ _, J1.out.alloc _, HO.out.below ((Below.refl wr.heap.size wr).alloc (Nat.le_refl _) _) (Nat.le_refl _), HB4.out.alloc (by omega) _⟩ ?_
          rintro W ⟨G1, G2, G3, HBW⟩
          obtain ⟨q0, q1, q2⟩ := HCA.out W HBW
          obtain ⟨g0, g1, g2, g3, g4, g5, g6, g7⟩ := G1.later8
          obtain ⟨l0, l1, l2⟩ := G2.later3
          have m0 := cell_regrown q0
          have m1 := cell_regrown q1
          have m2 := cell_regrown q2
          clear q0 q1 q2 v0 v1 v2 v3 v4 v5 v6 v7
          have G2 := Lib.hid G2
          have G3 := Lib.hid G3
          have HBW := Lib.hid HBW
          clear G1
          refine wp_region_qb (by kernel_rfl) (by kernel_rfl) ?_
          repeat (first | go_big_quiet_skip | (refine wpQuiet_step (fun K hK => ?_); go_simp; (try simp (disch := omega) only [IntWalk.i64_in, IntWalk.u64_in, IntWalk.u32_in, IntWalk.u16_in, IntWalk.u8_in, Int.tmod_eq_emod_of_nonneg, Int.tdiv_eq_ediv_of_nonneg]); (first | (refine hK _ ?_; clear hK K) | (apply Exists.intro; refine ⟨fun _ => ?_, hK _ ?_⟩; (first | with_reducible exact Calls.later (HWK.out _)); clear hK K))))
          clear g0 g1 g2 g3 g4 g5 g6 g7 l0 l1 l2 m0 m1 m2
          refine wpQuiet_nil ?_
          intro W1 hb1
          have G2 := Lib.hid (G2.out.on hb1)
          have G3 := Lib.hid (G3.out.below hb1 (Nat.le_refl _))
          have HBX := Lib.hid (chain HBW.out hb1 (Nat.le_refl _))
          have hzx := HBX.out.size
          have hg2 := G2.out.lt
          clear hb1
          cases WB
          · have HNX := Lib.hid (HNK.out rfl)
            go_wp2
            go_roundw
            case rel => exact ⟨k + 1, by go_num, by omega, G2.out, by rw [HNX.out]; exact G3.out, HBX.out⟩
            case measure => simp [intOf]; omega
          · have HYX := Lib.hid (HYK.out rfl)
            go_wp2_with (refine wpList_appendS _ _ 39 3 1 8 (w.heap.size + 1) _ _ _ [.int .i64 (k : Int)] (by rfl) (by rfl) Tryz.underlying39 intInfo (by omega) (by rfl) (by rfl) (by simp [Value.oneCell']) (by rfl) G3.out (by omega) (by omega) (by omega) ?_; intro v9 w9 ho9 hb9; have HO9 := Lib.hid ho9; have HB9 := Lib.hid hb9; clear ho9 hb9)
            go_roundw
            case rel =>
              refine ⟨k + 1, by go_num, by omega, G2.out.below HB9.out (by omega), ?_, HBX.out.trans (HB9.out.mono (by omega))⟩
              rw [HYX.out, List.length_append]
              exact HO9.out.congr fun j hj => cI_snoc _ _ j hj
            case measure => simp [intOf]; omega
        · obtain rfl : k = m := by omega
          have hnl : decide ((k : Int) < (k : Int)) = false := by simp
          go_wp2
          exact bodyPost_ret (v := .tuple #[u9, .int .i64 0]) (by simp [results, Tryz.results15, go_sem]) rfl ⟨_, rfl, HO.out.mono (by omega), HB4.out⟩
    · rw [if_neg hi, if_neg hi]
      have hi2 : inRB r.q = false := Bool.eq_false_iff.mpr hi
      rw [hi2] at HI
      clear hi hi2
      generalize r.n = rn' at *
      generalize r.s = rs' at *
      generalize r.d = rd' at *
      go_enter Tryz.func15, Tryz.ntmps15
      go_wp2_with fail
      refine (HC.out _ HV.out HA.out).mono ?_
      rintro e w3 ⟨rfl, hb3⟩
      obtain ⟨H1, HB⟩ := boxes1 hb3
      have HB := Lib.hid HB
      obtain ⟨k0, k1, k2, -, -, -⟩ := H1.get3
      clear hb3 HV HA HC H1
      go_wp2_with fail
      refine (HI.out _).mono ?_
      rintro e w4 ⟨rfl, hb4⟩
      have HB := Lib.hid (chain HB.out hb4 (Nat.le_refl _))
      clear hb4 HI k0 k1 k2
      go_wp2
      exact bodyPost_ret (v := .tuple #[.slice none 0 0, .int .i64 1]) (by simp [results, Tryz.results15, go_sem]) rfl (RetW.nil HB.out)
  · have hl : wrsL n m V A r = [] := by unfold wrsL; rw [if_neg (fun h => hc h.1)]
    have he : wrsE n m V A r = chk n m V A := by unfold wrsE; rw [if_neg hc]
    rw [hl, he]
    have h1 : (chk n m V A == 0) = false := by simp [hc]
    generalize chk n m V A = c at *
    clear fV fA hV hA hl he fr
    generalize r.n = rn' at *
    generalize r.s = rs' at *
    generalize r.d = rd' at *
    go_enter Tryz.func15, Tryz.ntmps15
    go_wp2_with fail
    refine (HC.out _ HV.out HA.out).mono ?_
    rintro e w3 ⟨rfl, hb3⟩
    obtain ⟨H1, HB⟩ := boxes1 hb3
    have HB := Lib.hid HB
    clear hb3 HV HA HC H1
    go_wp2
    exact bodyPost_ret (v := .tuple #[.slice none 0 0, .int .i64 c]) (by simp [results, Tryz.results15, go_sem]) rfl (RetW.nil HB.out)
end Go.Proofs.Ins

set_option linter.unusedSimpArgs false
set_option linter.unusedVariables false
namespace Go.Proofs.Ins
open Go.RowKit

set_option maxRecDepth 100000 in
set_option maxHeartbeats 1600000 in
theorem rworse_any (v : V8) (x r : R3) (w : World) (hv : v.fits 1000) (hx : x.fits 1000) (hr : r.fits 1000) :
    Calls Tryz.prog 45 #[v.v, .agg #[.bool x.n, .string x.s, .string x.d], .agg #[.bool r.n, .string r.s, .string r.d]] w fun e w' => e = .returned (.bool (worB v x r)) ∧ Below w.heap.size w w' := by
  obtain ⟨⟨hv1, hv2⟩, hv3, hv4⟩ := hv
  obtain ⟨hx1, hx2⟩ := hx
  obtain ⟨hr1, hr2⟩ := hr
  have HC1 := Lib.hid (fun w => rcompare_any v.k.n v.k.s v.k.d r.n r.s r.d w (by omega) (by omega))
  have HM := Lib.hid (fun w => rmultiply_any v.a.n v.a.s v.a.d r.n r.s r.d w (by omega) (by omega))
  have hsm : Sm 4002 (rq v.a.n v.a.s v.a.d * rq r.n r.s r.d) := ((sm_raw v.a.n v.a.s v.a.d).mul (sm_raw r.n r.s r.d)).mono (by omega)
  have hC2 := fun w => rcompare_any x.n x.s x.d (rn (rq v.a.n v.a.s v.a.d * rq r.n r.s r.d)) (rs (rq v.a.n v.a.s v.a.d * rq r.n r.s r.d)) (rd (rq v.a.n v.a.s v.a.d * rq r.n r.s r.d)) w (by omega) (by have := hsm.rs; have := hsm.rd; omega)
  rw [rq_of] at hC2
  have HC2 := Lib.hid hC2
  have hT : worB v x r = (decide (0 < cmpR (rq v.k.n v.k.s v.k.d) (rq r.n r.s r.d)) && decide (0 < cmpR (rq x.n x.s x.d) (rq v.a.n v.a.s v.a.d * rq r.n r.s r.d))) := rfl
  rw [hT]
  unfold rv at HM
  unfold V8.v
  clear hsm hC2 hT hv1 hv2 hv3 hv4 hx1 hx2 hr1 hr2
  generalize cmpR (rq v.k.n v.k.s v.k.d) (rq r.n r.s r.d) = c1 at *
  generalize cmpR (rq x.n x.s x.d) (rq v.a.n v.a.s v.a.d * rq r.n r.s r.d) = c2 at *
  generalize rq v.a.n v.a.s v.a.d * rq r.n r.s r.d = M at *
  generalize rn M = m1 at *
  generalize rs M = m2 at *
  generalize rd M = m3 at *
  generalize x.n = xn at *
  generalize x.s = xs at *
  generalize x.d = xd at *
  generalize r.n = rn' at *
  generalize r.s = rs' at *
  generalize r.d = rd' at *
  generalize v.a.n = an at *
  generalize v.a.s = as' at *
  generalize v.a.d = ad at *
  generalize v.k.n = kn at *
  generalize v.k.s = ks at *
  generalize v.k.d = kd at *
  generalize v.p = vp at *
  generalize v.x = vx at *
  generalize hT : (decide (0 < c1) && decide (0 < c2)) = T
  have HT := Lib.hid hT
  clear hT
  go_enter Tryz.func45, Tryz.ntmps45
  go_wp2
  refine wp_forget (fun W => Blk W w.heap.size #[.int .i64 vp, .bool an, .string as', .string ad, .bool kn, .string ks, .string kd, .bool vx] ∧ Blk W (w.heap.size + 1) #[.bool xn, .string xs, .string xd] ∧ Blk W (w.heap.size + 1 + 1) #[.bool rn', .string rs', .string rd'] ∧ Below w.heap.size w W) (boxes_three w _ _ _ _ _ _) ?_
  rintro W ⟨H1, H2, H3, HB⟩
  obtain ⟨-, k1, k2, k3, k4, k5, k6, -⟩ := H1.later8
  obtain ⟨j1, j2, j3⟩ := H2.later3
  obtain ⟨l1, l2, l3⟩ := H3.later3
  have HBB := Lib.hid HB
  clear H1 H2 H3 HB
  by_cases h : 0 < c1
  · have e1 : decide (0 < c1) = true := decide_eq_true h
    have HE := Lib.hid (show decide (0 < c2) = T by rw [← HT.out, e1, Bool.true_and])
    clear h
    refine wp_region_qb (by kernel_rfl) (by kernel_rfl) ?_
    repeat (first | go_big_quiet_skip | (refine wpQuiet_step (fun K hK => ?_); go_simp; (try simp (disch := omega) only [IntWalk.i64_in, IntWalk.u64_in, IntWalk.u32_in, IntWalk.u16_in, IntWalk.u8_in, Int.tmod_eq_emod_of_nonneg, Int.tdiv_eq_ediv_of_nonneg]); (first | (refine hK _ ?_; clear hK K) | (apply Exists.intro; refine ⟨fun _ => ?_, hK _ ?_⟩; (first | with_reducible exact Calls.later (HC1.out _) | with_reducible exact Calls.later (HM.out _) | with_reducible exact Calls.later (HC2.out _)); clear hK K))))
    clear k1 k2 k3 k4 k5 k6 j1 j2 j3 l1 l2 l3
    refine wpQuiet_nil ?_
    intro W1 hb1
    have HB := Lib.hid (chain HBB.out hb1 (Nat.le_refl _))
    clear hb1
    go_wp2
    go_ret
    exact ⟨ret_bool HE.out, HB.out⟩
  · have e1 : decide (0 < c1) = false := decide_eq_false h
    have HE := Lib.hid (show false = T by rw [← HT.out, e1, Bool.false_and])
    clear h
    refine wp_region_qb (by kernel_rfl) (by kernel_rfl) ?_
    repeat (first | go_big_quiet_skip | (refine wpQuiet_step (fun K hK => ?_); go_simp; (try simp (disch := omega) only [IntWalk.i64_in, IntWalk.u64_in, IntWalk.u32_in, IntWalk.u16_in, IntWalk.u8_in, Int.tmod_eq_emod_of_nonneg, Int.tdiv_eq_ediv_of_nonneg]); (first | (refine hK _ ?_; clear hK K) | (apply Exists.intro; refine ⟨fun _ => ?_, hK _ ?_⟩; (first | with_reducible exact Calls.later (HC1.out _) | with_reducible exact Calls.later (HM.out _) | with_reducible exact Calls.later (HC2.out _)); clear hK K))))
    clear k1 k2 k3 k4 k5 k6 j1 j2 j3 l1 l2 l3
    refine wpQuiet_nil ?_
    intro W1 hb1
    have HB := Lib.hid (chain HBB.out hb1 (Nat.le_refl _))
    clear hb1
    go_wp2
    go_ret
    exact ⟨ret_bool HE.out, HB.out⟩

set_option maxRecDepth 100000 in
set_option maxHeartbeats 1600000 in
theorem rrate_any (r : R3) (w : World) (hr : r.fits 1000) :
    Calls Tryz.prog 44 #[.agg #[.bool r.n, .string r.s, .string r.d]] w fun e w' => e = .returned (.bool (inRB r.q)) ∧ Below w.heap.size w w' := by
  have hq : r.q = rq r.n r.s r.d := rfl
  obtain ⟨hr1, hr2⟩ := hr
  have HS := Lib.hid (fun w => rsign_any r.n r.s r.d w (by omega) (by omega))
  have h1s : Sm 1 (1 : Rat) := ⟨by decide, by decide⟩
  have HI := Lib.hid (fun w => rone_any w)
  have hC := fun w => rcompare_any r.n r.s r.d (rn 1) (rs 1) (rd 1) w (by omega) (by have := h1s.rs; have := h1s.rd; omega)
  rw [rq_of] at hC
  have HC := Lib.hid hC
  unfold inRB
  rw [hq]
  clear hC h1s hr1 hr2 hq
  generalize cmpR (rq r.n r.s r.d) 1 = c at *
  generalize sg (rq r.n r.s r.d) = s at *
  generalize rn 1 = o1 at *
  generalize rs 1 = o2 at *
  generalize rd 1 = o3 at *
  generalize r.n = rn' at *
  generalize r.s = rs' at *
  generalize r.d = rd' at *
  generalize hT : (decide (0 ≤ s) && decide (c ≤ 0)) = T
  have HT := Lib.hid hT
  clear hT
  go_enter Tryz.func44, Tryz.ntmps44
  go_wp2
  refine wp_forget (fun W => Blk W w.heap.size #[.bool rn', .string rs', .string rd'] ∧ Below w.heap.size w W) ⟨Blk.new w _ _, (Below.refl _ _).alloc (Nat.le_refl _) _⟩ ?_
  rintro W ⟨H1, HB⟩
  obtain ⟨k1, k2, k3⟩ := H1.later3
  have HBB := Lib.hid HB
  clear H1 HB
  by_cases h : 0 ≤ s
  · have e1 : decide (0 ≤ s) = true := decide_eq_true h
    have HE := Lib.hid (show decide (c ≤ 0) = T by rw [← HT.out, e1, Bool.true_and])
    clear h
    refine wp_region_qb (by kernel_rfl) (by kernel_rfl) ?_
    repeat (first | go_big_quiet_skip | (refine wpQuiet_step (fun K hK => ?_); go_simp; (try simp (disch := omega) only [IntWalk.i64_in, IntWalk.u64_in, IntWalk.u32_in, IntWalk.u16_in, IntWalk.u8_in, Int.tmod_eq_emod_of_nonneg, Int.tdiv_eq_ediv_of_nonneg]); (first | (refine hK _ ?_; clear hK K) | (apply Exists.intro; refine ⟨fun _ => ?_, hK _ ?_⟩; (first | with_reducible exact Calls.later (HS.out _) | with_reducible exact Calls.later (HI.out _) | with_reducible exact Calls.later (HC.out _)); clear hK K))))
    clear k1 k2 k3
    refine wpQuiet_nil ?_
    intro W1 hb1
    have HB := Lib.hid (chain HBB.out hb1 (Nat.le_refl _))
    clear hb1
    go_wp2
    go_ret
    exact ⟨ret_bool HE.out, HB.out⟩
  · have e1 : decide (0 ≤ s) = false := decide_eq_false h
    have HE := Lib.hid (show false = T by rw [← HT.out, e1, Bool.false_and])
    clear h
    refine wp_region_qb (by kernel_rfl) (by kernel_rfl) ?_
    repeat (first | go_big_quiet_skip | (refine wpQuiet_step (fun K hK => ?_); go_simp; (try simp (disch := omega) only [IntWalk.i64_in, IntWalk.u64_in, IntWalk.u32_in, IntWalk.u16_in, IntWalk.u8_in, Int.tmod_eq_emod_of_nonneg, Int.tdiv_eq_ediv_of_nonneg]); (first | (refine hK _ ?_; clear hK K) | (apply Exists.intro; refine ⟨fun _ => ?_, hK _ ?_⟩; (first | with_reducible exact Calls.later (HS.out _) | with_reducible exact Calls.later (HI.out _) | with_reducible exact Calls.later (HC.out _)); clear hK K))))
    clear k1 k2 k3
    refine wpQuiet_nil ?_
    intro W1 hb1
    have HB := Lib.hid (chain HBB.out hb1 (Nat.le_refl _))
    clear hb1
    go_wp2
    go_ret
    exact ⟨ret_bool HE.out, HB.out⟩

set_option maxRecDepth 100000 in
set_option maxHeartbeats 1600000 in
theorem rworses_any (a1 : Option Addr) (n c1 : Nat) (a2 : Option Addr) (m c2 : Nat) (V : Nat → V8) (A : Nat → R3) (r : R3) (w : World) (hV : SArg w a1 n 8 fun i => (V i).c) (hA : SArg w a2 m 3 fun i => (A i).c)
    (fV : ∀ i, i < n → (V i).fits 1000) (fA : ∀ i, i < m → (A i).fits 1000) (fr : r.fits 1000) (hn : n ≤ 1000000) (hm : m ≤ 1000000) :
    Calls Tryz.prog 17 #[.slice a1 n c1, .slice a2 m c2, .agg #[.bool r.n, .string r.s, .string r.d]] w (RetW w 3 (wrsL n m V A r) (wrsE n m V A r)) := by
  have HC := Lib.hid (fun w (h1 : SArg w a1 n 8 fun i => (V i).c) (h2 : SArg w a2 m 3 fun i => (A i).c) => rcheck_any a1 n c1 a2 m c2 V A w h1 h2 fV fA (by omega) (by omega))
  have HI := Lib.hid (fun w => rrate_any r w fr)
  have HV := Lib.hid (hV.on ((Below.refl w.heap.size w).alloc (Nat.le_refl _) (.cells #[.bool r.n, .string r.s, .string r.d] 30)))
  have HA := Lib.hid (hA.on ((Below.refl w.heap.size w).alloc (Nat.le_refl _) (.cells #[.bool r.n, .string r.s, .string r.d] 30)))
  have HV0 := Lib.hid hV
  have HA0 := Lib.hid hA
  by_cases hc : chk n m V A = 0
  · have hmn : m = n := by
      unfold chk at hc
      by_cases h1 : 64 < n
      · rw [if_pos h1] at hc; cases hc
      · rw [if_neg h1] at hc
        by_cases h2 : m = n
        · exact h2
        · rw [if_pos h2] at hc; cases hc
    subst hmn
    have hl : wrsL m m V A r = if inRB r.q = true then wixs V A r m else [] := by unfold wrsL; simp [hc]
    have he : wrsE m m V A r = if inRB r.q = true then 0 else 1 := by unfold wrsE; rw [if_pos hc]
    rw [hl, he]
    rw [hc] at HC
    have HFV := Lib.hid fV
    have HFA := Lib.hid fA
    have HFR := Lib.hid fr
    have HW := Lib.hid (fun k (h : k < m) w => rworse_any (V k) (A k) r w (HFV.out k h) (HFA.out k h) HFR.out)
    have HY := Lib.hid (fun k => wixs_yes (V := V) (A := A) (r := r) (k := k))
    have HN := Lib.hid (fun k => wixs_no (V := V) (A := A) (r := r) (k := k))
    have HLEN := Lib.hid (wixs_len V A r)
    have HZ := Lib.hid (wixs_zero V A r)
    generalize hwx : wixs V A r = X at *
    clear hwx hl he fV fA fr hV hA hc
    by_cases hi : inRB r.q = true
    · rw [if_pos hi, if_pos hi]
      rw [hi] at HI
      clear hi
      generalize r.n = rn' at *
      generalize r.s = rs' at *
      generalize r.d = rd' at *
      go_enter Tryz.func17, Tryz.ntmps17
      go_wp2_with fail
      refine (HC.out _ HV.out HA.out).mono ?_
      rintro e w3 ⟨rfl, hb3⟩
      obtain ⟨H1, HB⟩ := boxes1 hb3
      have hz3 := H1.lt
      have H1 := Lib.hid H1
      have HB := Lib.hid HB
      obtain ⟨k0, k1, k2, -, -, -⟩ := H1.out.get3
      clear hb3 HV HA HC
      go_wp2_with fail
      refine (HI.out _).mono ?_
      rintro e w4 ⟨rfl, hb4⟩
      have H1 := Lib.hid (H1.out.on hb4)
      have HB := Lib.hid (chain HB.out hb4 (Nat.le_refl _))
      have hz4 := H1.out.lt
      clear hb4 HI k0 k1 k2
      go_wp2_with fail
      go_loopw [9, 10] (fun v i wr => ∃ k : Nat, i = .int .i64 k ∧ k ≤ m ∧ Blk wr w.heap.size #[.bool rn', .string rs', .string rd'] ∧ SOwn wr (w.heap.size + 1) 3 1 v (X k).length (cI (X k)) ∧ Below w.heap.size w wr) (fun _ i _ => m - (intOf i).toNat)
      case atStart => exact ⟨0, rfl, by omega, H1.out, by rw [HZ.out]; exact SOwn.nil _ _ _ _ _, HB.out⟩
      case round =>
        obtain ⟨k, rfl, hk, J1, hown, hbel⟩ := hrel
        have HB4 := Lib.hid hbel
        have HO := Lib.hid hown
        have J1 := Lib.hid J1
        have hzr := J1.out.lt
        have hzw := hbel.size
        clear hown
        by_cases hlt : k < m
        · skip
          rcases HV0.out with h0 | ⟨bv, ov, rfl, lv, rv'⟩
          · omega
          rcases HA0.out with h0 | ⟨ba, oa, rfl, la, ra⟩
          · omega
          obtain ⟨v0, v1, v2, v3, v4, v5, v6, v7⟩ := (rv'.below hbel lv).v8 hlt
          have HCA := Lib.hid (fun W (h : Below w.heap.size w W) => (ra.below h la).r3 hlt)
          have HWK := Lib.hid (HW.out k hlt)
          have HYK := Lib.hid (HY.out k)
          have HNK := Lib.hid (HN.out k)
          have HLK := HLEN.out k
          unfold V8.v at HWK
          clear hbel rv' ra HW HY HN HLEN HV0 HA0 HFV HFA
          generalize hwb : worB (V k) (A k) r = WB at *
          clear hwb
          generalize (V k).p = vp at *
          generalize (V k).a.n = an at *
          generalize (V k).a.s = as' at *
          generalize (V k).a.d = ad at *
          generalize (V k).k.n = kn at *
          generalize (V k).k.s = ks at *
          generalize (V k).k.d = kd at *
          generalize (V k).x = vx at *
          generalize (A k).n = xn at *
          generalize (A k).s = xs at *
          generalize (A k).d = xd at *
          have i1 : (0 : Int) ≤ (k : Int) := by omega
          have i2 : (k : Int) < (m : Int) := by omega
          obtain ⟨q0, q1, q2⟩ := HCA.out wr HB4.out
          obtain ⟨l0, l1, l2⟩ := J1.out.later3
          have m0 := cell_regrown q0
          have m1 := cell_regrown q1
          have m2 := cell_regrown q2
          have g0 := cell_regrown v0
          have g1 := cell_regrown v1
          have g2 := cell_regrown v2
          have g3 := cell_regrown v3
          have g4 := cell_regrown v4
          have g5 := cell_regrown v5
          have g6 := cell_regrown v6
          have g7 := cell_regrown v7
          have G2 := Lib.hid J1.out
          have G3 := Lib.hid HO.out
          have HBW := Lib.hid HB4.out
          clear q0 q1 q2 v0 v1 v2 v3 v4 v5 v6 v7 J1 HO
          go_wp2
          refine wp_region_qb (by kernel_rfl) (by kernel_rfl) ?_
          repeat (first | go_big_quiet_skip | (refine wpQuiet_step (fun K hK => ?_); go_simp; (try simp (disch := omega) only [IntWalk.i64_in, IntWalk.u64_in, IntWalk.u32_in, IntWalk.u16_in, IntWalk.u8_in, Int.tmod_eq_emod_of_nonneg, Int.tdiv_eq_ediv_of_nonneg]); (first | (refine hK _ ?_; clear hK K) | (apply Exists.intro; refine ⟨fun _ => ?_, hK _ ?_⟩; (first | with_reducible exact Calls.later (HWK.out _)); clear hK K))))
          clear g0 g1 g2 g3 g4 g5 g6 g7 l0 l1 l2 m0 m1 m2
          refine wpQuiet_nil ?_
          intro W1 hb1
          have G2 := Lib.hid (G2.out.on hb1)
          have G3 := Lib.hid (G3.out.below hb1 (Nat.le_refl _))
          have HBX := Lib.hid (chain HBW.out hb1 (Nat.le_refl _))
          have hzx := HBX.out.size
          have hg2 := G2.out.lt
          clear hb1
          cases WB
          · have HNX := Lib.hid (HNK.out rfl)
            go_wp2
            go_roundw
            case rel => exact ⟨k + 1, by go_num, by omega, G2.out, by rw [HNX.out]; exact G3.out, HBX.out⟩
            case measure => simp [intOf]; omega
          · have HYX := Lib.hid (HYK.out rfl)
            go_wp2_with (refine wpList_appendS _ _ 39 3 1 8 (w.heap.size + 1) _ _ _ [.int .i64 (k : Int)] (by rfl) (by rfl) Tryz.underlying39 intInfo (by omega) (by rfl) (by rfl) (by simp [Value.oneCell']) (by rfl) G3.out (by omega) (by omega) (by omega) ?_; intro v9 w9 ho9 hb9; have HO9 := Lib.hid ho9; have HB9 := Lib.hid hb9; clear ho9 hb9)
            go_roundw
            case rel =>
              refine ⟨k + 1, by go_num, by omega, G2.out.below HB9.out (by omega), ?_, HBX.out.trans (HB9.out.mono (by omega))⟩
              rw [HYX.out, List.length_append]
              exact HO9.out.congr fun j hj => cI_snoc _ _ j hj
            case measure => simp [intOf]; omega
        · obtain rfl : k = m := by omega
          have hnl : decide ((k : Int) < (k : Int)) = false := by simp
          go_wp2
          exact bodyPost_ret (v := .tuple #[u9, .int .i64 0]) (by simp [results, Tryz.results17, go_sem]) rfl ⟨_, rfl, HO.out.mono (by omega), HB4.out⟩
    · rw [if_neg hi, if_neg hi]
      have hi2 : inRB r.q = false := Bool.eq_false_iff.mpr hi
      rw [hi2] at HI
      clear hi hi2
      generalize r.n = rn' at *
      generalize r.s = rs' at *
      generalize r.d = rd' at *
      go_enter Tryz.func17, Tryz.ntmps17
      go_wp2_with fail
      refine (HC.out _ HV.out HA.out).mono ?_
      rintro e w3 ⟨rfl, hb3⟩
      obtain ⟨H1, HB⟩ := boxes1 hb3
      have HB := Lib.hid HB
      obtain ⟨k0, k1, k2, -, -, -⟩ := H1.get3
      clear hb3 HV HA HC H1
      go_wp2_with fail
      refine (HI.out _).mono ?_
      rintro e w4 ⟨rfl, hb4⟩
      have HB := Lib.hid (chain HB.out hb4 (Nat.le_refl _))
      clear hb4 HI k0 k1 k2
      go_wp2
      exact bodyPost_ret (v := .tuple #[.slice none 0 0, .int .i64 1]) (by simp [results, Tryz.results17, go_sem]) rfl (RetW.nil HB.out)
  · have hl : wrsL n m V A r = [] := by unfold wrsL; rw [if_neg (fun h => hc h.1)]
    have he : wrsE n m V A r = chk n m V A := by unfold wrsE; rw [if_neg hc]
    rw [hl, he]
    have h1 : (chk n m V A == 0) = false := by simp [hc]
    generalize chk n m V A = c at *
    clear fV fA hV hA hl he fr
    generalize r.n = rn' at *
    generalize r.s = rs' at *
    generalize r.d = rd' at *
    go_enter Tryz.func17, Tryz.ntmps17
    go_wp2_with fail
    refine (HC.out _ HV.out HA.out).mono ?_
    rintro e w3 ⟨rfl, hb3⟩
    obtain ⟨H1, HB⟩ := boxes1 hb3
    have HB := Lib.hid HB
    clear hb3 HV HA HC H1
    go_wp2
    exact bodyPost_ret (v := .tuple #[.slice none 0 0, .int .i64 c]) (by simp [results, Tryz.results17, go_sem]) rfl (RetW.nil HB.out)
end Go.Proofs.Ins

set_option linter.unusedSimpArgs false
set_option linter.unusedVariables false
namespace Go.Proofs.Ins
open Go.RowKit

set_option maxRecDepth 100000 in
set_option maxHeartbeats 1600000 in
theorem sameints_any (a1 : Option Addr) (c1 : Nat) (a2 : Option Addr) (c2 : Nat) (l : List Nat) (w : World) (h1 : SArg w a1 l.length 1 (cI l)) (h2 : SArg w a2 l.length 1 (cI l)) (hl : l.length ≤ 1000000) :
    Calls Tryz.prog 18 #[.slice a1 l.length c1, .slice a2 l.length c2] w fun e w' => e = .returned (.bool true) ∧ Below w.heap.size w w' := by
  have H1 := Lib.hid h1
  have H2 := Lib.hid h2
  generalize l.length = n at *
  clear h1 h2
  go_enter Tryz.func18, Tryz.ntmps18
  go_wp2
  go_loopw [5] (fun i wr => ∃ k : Nat, i = .int .i64 k ∧ k ≤ n ∧ Below w.heap.size w wr) (fun i _ => n - (intOf i).toNat)
  case atStart => exact ⟨0, rfl, by omega, Below.refl _ _⟩
  case round =>
    obtain ⟨k, rfl, hk, hbel⟩ := hrel
    have HB4 := Lib.hid hbel
    have hzr := hbel.size
    by_cases hlt : k < n
    · skip
      rcases H1.out with h0 | ⟨b1, o1, rfl, lb1, r1⟩
      · omega
      rcases H2.out with h0 | ⟨b2, o2, rfl, lb2, r2⟩
      · omega
      have e1 := (r1.below hbel lb1) k 0 hlt (by omega)
      have e2 := (r2.below hbel lb2) k 0 hlt (by omega)
      unfold cI at e1 e2
      rw [Nat.mul_one, Nat.add_zero] at e1 e2
      generalize ((l.getD k 0 : Nat) : Int) = x at *
      have m1 := cell_regrown (show wr.cell? ⟨b1, o1 + k, none⟩ = some (.int .i64 x) from e1)
      have m2 := cell_regrown (show wr.cell? ⟨b2, o2 + k, none⟩ = some (.int .i64 x) from e2)
      have i1 : (0 : Int) ≤ (k : Int) := by omega
      have i2 : (k : Int) < (n : Int) := by omega
      clear e1 e2 r1 r2 H1 H2 hbel
      go_wp2
      refine wp_region_qb (by kernel_rfl) (by kernel_rfl) ?_
      repeat (first | go_big_quiet_skip | (refine wpQuiet_step (fun K hK => ?_); go_simp; (try simp (disch := omega) only [IntWalk.i64_in, IntWalk.u64_in, IntWalk.u32_in, IntWalk.u16_in, IntWalk.u8_in, Int.tmod_eq_emod_of_nonneg, Int.tdiv_eq_ediv_of_nonneg]); (first | (refine hK _ ?_; clear hK K) | (apply Exists.intro; refine ⟨fun _ => ?_, hK _ ?_⟩; (fail); clear hK K))))
      clear m1 m2
      refine wpQuiet_nil ?_
      intro W1 hb1
      have HB := Lib.hid (chain HB4.out hb1 (Nat.le_refl _))
      clear hb1
      go_wp2
      go_roundw
      case rel => exact ⟨k + 1, by go_num, by omega, HB.out⟩
      case measure => simp [intOf]; omega
    · obtain rfl : k = n := by omega
      have hnl : decide ((k : Int) < (k : Int)) = false := by simp
      go_wp2
      go_ret
      exact ⟨rfl, HB4.out⟩

set_option maxRecDepth 100000 in
set_option maxHeartbeats 6400000 in
theorem law_worse (a1 : Option Addr) (n1 c1 : Nat) (a2 : Option Addr) (n2 c2 : Nat) (t : Nat) (a3 : Option Addr) (n3 c3 : Nat) (a4 : Option Addr) (n4 c4 : Nat) (r : R3) (L : Nat → Nat → Nat) (M : Nat → Nat) (V : Nat → V8) (Q : Nat → R3) (w : World)
    (h1 : SArg w a1 n1 4 (u16c L)) (h2 : SArg w a2 n2 1 (c16 M)) (h3 : SArg w a3 n3 8 fun i => (V i).c) (h4 : SArg w a4 n4 3 fun i => (Q i).c)
    (b1 : ∀ i j, i < n1 → L i j ≤ 65535) (b2 : ∀ i, i < n2 → M i ≤ 65535) (ht : t ≤ 255) (fV : ∀ i, i < n3 → (V i).a.fits 140737488351232 ∧ (V i).k.fits 140737488351232) (fQ : ∀ i, i < n4 → (Q i).fits 140737488351232) (fr : r.fits 140737488351232)
    (l1 : n1 ≤ 140737488351232) (l2 : n2 ≤ 140737488351232) (l3 : n3 ≤ 140737488351232) (l4 : n4 ≤ 140737488351232) :
    Calls Tryz.prog 4 #[.slice a1 n1 c1, .slice a2 n2 c2, .int .u8 (t : Int), .slice a3 n3 c3, .slice a4 n4 c4, .agg #[.bool r.n, .string r.s, .string r.d]] w fun e w' => e = .returned (.bool true) ∧ Below w.heap.size w w' := by
  have HW := Lib.hid awake_any
  have HFew := Lib.hid (fun w h3 h4 => few_law a3 n3 c3 a4 n4 c4 V Q w h3 h4 fV fQ l3 l4)
  have HFR := Lib.hid (fun w => few_r3 r w fr)
  have HB0 := (Below.refl w.heap.size w).alloc (Nat.le_refl _) (.cells #[.bool r.n, .string r.s, .string r.d] 30)
  have S3 := Lib.hid (h3.on HB0)
  have S4 := Lib.hid (h4.on HB0)
  have H1 := Lib.hid h1
  have H2 := Lib.hid h2
  have H3 := Lib.hid h3
  have H4 := Lib.hid h4
  have HSM := Lib.hid sameints_any
  by_cases hf : fewL n3 n4 V Q = true
  · have hg := fewL_get hf
    obtain ⟨g1, g2, g3, g4⟩ := hg
    rw [hf] at HFew
    by_cases hs : smallB r = true
    · have hr : r.fits 24 := of_decide_eq_true (p := r.s.size ≤ 24 ∧ r.d.size ≤ 24) hs
      rw [hs] at HFR
      have HV := Lib.hid (fun w (h : SArg w a1 n1 4 (u16c L)) => voters_any a1 n1 c1 L w h b1 l1)
      have HX := Lib.hid (fun w m (h : SArg w a2 n2 1 (c16 M)) (hm : m ≤ 1000000) => values_any a2 n2 c2 m M w h b2 l2 hm)
      have hRt := fun w => ratio_any ((t : Int) % 14) 12 w (by omega) (by omega) (by omega) (by omega)
      have hsr : Sm 4 ((((t : Int) % 14 : Int) : Rat) / ((12 : Int) : Rat)) := sm_frac (by omega) (by omega) (by omega)
      generalize hqt : (((t : Int) % 14 : Int) : Rat) / ((12 : Int) : Rat) = qt at *
      have fqt : (ofQ qt).fits 1000 := ofQ_fits (hsr.mono (by omega))
      have HRt := Lib.hid hRt
      have fr' : r.fits 1000 := ⟨by have := hr.1; omega, by have := hr.2; omega⟩
      have fV' : ∀ i, i < n3 → (V i).fits 1000 := fun i hi => by
        have := g4 i hi
        exact ⟨⟨by have := this.1.1; omega, by have := this.1.2; omega⟩, ⟨by have := this.2.1; omega, by have := this.2.2; omega⟩⟩
      have fQ' : ∀ i, i < n4 → (Q i).fits 1000 := fun i hi => ⟨by have := (g3 i hi).1; omega, by have := (g3 i hi).2; omega⟩
      have HP := Lib.hid (fun a c a' c' w (h : SArg w a (min n1 7) 8 fun i => (votV L i).c) (h' : SArg w a' (min n1 7) 3 fun i => (valR M n2 i).c) => worses_any a (min n1 7) c a' (min n1 7) c' (votV L) (valR M n2) (ofQ qt) w h h' (fun i _ => votV_fits L i) (fun i _ => valR_fits M n2 i) fqt (by omega) (by omega))
      have HR := Lib.hid (fun a c a' c' w (h : SArg w a (min n1 7) 8 fun i => (votV L i).c) (h' : SArg w a' (min n1 7) 3 fun i => (valR M n2 i).c) => rworses_any a (min n1 7) c a' (min n1 7) c' (votV L) (valR M n2) (ofQ qt) w h h' (fun i _ => votV_fits L i) (fun i _ => valR_fits M n2 i) fqt (by omega) (by omega))
      have HP2 := Lib.hid (fun w (h : SArg w a3 n3 8 fun i => (V i).c) (h' : SArg w a4 n4 3 fun i => (Q i).c) => worses_any a3 n3 c3 a4 n4 c4 V Q r w h h' fV' fQ' fr' (by omega) (by omega))
      have HR2 := Lib.hid (fun w (h : SArg w a3 n3 8 fun i => (V i).c) (h' : SArg w a4 n4 3 fun i => (Q i).c) => rworses_any a3 n3 c3 a4 n4 c4 V Q r w h h' fV' fQ' fr' (by omega) (by omega))
      have hln1 : (wrsL (min n1 7) (min n1 7) (votV L) (valR M n2) (ofQ qt)).length ≤ 1000000 := by
        unfold wrsL; split
        · exact Nat.le_trans (wixs_len _ _ _ _) (by omega)
        · simp
      have hln2 : (wrsL n3 n4 V Q r).length ≤ 1000000 := by
        unfold wrsL; split
        · exact Nat.le_trans (wixs_len _ _ _ _) (by omega)
        · simp
      generalize wrsL (min n1 7) (min n1 7) (votV L) (valR M n2) (ofQ qt) = ls1 at *
      generalize wrsE (min n1 7) (min n1 7) (votV L) (valR M n2) (ofQ qt) = er1 at *
      generalize wrsL n3 n4 V Q r = ls2 at *
      generalize wrsE n3 n4 V Q r = er2 at *
      unfold ofQ at HP HR
      have hk : min n1 7 ≤ 7 := by omega
      generalize min n1 7 = k at *
      generalize rn qt = q1 at *
      generalize rs qt = q2 at *
      generalize rd qt = q3 at *
      generalize r.n = rn' at *
      generalize r.s = rs' at *
      generalize r.d = rd' at *
      have ht0 : (0 : Int) ≤ (t : Int) := by omega
      clear h1 h2 h3 h4 b1 b2 fV fQ fr g3 g4 fV' fQ' hf hs hr hqt hRt hsr fqt fr' HB0
      go_enter Tryz.func4, Tryz.ntmps4
      go_wp2_with fail
      refine (HFew.out _ S3.out S4.out).mono ?_; rintro e w1 ⟨rfl, hb1⟩
      obtain ⟨J, HB⟩ := boxes1 hb1
      have J := Lib.hid J
      have HB := Lib.hid HB
      obtain ⟨k0, k1, k2, -, -, -⟩ := J.out.get3
      clear hb1 S3 S4
      go_wp2_with fail
      refine (HFR.out _).mono ?_; rintro e w2 ⟨rfl, hb2⟩
      have J := Lib.hid (J.out.on hb2)
      have HB := Lib.hid (chain HB.out hb2 (Nat.le_refl _))
      have hz2 := HB.out.size
      clear hb2 k0 k1 k2
      go_wp2_with fail
      refine (HV.out _ (H1.out.on HB.out)).mono ?_; rintro e w3 ⟨av, cv, rfl, hcv, hcv2, sv, hb3⟩
      have J := Lib.hid (J.out.on hb3)
      have HB := Lib.hid (chain HB.out hb3 (Nat.le_refl _))
      have HSV := Lib.hid sv
      clear hb3 sv
      go_wp2_with fail
      refine (HX.out _ k (H2.out.on HB.out) (by omega)).mono ?_; rintro e w4 ⟨vx, rfl, hox, hb4⟩
      obtain ⟨ax, cx, rfl, -, -, sx⟩ := hox.arg
      have J := Lib.hid (J.out.on hb4)
      have HB := Lib.hid (chain HB.out hb4 (Nat.le_refl _))
      have HSV := Lib.hid (HSV.out.on hb4)
      have HSX := Lib.hid sx
      clear hb4 sx hox
      go_wp2_with fail
      refine (HRt.out _).mono ?_; rintro e w5 ⟨rfl, hb5⟩
      have J := Lib.hid (J.out.on hb5)
      have HB := Lib.hid (chain HB.out hb5 (Nat.le_refl _))
      have HSV := Lib.hid (HSV.out.on hb5)
      have HSX := Lib.hid (HSX.out.on hb5)
      clear hb5
      go_wp2_with fail
      refine (HP.out _ _ _ _ _ HSV.out HSX.out).mono ?_; rintro e w6 ⟨v6, rfl, ho6, hb6⟩
      obtain ⟨a6, c6, rfl, -, -, s6⟩ := ho6.arg
      have J := Lib.hid (J.out.on hb6)
      have HB := Lib.hid (chain HB.out hb6 (Nat.le_refl _))
      have HSV := Lib.hid (HSV.out.on hb6)
      have S6 := Lib.hid s6
      clear hb6 ho6 s6 HSX
      go_wp2_with fail
      refine (HX.out _ k (H2.out.on HB.out) (by omega)).mono ?_; rintro e w7 ⟨vx, rfl, hox, hb7⟩
      obtain ⟨ax, cx, rfl, -, -, sx⟩ := hox.arg
      have J := Lib.hid (J.out.on hb7)
      have HB := Lib.hid (chain HB.out hb7 (Nat.le_refl _))
      have HSV := Lib.hid (HSV.out.on hb7)
      have HSX := Lib.hid sx
      have S6 := Lib.hid (S6.out.on hb7)
      clear hb7 sx hox
      go_wp2_with fail
      refine (HRt.out _).mono ?_; rintro e w8 ⟨rfl, hb8⟩
      have J := Lib.hid (J.out.on hb8)
      have HB := Lib.hid (chain HB.out hb8 (Nat.le_refl _))
      have HSV := Lib.hid (HSV.out.on hb8)
      have HSX := Lib.hid (HSX.out.on hb8)
      have S6 := Lib.hid (S6.out.on hb8)
      clear hb8
      go_wp2_with fail
      refine (HR.out _ _ _ _ _ HSV.out HSX.out).mono ?_; rintro e w9 ⟨v9, rfl, ho9, hb9⟩
      obtain ⟨a9, c9, rfl, -, -, s9⟩ := ho9.arg
      have J := Lib.hid (J.out.on hb9)
      have HB := Lib.hid (chain HB.out hb9 (Nat.le_refl _))
      have S6 := Lib.hid (S6.out.on hb9)
      have S9 := Lib.hid s9
      obtain ⟨k0, k1, k2, -, -, -⟩ := J.out.get3
      clear hb9 ho9 s9 HSX HSV
      go_wp2_with fail
      refine (HP2.out _ (H3.out.on HB.out) (H4.out.on HB.out)).mono ?_; rintro e w10 ⟨v10, rfl, ho10, hb10⟩
      obtain ⟨a10, c10, rfl, -, -, s10⟩ := ho10.arg
      have J := Lib.hid (J.out.on hb10)
      have HB := Lib.hid (chain HB.out hb10 (Nat.le_refl _))
      have S6 := Lib.hid (S6.out.on hb10)
      have S9 := Lib.hid (S9.out.on hb10)
      have S10 := Lib.hid s10
      clear hb10 ho10 s10 k0 k1 k2
      obtain ⟨k0, k1, k2, -, -, -⟩ := J.out.get3
      go_wp2_with fail
      refine (HR2.out _ (H3.out.on HB.out) (H4.out.on HB.out)).mono ?_; rintro e w11 ⟨v11, rfl, ho11, hb11⟩
      obtain ⟨a11, c11, rfl, -, -, s11⟩ := ho11.arg
      have HB := Lib.hid (chain HB.out hb11 (Nat.le_refl _))
      have S6 := Lib.hid (S6.out.on hb11)
      have S9 := Lib.hid (S9.out.on hb11)
      have S10 := Lib.hid (S10.out.on hb11)
      have S11 := Lib.hid s11
      clear hb11 ho11 s11 k0 k1 k2
      go_wp2_with fail
      refine (HW.out _).mono ?_; rintro e w12 ⟨rfl, hb12⟩
      have HB := Lib.hid (chain HB.out hb12 (Nat.le_refl _))
      have S6 := Lib.hid (S6.out.on hb12)
      have S9 := Lib.hid (S9.out.on hb12)
      have S10 := Lib.hid (S10.out.on hb12)
      have S11 := Lib.hid (S11.out.on hb12)
      clear hb12
      go_wp2_with fail
      refine (HSM.out _ _ _ _ ls1 _ S6.out S9.out hln1).mono ?_; rintro e w13 ⟨rfl, hb13⟩
      have HB := Lib.hid (chain HB.out hb13 (Nat.le_refl _))
      have S10 := Lib.hid (S10.out.on hb13)
      have S11 := Lib.hid (S11.out.on hb13)
      clear hb13 S6 S9
      go_wp2_with fail
      refine (HSM.out _ _ _ _ ls2 _ S10.out S11.out hln2).mono ?_; rintro e w14 ⟨rfl, hb14⟩
      have HB := Lib.hid (chain HB.out hb14 (Nat.le_refl _))
      clear hb14 S10 S11
      go_wp2
      go_ret
      exact ⟨rfl, HB.out⟩
    · have hs2 : smallB r = false := Bool.eq_false_iff.mpr hs
      rw [hs2] at HFR
      generalize r.n = rn' at *
      generalize r.s = rs' at *
      generalize r.d = rd' at *
      clear h1 h2 h3 h4 b1 b2 fV fQ hf hs hs2 g1 g2 g3 g4
      go_enter Tryz.func4, Tryz.ntmps4
      go_wp2_with fail
      refine (HFew.out _ S3.out S4.out).mono ?_; rintro e w1 ⟨rfl, hb1⟩
      obtain ⟨J, HB⟩ := boxes1 hb1
      have J := Lib.hid J
      have HB := Lib.hid HB
      obtain ⟨k0, k1, k2, -, -, -⟩ := J.out.get3
      clear hb1 S3 S4
      go_wp2_with fail
      refine (HFR.out _).mono ?_; rintro e w2 ⟨rfl, hb2⟩
      have HB := Lib.hid (chain HB.out hb2 (Nat.le_refl _))
      clear hb2 k0 k1 k2
      go_wp2_with fail
      refine (HW.out _).mono ?_; rintro e w4 ⟨rfl, hb4⟩
      have HB := Lib.hid (chain HB.out hb4 (Nat.le_refl _))
      clear hb4
      go_wp2
      go_ret
      exact ⟨rfl, HB.out⟩
  · have hf2 : fewL n3 n4 V Q = false := Bool.eq_false_iff.mpr hf
    rw [hf2] at HFew
    generalize r.n = rn' at *
    generalize r.s = rs' at *
    generalize r.d = rd' at *
    clear h1 h2 h3 h4 b1 b2 fV fQ hf hf2
    go_enter Tryz.func4, Tryz.ntmps4
    go_wp2_with fail
    refine (HFew.out _ S3.out S4.out).mono ?_; rintro e w1 ⟨rfl, hb1⟩
    have HB := Lib.hid (boxes1 hb1).2
    clear hb1 S3 S4
    go_wp2_with fail
    refine (HW.out _).mono ?_; rintro e w4 ⟨rfl, hb4⟩
    have HB := Lib.hid (chain HB.out hb4 (Nat.le_refl _))
    clear hb4
    go_wp2
    go_ret
    exact ⟨rfl, HB.out⟩
end Go.Proofs.Ins
