/- Plain facts on who is worse off. -/
import Derived.Test.YtobbllakdjampaaGreatDoorL5
import Derived.Test.YtobbllakdjampaaGreatDoorL6
import Derived.Test.YtobbllakdjampaaGreatDoorL9

set_option linter.unusedSimpArgs false
set_option linter.unusedVariables false
namespace Go.Proofs.Ins
open Go.RowKit

/-- Whether a voter is worse off and does not accept. -/
def worB (v : V8) (x r : R3) : Bool := decide (0 < cmpR v.k.q r.q) && decide (0 < cmpR x.q (v.a.q * r.q))
/-- Whether a number lies between 0 and 1. -/
def inRB (q : Rat) : Bool := decide (0 ≤ sg q) && decide (cmpR q 1 ≤ 0)

theorem boxes_two (w : World) (vs us : Array Value) (T U : TypeId) : Blk ((w.alloc (.cells vs T)).alloc (.cells us U)) w.heap.size vs ∧ Blk ((w.alloc (.cells vs T)).alloc (.cells us U)) (w.heap.size + 1) us ∧ Below w.heap.size w ((w.alloc (.cells vs T)).alloc (.cells us U)) := by
  refine ⟨(Blk.new w vs T).alloc _, ?_, ((Below.refl _ _).alloc (Nat.le_refl _) _).alloc (by simp) _⟩
  have := Blk.new (w.alloc (.cells vs T)) us U
  rwa [World.size_alloc] at this
theorem boxes_three (w : World) (vs us ts : Array Value) (T U V : TypeId) : Blk (((w.alloc (.cells vs T)).alloc (.cells us U)).alloc (.cells ts V)) w.heap.size vs ∧ Blk (((w.alloc (.cells vs T)).alloc (.cells us U)).alloc (.cells ts V)) (w.heap.size + 1) us ∧ Blk (((w.alloc (.cells vs T)).alloc (.cells us U)).alloc (.cells ts V)) (w.heap.size + 1 + 1) ts ∧ Below w.heap.size w (((w.alloc (.cells vs T)).alloc (.cells us U)).alloc (.cells ts V)) := by
  obtain ⟨h1, h2, h3⟩ := boxes_two w vs us T U
  refine ⟨h1.alloc _, h2.alloc _, ?_, h3.alloc (by simp; omega) _⟩
  have := Blk.new ((w.alloc (.cells vs T)).alloc (.cells us U)) ts V
  rwa [World.size_alloc, World.size_alloc] at this
theorem Blk.later8 {w : World} {b : Nat} {v0 v1 v2 v3 v4 v5 v6 v7 : Value} (h : Blk w b #[v0, v1, v2, v3, v4, v5, v6, v7]) :
    (∀ d os, (Sort.grow (redrawn w d) os).cell? ⟨b, 0, none⟩ = some v0) ∧ (∀ d os, (Sort.grow (redrawn w d) os).cell? ⟨b, 1, none⟩ = some v1) ∧ (∀ d os, (Sort.grow (redrawn w d) os).cell? ⟨b, 2, none⟩ = some v2) ∧ (∀ d os, (Sort.grow (redrawn w d) os).cell? ⟨b, 3, none⟩ = some v3) ∧
    (∀ d os, (Sort.grow (redrawn w d) os).cell? ⟨b, 4, none⟩ = some v4) ∧ (∀ d os, (Sort.grow (redrawn w d) os).cell? ⟨b, 5, none⟩ = some v5) ∧ (∀ d os, (Sort.grow (redrawn w d) os).cell? ⟨b, 6, none⟩ = some v6) ∧ (∀ d os, (Sort.grow (redrawn w d) os).cell? ⟨b, 7, none⟩ = some v7) :=
  ⟨cell_regrown (h.cell 0), cell_regrown (h.cell 1), cell_regrown (h.cell 2), cell_regrown (h.cell 3), cell_regrown (h.cell 4), cell_regrown (h.cell 5), cell_regrown (h.cell 6), cell_regrown (h.cell 7)⟩

set_option maxRecDepth 100000 in
set_option maxHeartbeats 1600000 in
theorem worse_any (v : V8) (x r : R3) (w : World) (hv : v.fits 1000) (hx : x.fits 1000) (hr : r.fits 1000) :
    Calls Tryz.prog 42 #[v.v, .agg #[.bool x.n, .string x.s, .string x.d], .agg #[.bool r.n, .string r.s, .string r.d]] w fun e w' => e = .returned (.bool (worB v x r)) ∧ Below w.heap.size w w' := by
  obtain ⟨⟨hv1, hv2⟩, hv3, hv4⟩ := hv
  obtain ⟨hx1, hx2⟩ := hx
  obtain ⟨hr1, hr2⟩ := hr
  have HC1 := Lib.hid (fun w => compare_rat v.k.n v.k.s v.k.d r.n r.s r.d w (by omega) (by omega))
  have HM := Lib.hid (fun w => multiply_rat v.a.n v.a.s v.a.d r.n r.s r.d w (by omega) (by omega))
  have hsm : Sm 4002 (rq v.a.n v.a.s v.a.d * rq r.n r.s r.d) := ((sm_raw v.a.n v.a.s v.a.d).mul (sm_raw r.n r.s r.d)).mono (by omega)
  have hC2 := fun w => compare_rat x.n x.s x.d (rn (rq v.a.n v.a.s v.a.d * rq r.n r.s r.d)) (rs (rq v.a.n v.a.s v.a.d * rq r.n r.s r.d)) (rd (rq v.a.n v.a.s v.a.d * rq r.n r.s r.d)) w (by omega) (by have := hsm.rs; have := hsm.rd; omega)
  rw [rq_of] at hC2
  have HC2 := Lib.hid hC2
  have hT : worB v x r = (decide (0 < cmpR (rq v.k.n v.k.s v.k.d) (rq r.n r.s r.d)) && decide (0 < cmpR (rq x.n x.s x.d) (rq v.a.n v.a.s v.a.d * rq r.n r.s r.d))) := rfl
  rw [hT]
  unfold rv at HM
  unfold V8.v
  clear hsm hC2 hT hv1 hv2 hv3 hv4 hx1 hx2 hr1 hr2
  generalize cmpR (rq v.k.n v.k.s v.k.d) (rq r.n r.s r.d) = c1 at *
  generalize cmpR (rq x.n x.s x.d) (rq v.a.n v.a.s v.a.d * rq r.n r.s r.d) = c2 at *
  generalize rq v.a.n v.a.s v.a.d * rq r.n r.s r.d = M at *
  generalize rn M = m1 at *
  generalize rs M = m2 at *
  generalize rd M = m3 at *
  generalize x.n = xn at *
  generalize x.s = xs at *
  generalize x.d = xd at *
  generalize r.n = rn' at *
  generalize r.s = rs' at *
  generalize r.d = rd' at *
  generalize v.a.n = an at *
  generalize v.a.s = as' at *
  generalize v.a.d = ad at *
  generalize v.k.n = kn at *
  generalize v.k.s = ks at *
  generalize v.k.d = kd at *
  generalize v.p = vp at *
  generalize v.x = vx at *
  generalize hT : (decide (0 < c1) && decide (0 < c2)) = T
  have HT := Lib.hid hT
  clear hT
  go_enter Tryz.func42, Tryz.ntmps42
  go_wp2
  refine wp_forget (fun W => Blk W w.heap.size #[.int .i64 vp, .bool an, .string as', .string ad, .bool kn, .string ks, .string kd, .bool vx] ∧ Blk W (w.heap.size + 1) #[.bool xn, .string xs, .string xd] ∧ Blk W (w.heap.size + 1 + 1) #[.bool rn', .string rs', .string rd'] ∧ Below w.heap.size w W) (boxes_three w _ _ _ _ _ _) ?_
  rintro W ⟨H1, H2, H3, HB⟩
  obtain ⟨-, k1, k2, k3, k4, k5, k6, -⟩ := H1.later8
  obtain ⟨j1, j2, j3⟩ := H2.later3
  obtain ⟨l1, l2, l3⟩ := H3.later3
  have HBB := Lib.hid HB
  clear H1 H2 H3 HB
  by_cases h : 0 < c1
  · have e1 : decide (0 < c1) = true := decide_eq_true h
    have HE := Lib.hid (show decide (0 < c2) = T by rw [← HT.out, e1, Bool.true_and])
    clear h
    refine wp_region_qb (by kernel_rfl) (by kernel_rfl) ?_
    repeat (first | go_big_quiet_skip | (refine wpQuiet_step (fun K hK => ?_); go_simp; (try simp (disch := omega) only [IntWalk.i64_in, IntWalk.u64_in, IntWalk.u32_in, IntWalk.u16_in, IntWalk.u8_in, Int.tmod_eq_emod_of_nonneg, Int.tdiv_eq_ediv_of_nonneg]); (first | (refine hK _ ?_; clear hK K) | (apply Exists.intro; refine ⟨fun _ => ?_, hK _ ?_⟩; (first | with_reducible exact Calls.later (HC1.out _) | with_reducible exact Calls.later (HM.out _) | with_reducible exact Calls.later (HC2.out _)); clear hK K))))
    clear k1 k2 k3 k4 k5 k6 j1 j2 j3 l1 l2 l3
    refine wpQuiet_nil ?_
    intro W1 hb1
    have HB := Lib.hid (chain HBB.out hb1 (Nat.le_refl _))
    clear hb1
    go_wp2
    go_ret
    exact ⟨ret_bool HE.out, HB.out⟩
  · have e1 : decide (0 < c1) = false := decide_eq_false h
    have HE := Lib.hid (show false = T by rw [← HT.out, e1, Bool.false_and])
    clear h
    refine wp_region_qb (by kernel_rfl) (by kernel_rfl) ?_
    repeat (first | go_big_quiet_skip | (refine wpQuiet_step (fun K hK => ?_); go_simp; (try simp (disch := omega) only [IntWalk.i64_in, IntWalk.u64_in, IntWalk.u32_in, IntWalk.u16_in, IntWalk.u8_in, Int.tmod_eq_emod_of_nonneg, Int.tdiv_eq_ediv_of_nonneg]); (first | (refine hK _ ?_; clear hK K) | (apply Exists.intro; refine ⟨fun _ => ?_, hK _ ?_⟩; (first | with_reducible exact Calls.later (HC1.out _) | with_reducible exact Calls.later (HM.out _) | with_reducible exact Calls.later (HC2.out _)); clear hK K))))
    clear k1 k2 k3 k4 k5 k6 j1 j2 j3 l1 l2 l3
    refine wpQuiet_nil ?_
    intro W1 hb1
    have HB := Lib.hid (chain HBB.out hb1 (Nat.le_refl _))
    clear hb1
    go_wp2
    go_ret
    exact ⟨ret_bool HE.out, HB.out⟩

set_option maxRecDepth 100000 in
set_option maxHeartbeats 1600000 in
theorem inrange_any (r : R3) (w : World) (hr : r.fits 1000) :
    Calls Tryz.prog 41 #[.agg #[.bool r.n, .string r.s, .string r.d]] w fun e w' => e = .returned (.bool (inRB r.q)) ∧ Below w.heap.size w w' := by
  have hq : r.q = rq r.n r.s r.d := rfl
  obtain ⟨hr1, hr2⟩ := hr
  have HS := Lib.hid (fun w => sign_rat r.n r.s r.d w (by omega) (by omega))
  have h1s : Sm 1 (1 : Rat) := ⟨by decide, by decide⟩
  have hI := fun w => int_any 1 w (by omega) (by omega)
  rw [show (((1 : Int) : Rat)) = 1 from rfl] at hI
  have HI := Lib.hid hI
  have hC := fun w => compare_rat r.n r.s r.d (rn 1) (rs 1) (rd 1) w (by omega) (by have := h1s.rs; have := h1s.rd; omega)
  rw [rq_of] at hC
  have HC := Lib.hid hC
  unfold inRB
  rw [hq]
  clear hI hC h1s hr1 hr2 hq
  generalize cmpR (rq r.n r.s r.d) 1 = c at *
  generalize sg (rq r.n r.s r.d) = s at *
  generalize rn 1 = o1 at *
  generalize rs 1 = o2 at *
  generalize rd 1 = o3 at *
  generalize r.n = rn' at *
  generalize r.s = rs' at *
  generalize r.d = rd' at *
  generalize hT : (decide (0 ≤ s) && decide (c ≤ 0)) = T
  have HT := Lib.hid hT
  clear hT
  go_enter Tryz.func41, Tryz.ntmps41
  go_wp2
  refine wp_forget (fun W => Blk W w.heap.size #[.bool rn', .string rs', .string rd'] ∧ Below w.heap.size w W) ⟨Blk.new w _ _, (Below.refl _ _).alloc (Nat.le_refl _) _⟩ ?_
  rintro W ⟨H1, HB⟩
  obtain ⟨k1, k2, k3⟩ := H1.later3
  have HBB := Lib.hid HB
  clear H1 HB
  by_cases h : 0 ≤ s
  · have e1 : decide (0 ≤ s) = true := decide_eq_true h
    have HE := Lib.hid (show decide (c ≤ 0) = T by rw [← HT.out, e1, Bool.true_and])
    clear h
    refine wp_region_qb (by kernel_rfl) (by kernel_rfl) ?_
    repeat (first | go_big_quiet_skip | (refine wpQuiet_step (fun K hK => ?_); go_simp; (try simp (disch := omega) only [IntWalk.i64_in, IntWalk.u64_in, IntWalk.u32_in, IntWalk.u16_in, IntWalk.u8_in, Int.tmod_eq_emod_of_nonneg, Int.tdiv_eq_ediv_of_nonneg]); (first | (refine hK _ ?_; clear hK K) | (apply Exists.intro; refine ⟨fun _ => ?_, hK _ ?_⟩; (first | with_reducible exact Calls.later (HS.out _) | with_reducible exact Calls.later (HI.out _) | with_reducible exact Calls.later (HC.out _)); clear hK K))))
    clear k1 k2 k3
    refine wpQuiet_nil ?_
    intro W1 hb1
    have HB := Lib.hid (chain HBB.out hb1 (Nat.le_refl _))
    clear hb1
    go_wp2
    go_ret
    exact ⟨ret_bool HE.out, HB.out⟩
  · have e1 : decide (0 ≤ s) = false := decide_eq_false h
    have HE := Lib.hid (show false = T by rw [← HT.out, e1, Bool.false_and])
    clear h
    refine wp_region_qb (by kernel_rfl) (by kernel_rfl) ?_
    repeat (first | go_big_quiet_skip | (refine wpQuiet_step (fun K hK => ?_); go_simp; (try simp (disch := omega) only [IntWalk.i64_in, IntWalk.u64_in, IntWalk.u32_in, IntWalk.u16_in, IntWalk.u8_in, Int.tmod_eq_emod_of_nonneg, Int.tdiv_eq_ediv_of_nonneg]); (first | (refine hK _ ?_; clear hK K) | (apply Exists.intro; refine ⟨fun _ => ?_, hK _ ?_⟩; (first | with_reducible exact Calls.later (HS.out _) | with_reducible exact Calls.later (HI.out _) | with_reducible exact Calls.later (HC.out _)); clear hK K))))
    clear k1 k2 k3
    refine wpQuiet_nil ?_
    intro W1 hb1
    have HB := Lib.hid (chain HBB.out hb1 (Nat.le_refl _))
    clear hb1
    go_wp2
    go_ret
    exact ⟨ret_bool HE.out, HB.out⟩
end Go.Proofs.Ins

set_option linter.unusedSimpArgs false
set_option linter.unusedVariables false
namespace Go.Proofs.Ins
open Go.RowKit

/-- The voters that are worse off, of the first k. -/
def wixs (V : Nat → V8) (A : Nat → R3) (r : R3) (k : Nat) : List Nat := (List.range k).filter fun i => worB (V i) (A i) r
theorem wixs_zero (V : Nat → V8) (A : Nat → R3) (r : R3) : wixs V A r 0 = [] := rfl
theorem wixs_yes {V : Nat → V8} {A : Nat → R3} {r : R3} {k : Nat} (h : worB (V k) (A k) r = true) : wixs V A r (k + 1) = wixs V A r k ++ [k] := by
  unfold wixs; rw [List.range_succ, List.filter_append]; simp [h]
theorem wixs_no {V : Nat → V8} {A : Nat → R3} {r : R3} {k : Nat} (h : worB (V k) (A k) r = false) : wixs V A r (k + 1) = wixs V A r k := by
  unfold wixs; rw [List.range_succ, List.filter_append]; simp [h]
theorem wixs_len (V : Nat → V8) (A : Nat → R3) (r : R3) (k : Nat) : (wixs V A r k).length ≤ k := by
  have := List.length_filter_le (fun i => worB (V i) (A i) r) (List.range k)
  rwa [List.length_range] at this
/-- A list of numbers, as cells. -/
def cI (l : List Nat) (j : Nat) : List Value := [.int .i64 ((l.getD j 0 : Nat) : Int)]
theorem cI_snoc (l : List Nat) (k j : Nat) (hj : j < l.length + 1) : (if j < l.length then cI l j else [.int .i64 (k : Int)]) = cI (l ++ [k]) j := by
  unfold cI
  by_cases h : j < l.length
  · rw [if_pos h]; simp [List.getElem?_append_left h]
  · obtain rfl : j = l.length := by omega
    rw [if_neg h]; simp
theorem SOwn.mono {w : World} {base base' : Nat} {T : TypeId} {sz : Nat} {v : Value} {n : Nat} {F : Nat → List Value} (h : SOwn w base T sz v n F) (hb : base' ≤ base) : SOwn w base' T sz v n F := by
  obtain ⟨⟨h1, h2⟩, h3⟩ := h
  refine ⟨⟨h1, ?_⟩, h3⟩
  rcases h2 with h2 | ⟨g, cap, cur, hv, hg, r⟩
  · exact .inl h2
  · exact .inr ⟨g, cap, cur, hv, Nat.le_trans hb hg, r⟩
/-- What Worse gives. -/
def wrsL (n m : Nat) (V : Nat → V8) (A : Nat → R3) (r : R3) : List Nat := if chk n m V A = 0 ∧ inRB r.q = true then wixs V A r n else []
def wrsE (n m : Nat) (V : Nat → V8) (A : Nat → R3) (r : R3) : Int := if chk n m V A = 0 then (if inRB r.q = true then 0 else 1) else chk n m V A
/-- A list of numbers and an error, handed back. -/
def RetW (w : World) (T : TypeId) (l : List Nat) (x : Int) (e : Ending) (w' : World) : Prop :=
  ∃ v, e = .returned (.tuple #[v, .int .i64 x]) ∧ SOwn w' w.heap.size T 1 v l.length (cI l) ∧ Below w.heap.size w w'
theorem RetW.nil {w w' : World} {T : TypeId} {x : Int} (h : Below w.heap.size w w') : RetW w T [] x (.returned (.tuple #[.slice none 0 0, .int .i64 x])) w' :=
  ⟨_, rfl, SOwn.nil _ _ _ _ _, h⟩
theorem intInfo : (Tryz.prog.info? 3).map (fun i => (i.zero.map (fun z => z.cells.size), i.size, i.bytes)) = some (some 1, 1, 8) := by kernel_rfl

set_option maxRecDepth 100000 in
set_option maxHeartbeats 1600000 in
theorem worses_any (a1 : Option Addr) (n c1 : Nat) (a2 : Option Addr) (m c2 : Nat) (V : Nat → V8) (A : Nat → R3) (r : R3) (w : World) (hV : SArg w a1 n 8 fun i => (V i).c) (hA : SArg w a2 m 3 fun i => (A i).c)
    (fV : ∀ i, i < n → (V i).fits 1000) (fA : ∀ i, i < m → (A i).fits 1000) (fr : r.fits 1000) (hn : n ≤ 1000000) (hm : m ≤ 1000000) :
    Calls Tryz.prog 15 #[.slice a1 n c1, .slice a2 m c2, .agg #[.bool r.n, .string r.s, .string r.d]] w (RetW w 3 (wrsL n m V A r) (wrsE n m V A r)) := by
  have HC := Lib.hid (fun w (h1 : SArg w a1 n 8 fun i => (V i).c) (h2 : SArg w a2 m 3 fun i => (A i).c) => check_any a1 n c1 a2 m c2 V A w h1 h2 (fun i hi => by have := fV i hi; exact ⟨⟨by have := this.1.1; omega, by have := this.1.2; omega⟩, ⟨by have := this.2.1; omega, by have := this.2.2; omega⟩⟩) (fun i hi => by have := fA i hi; exact ⟨by have := this.1; omega, by have := this.2; omega⟩) (by omega) (by omega))
  have HI := Lib.hid (fun w => inrange_any r w fr)
  have HV := Lib.hid (hV.on ((Below.refl w.heap.size w).alloc (Nat.le_refl _) (.cells #[.bool r.n, .string r.s, .string r.d] 30)))
  have HA := Lib.hid (hA.on ((Below.refl w.heap.size w).alloc (Nat.le_refl _) (.cells #[.bool r.n, .string r.s, .string r.d] 30)))
  have HV0 := Lib.hid hV
  have HA0 := Lib.hid hA
  by_cases hc : chk n m V A = 0
  · have hmn : m = n := by
      unfold chk at hc
      by_cases h1 : 64 < n
      · rw [if_pos h1] at hc; cases hc
      · rw [if_neg h1] at hc
        by_cases h2 : m = n
        · exact h2
        · rw [if_pos h2] at hc; cases hc
    subst hmn
    have hl : wrsL m m V A r = if inRB r.q = true then wixs V A r m else [] := by unfold wrsL; simp [hc]
    have he : wrsE m m V A r = if inRB r.q = true then 0 else 1 := by unfold wrsE; rw [if_pos hc]
    rw [hl, he]
    rw [hc] at HC
    have HFV := Lib.hid fV
    have HFA := Lib.hid fA
    have HFR := Lib.hid fr
    have HW := Lib.hid (fun k (h : k < m) w => worse_any (V k) (A k) r w (HFV.out k h) (HFA.out k h) HFR.out)
    have HY := Lib.hid (fun k => wixs_yes (V := V) (A := A) (r := r) (k := k))
    have HN := Lib.hid (fun k => wixs_no (V := V) (A := A) (r := r) (k := k))
    have HLEN := Lib.hid (wixs_len V A r)
    have HZ := Lib.hid (wixs_zero V A r)
    generalize hwx : wixs V A r = X at *
    clear hwx hl he fV fA fr hV hA hc
    by_cases hi : inRB r.q = true
    · rw [if_pos hi, if_pos hi]
      rw [hi] at HI
      clear hi
      generalize r.n = rn' at *
      generalize r.s = rs' at *
      generalize r.d = rd' at *
      go_enter Tryz.func15, Tryz.ntmps15
      go_wp2_with fail
      refine (HC.out _ HV.out HA.out).mono ?_
      rintro e w3 ⟨rfl, hb3⟩
      obtain ⟨H1, HB⟩ := boxes1 hb3
      have hz3 := H1.lt
      have H1 := Lib.hid H1
      have HB := Lib.hid HB
      obtain ⟨k0, k1, k2, -, -, -⟩ := H1.out.get3
      clear hb3 HV HA HC
      go_wp2_with fail
      refine (HI.out _).mono ?_
      rintro e w4 ⟨rfl, hb4⟩
      have H1 := Lib.hid (H1.out.on hb4)
      have HB := Lib.hid (chain HB.out hb4 (Nat.le_refl _))
      have hz4 := H1.out.lt
      clear hb4 HI k0 k1 k2
      go_wp2_with fail
      go_loopw [9, 23] (fun v i wr => ∃ k : Nat, i = .int .i64 k ∧ k ≤ m ∧ Blk wr w.heap.size #[.bool rn', .string rs', .string rd'] ∧ SOwn wr (w.heap.size + 1) 3 1 v (X k).length (cI (X k)) ∧ Below w.heap.size w wr) (fun _ i _ => m - (intOf i).toNat)
      case atStart => exact ⟨0, rfl, by omega, H1.out, by rw [HZ.out]; exact SOwn.nil _ _ _ _ _, HB.out⟩
      case round =>
        obtain ⟨k, rfl, hk, J1, hown, hbel⟩ := hrel
        have HB4 := Lib.hid hbel
        have HO := Lib.hid hown
        have J1 := Lib.hid J1
        have hzr := J1.out.lt
        have hzw := hbel.size
        clear hown
        by_cases hlt : k < m
        · skip
          rcases HV0.out with h0 | ⟨bv, ov, rfl, lv, rv'⟩
          · omega
          rcases HA0.out with h0 | ⟨ba, oa, rfl, la, ra⟩
          · omega
          obtain ⟨v0, v1, v2, v3, v4, v5, v6, v7⟩ := (rv'.below hbel lv).v8 hlt
          have HCA := Lib.hid (fun W (h : Below w.heap.size w W) => (ra.below h la).r3 hlt)
          have HWK := Lib.hid (HW.out k hlt)
          have HYK := Lib.hid (HY.out k)
          have HNK := Lib.hid (HN.out k)
          have HLK := HLEN.out k
          unfold V8.v at HWK
          clear hbel rv' ra HW HY HN HLEN HV0 HA0 HFV HFA
          generalize hwb : worB (V k) (A k) r = WB at *
          clear hwb
          generalize (V k).p = vp at *
          generalize (V k).a.n = an at *
          generalize (V k).a.s = as' at *
          generalize (V k).a.d = ad at *
          generalize (V k).k.n = kn at *
          generalize (V k).k.s = ks at *
          generalize (V k).k.d = kd at *
          generalize (V k).x = vx at *
          generalize (A k).n = xn at *
          generalize (A k).s = xs at *
          generalize (A k).d = xd at *
          have i1 : (0 : Int) ≤ (k : Int) := by omega
          have i2 : (k : Int) < (m : Int) := by omega
          go_wp2
          refine wp_forget (fun W => Blk W wr.heap.size #[.int .i64 vp, .bool an, .string as', .string ad, .bool kn, .string ks, .string kd, .bool vx] ∧ Blk W w.heap.size #[.bool rn', .string rs', .string rd'] ∧ SOwn W (w.heap.size + 1) 3 1 _ (X k).length (cI (X k)) ∧ Below w.heap.size w W)
            ⟨Blk.new wr _ _, J1.out.alloc _, HO.out.below ((Below.refl wr.heap.size wr).alloc (Nat.le_refl _) _) (Nat.le_refl _), HB4.out.alloc (by omega) _⟩ ?_
          rintro W ⟨G1, G2, G3, HBW⟩
          obtain ⟨q0, q1, q2⟩ := HCA.out W HBW
          obtain ⟨g0, g1, g2, g3, g4, g5, g6, g7⟩ := G1.later8
          obtain ⟨l0, l1, l2⟩ := G2.later3
          have m0 := cell_regrown q0
          have m1 := cell_regrown q1
          have m2 := cell_regrown q2
          clear q0 q1 q2 v0 v1 v2 v3 v4 v5 v6 v7
          have G2 := Lib.hid G2
          have G3 := Lib.hid G3
          have HBW := Lib.hid HBW
          clear G1
          refine wp_region_qb (by kernel_rfl) (by kernel_rfl) ?_
          repeat (first | go_big_quiet_skip | (refine wpQuiet_step (fun K hK => ?_); go_simp; (try simp (disch := omega) only [IntWalk.i64_in, IntWalk.u64_in, IntWalk.u32_in, IntWalk.u16_in, IntWalk.u8_in, Int.tmod_eq_emod_of_nonneg, Int.tdiv_eq_ediv_of_nonneg]); (first | (refine hK _ ?_; clear hK K) | (apply Exists.intro; refine ⟨fun _ => ?_, hK _ ?_⟩; (first | with_reducible exact Calls.later (HWK.out _)); clear hK K))))
          clear g0 g1 g2 g3 g4 g5 g6 g7 l0 l1 l2 m0 m1 m2
          refine wpQuiet_nil ?_
          intro W1 hb1
          have G2 := Lib.hid (G2.out.on hb1)
          have G3 := Lib.hid (G3.out.below hb1 (Nat.le_refl _))
          have HBX := Lib.hid (chain HBW.out hb1 (Nat.le_refl _))
          have hzx := HBX.out.size
          have hg2 := G2.out.lt
          clear hb1
          cases WB
          · have HNX := Lib.hid (HNK.out rfl)
            go_wp2
            go_roundw
            case rel => exact ⟨k + 1, by go_num, by omega, G2.out, by rw [HNX.out]; exact G3.out, HBX.out⟩
            case measure => simp [intOf]; omega
          · have HYX := Lib.hid (HYK.out rfl)
            go_wp2_with (refine wpList_appendS _ _ 39 3 1 8 (w.heap.size + 1) _ _ _ [.int .i64 (k : Int)] (by rfl) (by rfl) Tryz.underlying39 intInfo (by omega) (by rfl) (by rfl) (by simp [Value.oneCell']) (by rfl) G3.out (by omega) (by omega) (by omega) ?_; intro v9 w9 ho9 hb9; have HO9 := Lib.hid ho9; have HB9 := Lib.hid hb9; clear ho9 hb9)
            go_roundw
            case rel =>
              refine ⟨k + 1, by go_num, by omega, G2.out.below HB9.out (by omega), ?_, HBX.out.trans (HB9.out.mono (by omega))⟩
              rw [HYX.out, List.length_append]
              exact HO9.out.congr fun j hj => cI_snoc _ _ j hj
            case measure => simp [intOf]; omega
        · obtain rfl : k = m := by omega
          have hnl : decide ((k : Int) < (k : Int)) = false := by simp
          go_wp2
          exact bodyPost_ret (v := .tuple #[u9, .int .i64 0]) (by simp [results, Tryz.results15, go_sem]) rfl ⟨_, rfl, HO.out.mono (by omega), HB4.out⟩
    · rw [if_neg hi, if_neg hi]
      have hi2 : inRB r.q = false := Bool.eq_false_iff.mpr hi
      rw [hi2] at HI
      clear hi hi2
      generalize r.n = rn' at *
      generalize r.s = rs' at *
      generalize r.d = rd' at *
      go_enter Tryz.func15, Tryz.ntmps15
      go_wp2_with fail
      refine (HC.out _ HV.out HA.out).mono ?_
      rintro e w3 ⟨rfl, hb3⟩
      obtain ⟨H1, HB⟩ := boxes1 hb3
      have HB := Lib.hid HB
      obtain ⟨k0, k1, k2, -, -, -⟩ := H1.get3
      clear hb3 HV HA HC H1
      go_wp2_with fail
      refine (HI.out _).mono ?_
      rintro e w4 ⟨rfl, hb4⟩
      have HB := Lib.hid (chain HB.out hb4 (Nat.le_refl _))
      clear hb4 HI k0 k1 k2
      go_wp2
      exact bodyPost_ret (v := .tuple #[.slice none 0 0, .int .i64 1]) (by simp [results, Tryz.results15, go_sem]) rfl (RetW.nil HB.out)
  · have hl : wrsL n m V A r = [] := by unfold wrsL; rw [if_neg (fun h => hc h.1)]
    have he : wrsE n m V A r = chk n m V A := by unfold wrsE; rw [if_neg hc]
    rw [hl, he]
    have h1 : (chk n m V A == 0) = false := by simp [hc]
    generalize chk n m V A = c at *
    clear fV fA hV hA hl he fr
    generalize r.n = rn' at *
    generalize r.s = rs' at *
    generalize r.d = rd' at *
    go_enter Tryz.func15, Tryz.ntmps15
    go_wp2_with fail
    refine (HC.out _ HV.out HA.out).mono ?_
    rintro e w3 ⟨rfl, hb3⟩
    obtain ⟨H1, HB⟩ := boxes1 hb3
    have HB := Lib.hid HB
    clear hb3 HV HA HC H1
    go_wp2
    exact bodyPost_ret (v := .tuple #[.slice none 0 0, .int .i64 c]) (by simp [results, Tryz.results15, go_sem]) rfl (RetW.nil HB.out)
end Go.Proofs.Ins

set_option linter.unusedSimpArgs false
set_option linter.unusedVariables false
namespace Go.Proofs.Ins
open Go.RowKit

set_option maxRecDepth 100000 in
set_option maxHeartbeats 1600000 in
theorem rworse_any (v : V8) (x r : R3) (w : World) (hv : v.fits 1000) (hx : x.fits 1000) (hr : r.fits 1000) :
    Calls Tryz.prog 45 #[v.v, .agg #[.bool x.n, .string x.s, .string x.d], .agg #[.bool r.n, .string r.s, .string r.d]] w fun e w' => e = .returned (.bool (worB v x r)) ∧ Below w.heap.size w w' := by
  obtain ⟨⟨hv1, hv2⟩, hv3, hv4⟩ := hv
  obtain ⟨hx1, hx2⟩ := hx
  obtain ⟨hr1, hr2⟩ := hr
  have HC1 := Lib.hid (fun w => rcompare_any v.k.n v.k.s v.k.d r.n r.s r.d w (by omega) (by omega))
  have HM := Lib.hid (fun w => rmultiply_any v.a.n v.a.s v.a.d r.n r.s r.d w (by omega) (by omega))
  have hsm : Sm 4002 (rq v.a.n v.a.s v.a.d * rq r.n r.s r.d) := ((sm_raw v.a.n v.a.s v.a.d).mul (sm_raw r.n r.s r.d)).mono (by omega)
  have hC2 := fun w => rcompare_any x.n x.s x.d (rn (rq v.a.n v.a.s v.a.d * rq r.n r.s r.d)) (rs (rq v.a.n v.a.s v.a.d * rq r.n r.s r.d)) (rd (rq v.a.n v.a.s v.a.d * rq r.n r.s r.d)) w (by omega) (by have := hsm.rs; have := hsm.rd; omega)
  rw [rq_of] at hC2
  have HC2 := Lib.hid hC2
  have hT : worB v x r = (decide (0 < cmpR (rq v.k.n v.k.s v.k.d) (rq r.n r.s r.d)) && decide (0 < cmpR (rq x.n x.s x.d) (rq v.a.n v.a.s v.a.d * rq r.n r.s r.d))) := rfl
  rw [hT]
  unfold rv at HM
  unfold V8.v
  clear hsm hC2 hT hv1 hv2 hv3 hv4 hx1 hx2 hr1 hr2
  generalize cmpR (rq v.k.n v.k.s v.k.d) (rq r.n r.s r.d) = c1 at *
  generalize cmpR (rq x.n x.s x.d) (rq v.a.n v.a.s v.a.d * rq r.n r.s r.d) = c2 at *
  generalize rq v.a.n v.a.s v.a.d * rq r.n r.s r.d = M at *
  generalize rn M = m1 at *
  generalize rs M = m2 at *
  generalize rd M = m3 at *
  generalize x.n = xn at *
  generalize x.s = xs at *
  generalize x.d = xd at *
  generalize r.n = rn' at *
  generalize r.s = rs' at *
  generalize r.d = rd' at *
  generalize v.a.n = an at *
  generalize v.a.s = as' at *
  generalize v.a.d = ad at *
  generalize v.k.n = kn at *
  generalize v.k.s = ks at *
  generalize v.k.d = kd at *
  generalize v.p = vp at *
  generalize v.x = vx at *
  generalize hT : (decide (0 < c1) && decide (0 < c2)) = T
  have HT := Lib.hid hT
  clear hT
  go_enter Tryz.func45, Tryz.ntmps45
  go_wp2
  refine wp_forget (fun W => Blk W w.heap.size #[.int .i64 vp, .bool an, .string as', .string ad, .bool kn, .string ks, .string kd, .bool vx] ∧ Blk W (w.heap.size + 1) #[.bool xn, .string xs, .string xd] ∧ Blk W (w.heap.size + 1 + 1) #[.bool rn', .string rs', .string rd'] ∧ Below w.heap.size w W) (boxes_three w _ _ _ _ _ _) ?_
  rintro W ⟨H1, H2, H3, HB⟩
  obtain ⟨-, k1, k2, k3, k4, k5, k6, -⟩ := H1.later8
  obtain ⟨j1, j2, j3⟩ := H2.later3
  obtain ⟨l1, l2, l3⟩ := H3.later3
  have HBB := Lib.hid HB
  clear H1 H2 H3 HB
  by_cases h : 0 < c1
  · have e1 : decide (0 < c1) = true := decide_eq_true h
    have HE := Lib.hid (show decide (0 < c2) = T by rw [← HT.out, e1, Bool.true_and])
    clear h
    refine wp_region_qb (by kernel_rfl) (by kernel_rfl) ?_
    repeat (first | go_big_quiet_skip | (refine wpQuiet_step (fun K hK => ?_); go_simp; (try simp (disch := omega) only [IntWalk.i64_in, IntWalk.u64_in, IntWalk.u32_in, IntWalk.u16_in, IntWalk.u8_in, Int.tmod_eq_emod_of_nonneg, Int.tdiv_eq_ediv_of_nonneg]); (first | (refine hK _ ?_; clear hK K) | (apply Exists.intro; refine ⟨fun _ => ?_, hK _ ?_⟩; (first | with_reducible exact Calls.later (HC1.out _) | with_reducible exact Calls.later (HM.out _) | with_reducible exact Calls.later (HC2.out _)); clear hK K))))
    clear k1 k2 k3 k4 k5 k6 j1 j2 j3 l1 l2 l3
    refine wpQuiet_nil ?_
    intro W1 hb1
    have HB := Lib.hid (chain HBB.out hb1 (Nat.le_refl _))
    clear hb1
    go_wp2
    go_ret
    exact ⟨ret_bool HE.out, HB.out⟩
  · have e1 : decide (0 < c1) = false := decide_eq_false h
    have HE := Lib.hid (show false = T by rw [← HT.out, e1, Bool.false_and])
    clear h
    refine wp_region_qb (by kernel_rfl) (by kernel_rfl) ?_
    repeat (first | go_big_quiet_skip | (refine wpQuiet_step (fun K hK => ?_); go_simp; (try simp (disch := omega) only [IntWalk.i64_in, IntWalk.u64_in, IntWalk.u32_in, IntWalk.u16_in, IntWalk.u8_in, Int.tmod_eq_emod_of_nonneg, Int.tdiv_eq_ediv_of_nonneg]); (first | (refine hK _ ?_; clear hK K) | (apply Exists.intro; refine ⟨fun _ => ?_, hK _ ?_⟩; (first | with_reducible exact Calls.later (HC1.out _) | with_reducible exact Calls.later (HM.out _) | with_reducible exact Calls.later (HC2.out _)); clear hK K))))
    clear k1 k2 k3 k4 k5 k6 j1 j2 j3 l1 l2 l3
    refine wpQuiet_nil ?_
    intro W1 hb1
    have HB := Lib.hid (chain HBB.out hb1 (Nat.le_refl _))
    clear hb1
    go_wp2
    go_ret
    exact ⟨ret_bool HE.out, HB.out⟩

set_option maxRecDepth 100000 in
set_option maxHeartbeats 1600000 in
theorem rrate_any (r : R3) (w : World) (hr : r.fits 1000) :
    Calls Tryz.prog 44 #[.agg #[.bool r.n, .string r.s, .string r.d]] w fun e w' => e = .returned (.bool (inRB r.q)) ∧ Below w.heap.size w w' := by
  have hq : r.q = rq r.n r.s r.d := rfl
  obtain ⟨hr1, hr2⟩ := hr
  have HS := Lib.hid (fun w => rsign_any r.n r.s r.d w (by omega) (by omega))
  have h1s : Sm 1 (1 : Rat) := ⟨by decide, by decide⟩
  have HI := Lib.hid (fun w => rone_any w)
  have hC := fun w => rcompare_any r.n r.s r.d (rn 1) (rs 1) (rd 1) w (by omega) (by have := h1s.rs; have := h1s.rd; omega)
  rw [rq_of] at hC
  have HC := Lib.hid hC
  unfold inRB
  rw [hq]
  clear hC h1s hr1 hr2 hq
  generalize cmpR (rq r.n r.s r.d) 1 = c at *
  generalize sg (rq r.n r.s r.d) = s at *
  generalize rn 1 = o1 at *
  generalize rs 1 = o2 at *
  generalize rd 1 = o3 at *
  generalize r.n = rn' at *
  generalize r.s = rs' at *
  generalize r.d = rd' at *
  generalize hT : (decide (0 ≤ s) && decide (c ≤ 0)) = T
  have HT := Lib.hid hT
  clear hT
  go_enter Tryz.func44, Tryz.ntmps44
  go_wp2
  refine wp_forget (fun W => Blk W w.heap.size #[.bool rn', .string rs', .string rd'] ∧ Below w.heap.size w W) ⟨Blk.new w _ _, (Below.refl _ _).alloc (Nat.le_refl _) _⟩ ?_
  rintro W ⟨H1, HB⟩
  obtain ⟨k1, k2, k3⟩ := H1.later3
  have HBB := Lib.hid HB
  clear H1 HB
  by_cases h : 0 ≤ s
  · have e1 : decide (0 ≤ s) = true := decide_eq_true h
    have HE := Lib.hid (show decide (c ≤ 0) = T by rw [← HT.out, e1, Bool.true_and])
    clear h
    refine wp_region_qb (by kernel_rfl) (by kernel_rfl) ?_
    repeat (first | go_big_quiet_skip | (refine wpQuiet_step (fun K hK => ?_); go_simp; (try simp (disch := omega) only [IntWalk.i64_in, IntWalk.u64_in, IntWalk.u32_in, IntWalk.u16_in, IntWalk.u8_in, Int.tmod_eq_emod_of_nonneg, Int.tdiv_eq_ediv_of_nonneg]); (first | (refine hK _ ?_; clear hK K) | (apply Exists.intro; refine ⟨fun _ => ?_, hK _ ?_⟩; (first | with_reducible exact Calls.later (HS.out _) | with_reducible exact Calls.later (HI.out _) | with_reducible exact Calls.later (HC.out _)); clear hK K))))
    clear k1 k2 k3
    refine wpQuiet_nil ?_
    intro W1 hb1
    have HB := Lib.hid (chain HBB.out hb1 (Nat.le_refl _))
    clear hb1
    go_wp2
    go_ret
    exact ⟨ret_bool HE.out, HB.out⟩
  · have e1 : decide (0 ≤ s) = false := decide_eq_false h
    have HE := Lib.hid (show false = T by rw [← HT.out, e1, Bool.false_and])
    clear h
    refine wp_region_qb (by kernel_rfl) (by kernel_rfl) ?_
    repeat (first | go_big_quiet_skip | (refine wpQuiet_step (fun K hK => ?_); go_simp; (try simp (disch := omega) only [IntWalk.i64_in, IntWalk.u64_in, IntWalk.u32_in, IntWalk.u16_in, IntWalk.u8_in, Int.tmod_eq_emod_of_nonneg, Int.tdiv_eq_ediv_of_nonneg]); (first | (refine hK _ ?_; clear hK K) | (apply Exists.intro; refine ⟨fun _ => ?_, hK _ ?_⟩; (first | with_reducible exact Calls.later (HS.out _) | with_reducible exact Calls.later (HI.out _) | with_reducible exact Calls.later (HC.out _)); clear hK K))))
    clear k1 k2 k3
    refine wpQuiet_nil ?_
    intro W1 hb1
    have HB := Lib.hid (chain HBB.out hb1 (Nat.le_refl _))
    clear hb1
    go_wp2
    go_ret
    exact ⟨ret_bool HE.out, HB.out⟩

set_option maxRecDepth 100000 in
set_option maxHeartbeats 1600000 in
theorem rworses_any (a1 : Option Addr) (n c1 : Nat) (a2 : Option Addr) (m c2 : Nat) (V : Nat → V8) (A : Nat → R3) (r : R3) (w : World) (hV : SArg w a1 n 8 fun i => (V i).c) (hA : SArg w a2 m 3 fun i => (A i).c)
    (fV : ∀ i, i < n → (V i).fits 1000) (fA : ∀ i, i < m → (A i).fits 1000) (fr : r.fits 1000) (hn : n ≤ 1000000) (hm : m ≤ 1000000) :
    Calls Tryz.prog 17 #[.slice a1 n c1, .slice a2 m c2, .agg #[.bool r.n, .string r.s, .string r.d]] w (RetW w 3 (wrsL n m V A r) (wrsE n m V A r)) := by
  have HC := Lib.hid (fun w (h1 : SArg w a1 n 8 fun i => (V i).c) (h2 : SArg w a2 m 3 fun i => (A i).c) => rcheck_any a1 n c1 a2 m c2 V A w h1 h2 fV fA (by omega) (by omega))
  have HI := Lib.hid (fun w => rrate_any r w fr)
  have HV := Lib.hid (hV.on ((Below.refl w.heap.size w).alloc (Nat.le_refl _) (.cells #[.bool r.n, .string r.s, .string r.d] 30)))
  have HA := Lib.hid (hA.on ((Below.refl w.heap.size w).alloc (Nat.le_refl _) (.cells #[.bool r.n, .string r.s, .string r.d] 30)))
  have HV0 := Lib.hid hV
  have HA0 := Lib.hid hA
  by_cases hc : chk n m V A = 0
  · have hmn : m = n := by
      unfold chk at hc
      by_cases h1 : 64 < n
      · rw [if_pos h1] at hc; cases hc
      · rw [if_neg h1] at hc
        by_cases h2 : m = n
        · exact h2
        · rw [if_pos h2] at hc; cases hc
    subst hmn
    have hl : wrsL m m V A r = if inRB r.q = true then wixs V A r m else [] := by unfold wrsL; simp [hc]
    have he : wrsE m m V A r = if inRB r.q = true then 0 else 1 := by unfold wrsE; rw [if_pos hc]
    rw [hl, he]
    rw [hc] at HC
    have HFV := Lib.hid fV
    have HFA := Lib.hid fA
    have HFR := Lib.hid fr
    have HW := Lib.hid (fun k (h : k < m) w => rworse_any (V k) (A k) r w (HFV.out k h) (HFA.out k h) HFR.out)
    have HY := Lib.hid (fun k => wixs_yes (V := V) (A := A) (r := r) (k := k))
    have HN := Lib.hid (fun k => wixs_no (V := V) (A := A) (r := r) (k := k))
    have HLEN := Lib.hid (wixs_len V A r)
    have HZ := Lib.hid (wixs_zero V A r)
    generalize hwx : wixs V A r = X at *
    clear hwx hl he fV fA fr hV hA hc
    by_cases hi : inRB r.q = true
    · rw [if_pos hi, if_pos hi]
      rw [hi] at HI
      clear hi
      generalize r.n = rn' at *
      generalize r.s = rs' at *
      generalize r.d = rd' at *
      go_enter Tryz.func17, Tryz.ntmps17
      go_wp2_with fail
      refine (HC.out _ HV.out HA.out).mono ?_
      rintro e w3 ⟨rfl, hb3⟩
      obtain ⟨H1, HB⟩ := boxes1 hb3
      have hz3 := H1.lt
      have H1 := Lib.hid H1
      have HB := Lib.hid HB
      obtain ⟨k0, k1, k2, -, -, -⟩ := H1.out.get3
      clear hb3 HV HA HC
      go_wp2_with fail
      refine (HI.out _).mono ?_
      rintro e w4 ⟨rfl, hb4⟩
      have H1 := Lib.hid (H1.out.on hb4)
      have HB := Lib.hid (chain HB.out hb4 (Nat.le_refl _))
      have hz4 := H1.out.lt
      clear hb4 HI k0 k1 k2
      go_wp2_with fail
      go_loopw [9, 10] (fun v i wr => ∃ k : Nat, i = .int .i64 k ∧ k ≤ m ∧ Blk wr w.heap.size #[.bool rn', .string rs', .string rd'] ∧ SOwn wr (w.heap.size + 1) 3 1 v (X k).length (cI (X k)) ∧ Below w.heap.size w wr) (fun _ i _ => m - (intOf i).toNat)
      case atStart => exact ⟨0, rfl, by omega, H1.out, by rw [HZ.out]; exact SOwn.nil _ _ _ _ _, HB.out⟩
      case round =>
        obtain ⟨k, rfl, hk, J1, hown, hbel⟩ := hrel
        have HB4 := Lib.hid hbel
        have HO := Lib.hid hown
        have J1 := Lib.hid J1
        have hzr := J1.out.lt
        have hzw := hbel.size
        clear hown
        by_cases hlt : k < m
        · skip
          rcases HV0.out with h0 | ⟨bv, ov, rfl, lv, rv'⟩
          · omega
          rcases HA0.out with h0 | ⟨ba, oa, rfl, la, ra⟩
          · omega
          obtain ⟨v0, v1, v2, v3, v4, v5, v6, v7⟩ := (rv'.below hbel lv).v8 hlt
          have HCA := Lib.hid (fun W (h : Below w.heap.size w W) => (ra.below h la).r3 hlt)
          have HWK := Lib.hid (HW.out k hlt)
          have HYK := Lib.hid (HY.out k)
          have HNK := Lib.hid (HN.out k)
          have HLK := HLEN.out k
          unfold V8.v at HWK
          clear hbel rv' ra HW HY HN HLEN HV0 HA0 HFV HFA
          generalize hwb : worB (V k) (A k) r = WB at *
          clear hwb
          generalize (V k).p = vp at *
          generalize (V k).a.n = an at *
          generalize (V k).a.s = as' at *
          generalize (V k).a.d = ad at *
          generalize (V k).k.n = kn at *
          generalize (V k).k.s = ks at *
          generalize (V k).k.d = kd at *
          generalize (V k).x = vx at *
          generalize (A k).n = xn at *
          generalize (A k).s = xs at *
          generalize (A k).d = xd at *
          have i1 : (0 : Int) ≤ (k : Int) := by omega
          have i2 : (k : Int) < (m : Int) := by omega
          obtain ⟨q0, q1, q2⟩ := HCA.out wr HB4.out
          obtain ⟨l0, l1, l2⟩ := J1.out.later3
          have m0 := cell_regrown q0
          have m1 := cell_regrown q1
          have m2 := cell_regrown q2
          have g0 := cell_regrown v0
          have g1 := cell_regrown v1
          have g2 := cell_regrown v2
          have g3 := cell_regrown v3
          have g4 := cell_regrown v4
          have g5 := cell_regrown v5
          have g6 := cell_regrown v6
          have g7 := cell_regrown v7
          have G2 := Lib.hid J1.out
          have G3 := Lib.hid HO.out
          have HBW := Lib.hid HB4.out
          clear q0 q1 q2 v0 v1 v2 v3 v4 v5 v6 v7 J1 HO
          go_wp2
          refine wp_region_qb (by kernel_rfl) (by kernel_rfl) ?_
          repeat (first | go_big_quiet_skip | (refine wpQuiet_step (fun K hK => ?_); go_simp; (try simp (disch := omega) only [IntWalk.i64_in, IntWalk.u64_in, IntWalk.u32_in, IntWalk.u16_in, IntWalk.u8_in, Int.tmod_eq_emod_of_nonneg, Int.tdiv_eq_ediv_of_nonneg]); (first | (refine hK _ ?_; clear hK K) | (apply Exists.intro; refine ⟨fun _ => ?_, hK _ ?_⟩; (first | with_reducible exact Calls.later (HWK.out _)); clear hK K))))
          clear g0 g1 g2 g3 g4 g5 g6 g7 l0 l1 l2 m0 m1 m2
          refine wpQuiet_nil ?_
          intro W1 hb1
          have G2 := Lib.hid (G2.out.on hb1)
          have G3 := Lib.hid (G3.out.below hb1 (Nat.le_refl _))
          have HBX := Lib.hid (chain HBW.out hb1 (Nat.le_refl _))
          have hzx := HBX.out.size
          have hg2 := G2.out.lt
          clear hb1
          cases WB
          · have HNX := Lib.hid (HNK.out rfl)
            go_wp2
            go_roundw
            case rel => exact ⟨k + 1, by go_num, by omega, G2.out, by rw [HNX.out]; exact G3.out, HBX.out⟩
            case measure => simp [intOf]; omega
          · have HYX := Lib.hid (HYK.out rfl)
            go_wp2_with (refine wpList_appendS _ _ 39 3 1 8 (w.heap.size + 1) _ _ _ [.int .i64 (k : Int)] (by rfl) (by rfl) Tryz.underlying39 intInfo (by omega) (by rfl) (by rfl) (by simp [Value.oneCell']) (by rfl) G3.out (by omega) (by omega) (by omega) ?_; intro v9 w9 ho9 hb9; have HO9 := Lib.hid ho9; have HB9 := Lib.hid hb9; clear ho9 hb9)
            go_roundw
            case rel =>
              refine ⟨k + 1, by go_num, by omega, G2.out.below HB9.out (by omega), ?_, HBX.out.trans (HB9.out.mono (by omega))⟩
              rw [HYX.out, List.length_append]
              exact HO9.out.congr fun j hj => cI_snoc _ _ j hj
            case measure => simp [intOf]; omega
        · obtain rfl : k = m := by omega
          have hnl : decide ((k : Int) < (k : Int)) = false := by simp
          go_wp2
          exact bodyPost_ret (v := .tuple #[u9, .int .i64 0]) (by simp [results, Tryz.results17, go_sem]) rfl ⟨_, rfl, HO.out.mono (by omega), HB4.out⟩
    · rw [if_neg hi, if_neg hi]
      have hi2 : inRB r.q = false := Bool.eq_false_iff.mpr hi
      rw [hi2] at HI
      clear hi hi2
      generalize r.n = rn' at *
      generalize r.s = rs' at *
      generalize r.d = rd' at *
      go_enter Tryz.func17, Tryz.ntmps17
      go_wp2_with fail
      refine (HC.out _ HV.out HA.out).mono ?_
      rintro e w3 ⟨rfl, hb3⟩
      obtain ⟨H1, HB⟩ := boxes1 hb3
      have HB := Lib.hid HB
      obtain ⟨k0, k1, k2, -, -, -⟩ := H1.get3
      clear hb3 HV HA HC H1
      go_wp2_with fail
      refine (HI.out _).mono ?_
      rintro e w4 ⟨rfl, hb4⟩
      have HB := Lib.hid (chain HB.out hb4 (Nat.le_refl _))
      clear hb4 HI k0 k1 k2
      go_wp2
      exact bodyPost_ret (v := .tuple #[.slice none 0 0, .int .i64 1]) (by simp [results, Tryz.results17, go_sem]) rfl (RetW.nil HB.out)
  · have hl : wrsL n m V A r = [] := by unfold wrsL; rw [if_neg (fun h => hc h.1)]
    have he : wrsE n m V A r = chk n m V A := by unfold wrsE; rw [if_neg hc]
    rw [hl, he]
    have h1 : (chk n m V A == 0) = false := by simp [hc]
    generalize chk n m V A = c at *
    clear fV fA hV hA hl he fr
    generalize r.n = rn' at *
    generalize r.s = rs' at *
    generalize r.d = rd' at *
    go_enter Tryz.func17, Tryz.ntmps17
    go_wp2_with fail
    refine (HC.out _ HV.out HA.out).mono ?_
    rintro e w3 ⟨rfl, hb3⟩
    obtain ⟨H1, HB⟩ := boxes1 hb3
    have HB := Lib.hid HB
    clear hb3 HV HA HC H1
    go_wp2
    exact bodyPost_ret (v := .tuple #[.slice none 0 0, .int .i64 c]) (by simp [results, Tryz.results17, go_sem]) rfl (RetW.nil HB.out)
end Go.Proofs.Ins

set_option linter.unusedSimpArgs false
set_option linter.unusedVariables false
namespace Go.Proofs.Ins
open Go.RowKit

theorem div_le' {x a q : Rat} (h : 0 < a) : x / a ≤ q ↔ x ≤ a * q := by
  have e := Rat.div_mul_cancel (a := x) (b := a) (by grind)
  constructor
  · intro h2
    have := Rat.mul_le_mul_of_nonneg_right h2 (c := a) (by grind)
    rw [e] at this; rw [Rat.mul_comm]; exact this
  · intro h2
    by_cases h3 : x / a ≤ q
    · exact h3
    · have h4 : q < x / a := by grind
      have := Rat.mul_lt_mul_of_pos_right h4 h
      rw [e] at this; rw [Rat.mul_comm] at h2; grind
theorem div_nonneg' {x a : Rat} (h : 0 < a) (hx : 0 ≤ x) : 0 ≤ x / a := by
  by_cases h3 : 0 ≤ x / a
  · exact h3
  · have h4 : x / a < 0 := by grind
    have := Rat.mul_lt_mul_of_pos_right h4 h
    rw [Rat.div_mul_cancel (by grind)] at this
    grind
theorem cmpR_pos {a b : Rat} : 0 < cmpR a b ↔ b < a := by
  have := @cmpR_le_zero a b
  constructor
  · intro h; have : ¬ a ≤ b := fun h2 => by have := this.mpr h2; omega
    grind
  · intro h
    have h2 : ¬ cmpR a b ≤ 0 := fun h2 => by have := this.mp h2; grind
    omega
theorem cmpR_nonneg {a b : Rat} : 0 ≤ cmpR a b ↔ b ≤ a := by
  have := @cmpR_lt_zero a b
  constructor
  · intro h; have : ¬ a < b := fun h2 => by have := this.mpr h2; omega
    grind
  · intro h
    have h2 : ¬ cmpR a b < 0 := fun h2 => by have := this.mp h2; grind
    omega
theorem maxR_le {p q r : Rat} : maxR p q ≤ r ↔ p ≤ r ∧ q ≤ r := by
  unfold maxR
  by_cases h : 0 ≤ cmpR p q
  · have := cmpR_nonneg.mp h; rw [if_pos h]; grind
  · have h2 : ¬ q ≤ p := fun h2 => h (cmpR_nonneg.mpr h2)
    rw [if_neg h]; grind
theorem minR_le {p q r : Rat} : minR p q ≤ r ↔ p ≤ r ∨ q ≤ r := by
  unfold minR
  by_cases h : cmpR p q ≤ 0
  · have := cmpR_le_zero.mp h; rw [if_pos h]; grind
  · have h2 : ¬ p ≤ q := fun h2 => h (cmpR_le_zero.mpr h2)
    rw [if_neg h]; grind
theorem minR_eq_right {p q : Rat} (h : q < p) : minR p q = q := by
  unfold minR; rw [if_neg (fun h2 => by have := cmpR_le_zero.mp h2; grind)]
theorem minR_eq_left {p q : Rat} (h : p ≤ q) : minR p q = p := by
  unfold minR; rw [if_pos (cmpR_le_zero.mpr h)]

theorem worB_true {v : V8} {x r : R3} : worB v x r = true ↔ r.q < v.k.q ∧ v.a.q * r.q < x.q := by
  unfold worB
  rw [Bool.and_eq_true, decide_eq_true_eq, decide_eq_true_eq, cmpR_pos, cmpR_pos]
theorem worB_false {v : V8} {x r : R3} : worB v x r = false ↔ v.k.q ≤ r.q ∨ x.q ≤ v.a.q * r.q := by
  rw [← Bool.not_eq_true, worB_true]; grind
theorem least_le {v : V8} {x : R3} {q : Rat} (ha : 0 ≤ v.a.q) (hx : 0 ≤ x.q) (hq : 0 ≤ q) : worB v x (ofQ q) = false ↔ leastQ v x ≤ q := by
  rw [worB_false, leastQ_eq, ofQ_q]
  have hm := Rat.mul_le_mul_of_nonneg_left hq ha
  rw [Rat.mul_zero] at hm
  by_cases h1 : x.q = 0
  · rw [if_pos h1]; grind
  · rw [if_neg h1]
    by_cases h2 : v.a.q = 0
    · rw [if_pos h2, h2, Rat.zero_mul]; grind
    · rw [if_neg h2, minR_le, div_le' (by grind)]; grind
theorem flo_le {V : Nat → V8} {A : Nat → R3} {q : Rat} (hq : 0 ≤ q) : ∀ n, flo V A n ≤ q ↔ ∀ i, i < n → leastQ (V i) (A i) ≤ q
  | 0 => ⟨fun _ i hi => by omega, fun _ => hq⟩
  | n + 1 => by
    show maxR (flo V A n) (leastQ (V n) (A n)) ≤ q ↔ _
    rw [maxR_le, flo_le hq n]
    constructor
    · intro ⟨h1, h2⟩ i hi
      by_cases e : i = n
      · rw [e]; exact h2
      · exact h1 i (by omega)
    · intro h; exact ⟨fun i hi => h i (by omega), h n (by omega)⟩
theorem wixs_nil {V : Nat → V8} {A : Nat → R3} {r : R3} {n : Nat} : (wixs V A r n).length = 0 ↔ ∀ i, i < n → worB (V i) (A i) r = false := by
  unfold wixs
  rw [List.length_eq_zero_iff, List.filter_eq_nil_iff]
  simp
theorem wixs_mem {V : Nat → V8} {A : Nat → R3} {r : R3} {n i : Nat} : i ∈ wixs V A r n ↔ i < n ∧ worB (V i) (A i) r = true := by
  unfold wixs; simp
/-- Nobody is worse off just from the floor on. -/
theorem wixs_flo {V : Nat → V8} {A : Nat → R3} {q : Rat} {n : Nat} (ha : ∀ i, i < n → 0 ≤ (V i).a.q) (hx : ∀ i, i < n → 0 ≤ (A i).q) (hq : 0 ≤ q) : (wixs V A (ofQ q) n).length = 0 ↔ flo V A n ≤ q := by
  rw [wixs_nil, flo_le hq]
  exact ⟨fun h i hi => (least_le (ha i hi) (hx i hi) hq).mp (h i hi), fun h i hi => (least_le (ha i hi) (hx i hi) hq).mpr (h i hi)⟩
theorem int_nonneg {i : Int} (h : 0 ≤ i) : (0 : Rat) ≤ (i : Rat) := by
  have : ((0 : Int) : Rat) ≤ (i : Rat) := Rat.intCast_le_intCast.mpr h
  exact this
theorem int_pos {i : Int} (h : 0 < i) : (0 : Rat) < (i : Rat) := by
  have : ((0 : Int) : Rat) < (i : Rat) := Rat.intCast_lt_intCast.mpr h
  exact this
theorem frac_nonneg {i j : Int} (h : 0 ≤ i) (hj : 0 < j) : (0 : Rat) ≤ (i : Rat) / (j : Rat) := div_nonneg' (int_pos hj) (int_nonneg h)
theorem frac_le_one {i j : Int} (h : i ≤ j) (hj : 0 < j) : (i : Rat) / (j : Rat) ≤ 1 := by
  rw [div_le' (int_pos hj), Rat.mul_one]; exact Rat.intCast_le_intCast.mpr h
theorem frac_mono {i k j : Int} (h : i ≤ k) (hj : 0 < j) : (i : Rat) / (j : Rat) ≤ (k : Rat) / (j : Rat) := by
  rw [div_le' (int_pos hj), Rat.mul_comm, Rat.div_mul_cancel (by have := int_pos hj; grind)]; exact Rat.intCast_le_intCast.mpr h
theorem amt_nonneg (x : Nat) : 0 ≤ amt x := by
  by_cases h : x % 5 = 0
  · rw [amt_0 h]; exact frac_nonneg (by omega) (by omega)
  · by_cases h1 : x % 5 = 1
    · rw [amt_1 h1]; exact int_nonneg (by omega)
    · rw [amt_2 h h1]; exact int_nonneg (by omega)
theorem vot_a (L : Nat → Nat → Nat) (i : Nat) : 0 ≤ (votV L i).a.q := by
  show 0 ≤ (ofQ (amt (L i 1))).q
  rw [ofQ_q]; exact amt_nonneg _
theorem vot_k (L : Nat → Nat → Nat) (i : Nat) : 0 ≤ (votV L i).k.q := by
  show 0 ≤ (ofQ ((((L i 2 % 14 : Nat) : Int) : Rat) / ((12 : Int) : Rat))).q
  rw [ofQ_q]; exact frac_nonneg (by omega) (by omega)
theorem r3_default : (default : R3).q = 0 := by
  have : (default : R3) = ofQ 0 := by
    show (⟨false, ⟨#[]⟩, ⟨#[]⟩⟩ : R3) = ⟨rn 0, rs 0, rd 0⟩
    rw [rn_zero, rs_zero, rd_zero]
  rw [this, ofQ_q]
theorem val_nonneg (L : Nat → Nat) (n i : Nat) : 0 ≤ (valR L n i).q := by
  unfold valR
  split
  · rw [ofQ_q]; exact amt_nonneg _
  · rw [r3_default]; exact Rat.le_refl
theorem neg_of_nonneg {q : Rat} (h : 0 ≤ q) : decide (sg q < 0) = false := sg_ge (by grind)
theorem vot_chk (L : Nat → Nat → Nat) (M : Nat → Nat) (n k : Nat) (hk : k ≤ 7) : chk k k (votV L) (valR M n) = 0 :=
  chk_ok (by omega) (fun i _ => by unfold negV; rw [neg_of_nonneg (vot_a L i), neg_of_nonneg (vot_k L i)]; rfl) (fun i _ => by unfold negR; exact neg_of_nonneg (val_nonneg M n i))
theorem inRB_true {q : Rat} (h : 0 ≤ q) (h1 : q ≤ 1) : inRB q = true := by
  unfold inRB
  rw [decide_eq_true (cmpR_le_zero.mpr h1), Bool.and_true]
  apply decide_eq_true
  rcases sg_cases q with ⟨e1, h⟩ | ⟨e1, h⟩ | ⟨e1, h⟩
  · grind
  · omega
  · omega
theorem wrs_ok {n : Nat} {V : Nat → V8} {A : Nat → R3} {q : Rat} (h : chk n n V A = 0) (h0 : 0 ≤ q) (h1 : q ≤ 1) : wrsL n n V A (ofQ q) = wixs V A (ofQ q) n ∧ wrsE n n V A (ofQ q) = 0 := by
  have hr : inRB (ofQ q).q = true := by rw [ofQ_q]; exact inRB_true h0 h1
  exact ⟨by unfold wrsL; rw [if_pos ⟨h, hr⟩], by unfold wrsE; rw [if_pos h, if_pos hr]⟩
theorem flQ_ok {n : Nat} {V : Nat → V8} {A : Nat → R3} (h : chk n n V A = 0) : flQ n n V A = minR (flo V A n) 1 := by unfold flQ; rw [if_pos h]

set_option maxRecDepth 100000 in
set_option maxHeartbeats 6400000 in
theorem law_least (a1 : Option Addr) (n1 c1 : Nat) (a2 : Option Addr) (n2 c2 : Nat) (t : Nat) (L : Nat → Nat → Nat) (M : Nat → Nat) (w : World)
    (h1 : SArg w a1 n1 4 (u16c L)) (h2 : SArg w a2 n2 1 (c16 M)) (b1 : ∀ i j, i < n1 → L i j ≤ 65535) (b2 : ∀ i, i < n2 → M i ≤ 65535) (ht : t ≤ 65535) (l1 : n1 ≤ 140737488351232) (l2 : n2 ≤ 140737488351232) :
    Calls Tryz.prog 5 #[.slice a1 n1 c1, .slice a2 n2 c2, .int .u16 (t : Int)] w fun e w' => e = .returned (.bool true) ∧ Below w.heap.size w w' := by
  have HW := Lib.hid awake_any
  have H1 := Lib.hid h1
  have H2 := Lib.hid h2
  have HV := Lib.hid (fun w (h : SArg w a1 n1 4 (u16c L)) => voters_any a1 n1 c1 L w h b1 l1)
  have HX := Lib.hid (fun w m (h : SArg w a2 n2 1 (c16 M)) (hm : m ≤ 1000000) => values_any a2 n2 c2 m M w h b2 l2 hm)
  have hk : min n1 7 ≤ 7 := by omega
  generalize min n1 7 = k at *
  have hck := vot_chk L M n2 k hk
  have ha : ∀ i, i < k → 0 ≤ (votV L i).a.q := fun i _ => vot_a L i
  have hx : ∀ i, i < k → 0 ≤ (valR M n2 i).q := fun i _ => val_nonneg M n2 i
  have hRt := fun w => ratio_any ((t : Int) % 121) 120 w (by omega) (by omega) (by omega) (by omega)
  have hsr : Sm 4 ((((t : Int) % 121 : Int) : Rat) / ((120 : Int) : Rat)) := sm_frac (by omega) (by omega) (by omega)
  have hq0 : 0 ≤ (((t : Int) % 121 : Int) : Rat) / ((120 : Int) : Rat) := frac_nonneg (by omega) (by omega)
  have hq1 : (((t : Int) % 121 : Int) : Rat) / ((120 : Int) : Rat) ≤ 1 := frac_le_one (by omega) (by omega)
  generalize hqt : (((t : Int) % 121 : Int) : Rat) / ((120 : Int) : Rat) = q at *
  have fq : (ofQ q).fits 1000 := ofQ_fits (hsr.mono (by omega))
  have h1s : Sm 1 (1 : Rat) := ⟨by decide, by decide⟩
  have f1 : (ofQ 1).fits 1000 := ofQ_fits (h1s.mono (by omega))
  have hF := fun a c a' c' w (h : SArg w a k 8 fun i => (votV L i).c) (h' : SArg w a' k 3 fun i => (valR M n2 i).c) => floor_any a k c a' k c' (votV L) (valR M n2) w h h' (fun i _ => votV_fits L i) (fun i _ => valR_fits M n2 i) (by omega) (by omega)
  have hA := fun a c a' c' w (h : SArg w a k 8 fun i => (votV L i).c) (h' : SArg w a' k 3 fun i => (valR M n2 i).c) => worses_any a k c a' k c' (votV L) (valR M n2) (ofQ q) w h h' (fun i _ => votV_fits L i) (fun i _ => valR_fits M n2 i) fq (by omega) (by omega)
  have hB := fun a c a' c' w (h : SArg w a k 8 fun i => (votV L i).c) (h' : SArg w a' k 3 fun i => (valR M n2 i).c) => worses_any a k c a' k c' (votV L) (valR M n2) (ofQ 1) w h h' (fun i _ => votV_fits L i) (fun i _ => valR_fits M n2 i) f1 (by omega) (by omega)
  rw [(wrs_ok hck hq0 hq1).1, (wrs_ok hck hq0 hq1).2] at hA
  rw [(wrs_ok hck (by decide : (0 : Rat) ≤ 1) Rat.le_refl).1, (wrs_ok hck (by decide : (0 : Rat) ≤ 1) Rat.le_refl).2] at hB
  rw [flQ_ok hck, hck] at hF
  have eA := wixs_flo (n := k) ha hx hq0
  have eB := wixs_flo (n := k) ha hx (show (0 : Rat) ≤ 1 by decide)
  have hsf := sm_flo (V := votV L) (A := valR M n2) k (fun i _ => votV_fits L i) (fun i _ => valR_fits M n2 i)
  have sF : (ofQ (minR (flo (votV L) (valR M n2) k) 1)).fits 4002 := ofQ_fits (sm_minR hsf (h1s.mono (by omega)))
  have hWh := fun w => whole_any 1 w (by omega) (by omega)
  rw [show (((1 : Int) : Rat)) = 1 from rfl] at hWh
  have HWh := Lib.hid hWh
  have HRt := Lib.hid hRt
  unfold ofQ at hA hB
  unfold rv at hF
  generalize flo (votV L) (valR M n2) k = φ at *
  by_cases hlb : (wixs (votV L) (valR M n2) (ofQ 1) k).length = 0
  · have hφ := eB.mp hlb
    rw [minR_eq_left hφ] at hF sF
    have hC := fun w => rcompare_any (rn q) (rs q) (rd q) (rn φ) (rs φ) (rd φ) w (by have := fq.1; have := fq.2; simp only [ofQ] at *; omega) (by have := sF.1; have := sF.2; simp only [ofQ] at *; omega)
    rw [rq_of, rq_of] at hC
    have HC := Lib.hid hC
    have hcmp : (wixs (votV L) (valR M n2) (ofQ q) k).length = 0 ↔ 0 ≤ cmpR q φ := by rw [eA, cmpR_nonneg]
    unfold ofQ at hlb hcmp
    have HF := Lib.hid hF
    have HA := Lib.hid hA
    have HB' := Lib.hid hB
    generalize wixs (votV L) (valR M n2) ⟨rn q, rs q, rd q⟩ k = la at *
    generalize wixs (votV L) (valR M n2) ⟨rn 1, rs 1, rd 1⟩ k = lb at *
    clear hC hsf sF hRt hWh hsr eA eB hF hA hB ha hx hck fq f1 h1s hq0 hq1 hqt hφ h1 h2 b1 b2
    generalize cmpR q φ = cc at *
    generalize rn q = q1 at *
    generalize rs q = q2 at *
    generalize rd q = q3 at *
    generalize rn φ = g1 at *
    generalize rs φ = g2 at *
    generalize rd φ = g3 at *
    generalize rn 1 = o1 at *
    generalize rs 1 = o2 at *
    generalize rd 1 = o3 at *
    have hcb : ((la.length : Int) == 0) = decide (0 ≤ cc) := by
      rw [Bool.eq_iff_iff]; simp; rw [← hcmp]; simp
    generalize hLA : la.length = nla at *
    generalize hLB : lb.length = nlb at *
    subst hlb
    have ht0 : (0 : Int) ≤ (t : Int) := by omega
    go_enter Tryz.func5, Tryz.ntmps5
    go_wp2_with fail
    refine (HV.out _ H1.out).mono ?_; rintro e w3 ⟨av, cv, rfl, hcv, hcv2, sv, hb3⟩
    have HB := Lib.hid hb3
    have HSV := Lib.hid sv
    clear hb3 sv
    go_wp2_with fail
    refine (HX.out _ k (H2.out.on HB.out) (by omega)).mono ?_; rintro e w4 ⟨vx, rfl, hox, hb4⟩
    obtain ⟨ax, cx, rfl, -, -, sx⟩ := hox.arg
    have HB := Lib.hid (chain HB.out hb4 (Nat.le_refl _))
    have HSV := Lib.hid (HSV.out.on hb4)
    have HSX := Lib.hid sx
    clear hb4 sx hox
    go_wp2_with fail
    refine (HF.out _ _ _ _ _ HSV.out HSX.out).mono ?_; rintro e w5 ⟨rfl, hb5⟩
    have HB5 := chain HB.out hb5 (Nat.le_refl _)
    have hz5 := HB5.size
    have hal := (Below.refl w5.heap.size w5).alloc (Nat.le_refl _) (.cells #[.bool g1, .string g2, .string g3] 30)
    have J1 := Lib.hid (Blk.new w5 #[.bool g1, .string g2, .string g3] 30)
    have HSV := Lib.hid ((HSV.out.on hb5).on hal)
    have HSX := Lib.hid ((HSX.out.on hb5).on hal)
    have HB := Lib.hid (chain HB5 hal (Nat.le_refl _))
    clear hb5 HB5 hal
    go_wp2_with fail
    refine (HRt.out _).mono ?_; rintro e w6 ⟨rfl, hb6⟩
    have hal := (Below.refl w6.heap.size w6).alloc (Nat.le_refl _) (.cells #[.bool q1, .string q2, .string q3] 30)
    have J1 := Lib.hid ((J1.out.on hb6).on hal)
    have J2 := Lib.hid (Blk.new w6 #[.bool q1, .string q2, .string q3] 30)
    have HSV := Lib.hid ((HSV.out.on hb6).on hal)
    have HSX := Lib.hid ((HSX.out.on hb6).on hal)
    have HB := Lib.hid (chain (chain HB.out hb6 (Nat.le_refl _)) hal (Nat.le_refl _))
    clear hb6 hal
    obtain ⟨k0, k1, k2, -, -, -⟩ := J2.out.get3
    go_wp2_with fail
    refine (HA.out _ _ _ _ _ HSV.out HSX.out).mono ?_; rintro e w7 ⟨v7, rfl, ho7, hb7⟩
    obtain ⟨a7, c7, rfl, -, -, -⟩ := ho7.arg
    rw [hLA]
    have J1 := Lib.hid (J1.out.on hb7)
    have J2 := Lib.hid (J2.out.on hb7)
    have HSV := Lib.hid (HSV.out.on hb7)
    have HSX := Lib.hid (HSX.out.on hb7)
    have HB := Lib.hid (chain HB.out hb7 (Nat.le_refl _))
    clear hb7 ho7 k0 k1 k2
    go_wp2_with fail
    refine (HWh.out _).mono ?_; rintro e w8 ⟨rfl, hb8⟩
    have J1 := Lib.hid (J1.out.on hb8)
    have J2 := Lib.hid (J2.out.on hb8)
    have HSV := Lib.hid (HSV.out.on hb8)
    have HSX := Lib.hid (HSX.out.on hb8)
    have HB := Lib.hid (chain HB.out hb8 (Nat.le_refl _))
    clear hb8
    go_wp2_with fail
    refine (HB'.out _ _ _ _ _ HSV.out HSX.out).mono ?_; rintro e w9 ⟨v9, rfl, ho9, hb9⟩
    obtain ⟨a9, c9, rfl, -, -, -⟩ := ho9.arg
    rw [hLB]
    have J1 := Lib.hid (J1.out.on hb9)
    have J2 := Lib.hid (J2.out.on hb9)
    have HB := Lib.hid (chain HB.out hb9 (Nat.le_refl _))
    clear hb9 ho9 HSV HSX
    go_wp2_with fail
    refine (HW.out _).mono ?_; rintro e w10 ⟨rfl, hb10⟩
    have J1 := Lib.hid (J1.out.on hb10)
    have J2 := Lib.hid (J2.out.on hb10)
    have HB := Lib.hid (chain HB.out hb10 (Nat.le_refl _))
    clear hb10
    obtain ⟨k0, k1, k2, -, -, -⟩ := J1.out.get3
    obtain ⟨k3, k4, k5, -, -, -⟩ := J2.out.get3
    go_wp2_with fail
    refine (HC.out _).mono ?_; rintro e w11 ⟨rfl, hb11⟩
    have HB := Lib.hid (chain HB.out hb11 (Nat.le_refl _))
    clear hb11 k0 k1 k2 k3 k4 k5
    go_wp2
    go_ret
    exact ⟨rfl, HB.out⟩
  · have hφ : 1 < φ := by have : ¬ φ ≤ 1 := fun h => hlb (eB.mpr h); grind
    rw [minR_eq_right hφ] at hF sF
    have hla : (wixs (votV L) (valR M n2) (ofQ q) k).length ≠ 0 := fun h => by have := eA.mp h; grind
    unfold ofQ at hlb hla
    have HF := Lib.hid hF
    have HA := Lib.hid hA
    have HB' := Lib.hid hB
    generalize wixs (votV L) (valR M n2) ⟨rn q, rs q, rd q⟩ k = la at *
    generalize wixs (votV L) (valR M n2) ⟨rn 1, rs 1, rd 1⟩ k = lb at *
    clear hsf sF hRt hWh hsr eA eB hF hA hB ha hx hck fq f1 h1s hq0 hq1 hqt hφ h1 h2 b1 b2
    generalize rn q = q1 at *
    generalize rs q = q2 at *
    generalize rd q = q3 at *
    generalize rn 1 = o1 at *
    generalize rs 1 = o2 at *
    generalize rd 1 = o3 at *
    generalize hLA : la.length = nla at *
    generalize hLB : lb.length = nlb at *
    have e1 : decide ((0 : Int) < (nla : Int)) = true := by simp; omega
    have e2 : decide ((0 : Int) < (nlb : Int)) = true := by simp; omega
    have e1' : decide (0 < nla) = true := by simp; omega
    have e2' : decide (0 < nlb) = true := by simp; omega
    have ht0 : (0 : Int) ≤ (t : Int) := by omega
    go_enter Tryz.func5, Tryz.ntmps5
    go_wp2_with fail
    refine (HV.out _ H1.out).mono ?_; rintro e w3 ⟨av, cv, rfl, hcv, hcv2, sv, hb3⟩
    have HB := Lib.hid hb3
    have HSV := Lib.hid sv
    clear hb3 sv
    go_wp2_with fail
    refine (HX.out _ k (H2.out.on HB.out) (by omega)).mono ?_; rintro e w4 ⟨vx, rfl, hox, hb4⟩
    obtain ⟨ax, cx, rfl, -, -, sx⟩ := hox.arg
    have HB := Lib.hid (chain HB.out hb4 (Nat.le_refl _))
    have HSV := Lib.hid (HSV.out.on hb4)
    have HSX := Lib.hid sx
    clear hb4 sx hox
    go_wp2_with fail
    refine (HF.out _ _ _ _ _ HSV.out HSX.out).mono ?_; rintro e w5 ⟨rfl, hb5⟩
    have HB5 := chain HB.out hb5 (Nat.le_refl _)
    have hz5 := HB5.size
    have hal := (Below.refl w5.heap.size w5).alloc (Nat.le_refl _) (.cells #[.bool o1, .string o2, .string o3] 30)
    have J1 := Lib.hid (Blk.new w5 #[.bool o1, .string o2, .string o3] 30)
    have HSV := Lib.hid ((HSV.out.on hb5).on hal)
    have HSX := Lib.hid ((HSX.out.on hb5).on hal)
    have HB := Lib.hid (chain HB5 hal (Nat.le_refl _))
    clear hb5 HB5 hal
    go_wp2_with fail
    refine (HRt.out _).mono ?_; rintro e w6 ⟨rfl, hb6⟩
    have hal := (Below.refl w6.heap.size w6).alloc (Nat.le_refl _) (.cells #[.bool q1, .string q2, .string q3] 30)
    have J1 := Lib.hid ((J1.out.on hb6).on hal)
    have J2 := Lib.hid (Blk.new w6 #[.bool q1, .string q2, .string q3] 30)
    have HSV := Lib.hid ((HSV.out.on hb6).on hal)
    have HSX := Lib.hid ((HSX.out.on hb6).on hal)
    have HB := Lib.hid (chain (chain HB.out hb6 (Nat.le_refl _)) hal (Nat.le_refl _))
    clear hb6 hal
    obtain ⟨k0, k1, k2, -, -, -⟩ := J2.out.get3
    go_wp2_with fail
    refine (HA.out _ _ _ _ _ HSV.out HSX.out).mono ?_; rintro e w7 ⟨v7, rfl, ho7, hb7⟩
    obtain ⟨a7, c7, rfl, -, -, -⟩ := ho7.arg
    rw [hLA]
    have J1 := Lib.hid (J1.out.on hb7)
    have HSV := Lib.hid (HSV.out.on hb7)
    have HSX := Lib.hid (HSX.out.on hb7)
    have HB := Lib.hid (chain HB.out hb7 (Nat.le_refl _))
    clear hb7 ho7 k0 k1 k2 J2
    go_wp2_with fail
    refine (HWh.out _).mono ?_; rintro e w8 ⟨rfl, hb8⟩
    have J1 := Lib.hid (J1.out.on hb8)
    have HSV := Lib.hid (HSV.out.on hb8)
    have HSX := Lib.hid (HSX.out.on hb8)
    have HB := Lib.hid (chain HB.out hb8 (Nat.le_refl _))
    clear hb8
    go_wp2_with fail
    refine (HB'.out _ _ _ _ _ HSV.out HSX.out).mono ?_; rintro e w9 ⟨v9, rfl, ho9, hb9⟩
    obtain ⟨a9, c9, rfl, -, -, -⟩ := ho9.arg
    rw [hLB]
    have J1 := Lib.hid (J1.out.on hb9)
    have HB := Lib.hid (chain HB.out hb9 (Nat.le_refl _))
    clear hb9 ho9 HSV HSX
    obtain ⟨k0, k1, k2⟩ := J1.out.later3
    go_wp2
    refine wp_region_qb (by kernel_rfl) (by kernel_rfl) ?_
    repeat (first | go_big_quiet_skip | (refine wpQuiet_step (fun K hK => ?_); go_simp; (try simp (disch := omega) only [IntWalk.i64_in, IntWalk.u64_in, IntWalk.u32_in, IntWalk.u16_in, IntWalk.u8_in, Int.tmod_eq_emod_of_nonneg, Int.tdiv_eq_ediv_of_nonneg]); (first | (refine hK _ ?_; clear hK K) | (apply Exists.intro; refine ⟨fun _ => ?_, hK _ ?_⟩; (first | with_reducible exact Calls.later (HW.out _) | with_reducible exact Calls.later (HWh.out _)); clear hK K))))
    clear k0 k1 k2
    refine wpQuiet_nil ?_
    intro W1 hb1
    have HB := Lib.hid (chain HB.out hb1 (Nat.le_refl _))
    clear hb1
    go_wp2
    go_ret
    exact ⟨rfl, HB.out⟩
end Go.Proofs.Ins
