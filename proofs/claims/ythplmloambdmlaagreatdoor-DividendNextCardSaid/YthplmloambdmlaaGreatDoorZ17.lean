/- The walks of dividend.Next, insolvencyref21.Next and insolvencyref1.SameRats. -/
import Derived.Test.YthplmloambdmlaaGreatDoorZ3
import Derived.Test.YthplmloambdmlaaGreatDoorZ16
import Derived.Test.YthplmloambdmlaaGreatDoorZ15

set_option linter.unusedSimpArgs false
set_option linter.unusedVariables false
namespace Go.Proofs.Ins
open Go.RowKit

/-- What is still to be paid. -/
def nxtQ (P S : Nat → R3) (i : Nat) : Rat := posR ((S i).q - (P i).q)
def nxtC (P S : Nat → R3) (i : Nat) : List Value := [.bool (rn (nxtQ P S i)), .string (rs (nxtQ P S i)), .string (rd (nxtQ P S i))]
/-- A list of the call's own and a code, handed back. -/
def RetN (w : World) (n : Nat) (F : Nat → List Value) (e : Ending) (w' : World) : Prop :=
  ∃ v, e = .returned (.tuple #[v, .int .i64 0]) ∧ SOwn w' w.heap.size 33 3 v n F ∧ Below w.heap.size w w'

set_option maxRecDepth 100000 in
set_option maxHeartbeats 1600000 in
theorem next_no (a1 : Option Addr) (n1 c1 : Nat) (a2 : Option Addr) (n2 c2 : Nat) (w : World) (h : n1 ≠ n2) (l1 : n1 ≤ 1000000) (l2 : n2 ≤ 1000000) :
    Calls Tryz.prog 60 #[.slice a1 n1 c1, .slice a2 n2 c2] w fun e w' => e = .returned (.tuple #[.slice none 0 0, .int .i64 4]) ∧ Below w.heap.size w w' := by
  have e1 : ((n1 : Int) != (n2 : Int)) = true := by simp; omega
  have e2 : ((n1 : Int) == (n2 : Int)) = false := by simp; omega
  go_enter Tryz.func60, Tryz.ntmps60
  go_wp2
  exact bodyPost_ret (v := .tuple #[.slice none 0 0, .int .i64 4]) (by simp [results, Tryz.results60, go_sem]) rfl ⟨rfl, Below.refl _ _⟩
set_option maxRecDepth 100000 in
set_option maxHeartbeats 1600000 in
theorem next_ok (a1 : Option Addr) (n c1 : Nat) (a2 : Option Addr) (c2 : Nat) (P S : Nat → R3) (w : World) (h1 : SArg w a1 n 3 fun i => (P i).c) (h2 : SArg w a2 n 3 fun i => (S i).c) (f1 : ∀ i, i < n → (P i).fits 1000) (f2 : ∀ i, i < n → (S i).fits 1000) (hn : n ≤ 1000000) :
    Calls Tryz.prog 60 #[.slice a1 n c1, .slice a2 n c2] w (RetN w n (nxtC P S)) := by
  have H1 := Lib.hid h1
  have H2 := Lib.hid h2
  have F1 := Lib.hid f1
  have F2 := Lib.hid f2
  clear h1 h2 f1 f2
  have e1 : ((n : Int) != (n : Int)) = false := by simp
  go_enter Tryz.func60, Tryz.ntmps60
  go_wp2
  go_loopw [6, 15] (fun v i wr => ∃ k : Nat, i = .int .i64 k ∧ k ≤ n ∧ SOwn wr w.heap.size 33 3 v k (nxtC P S) ∧ Below w.heap.size w wr) (fun _ i _ => n - (intOf i).toNat)
  case atStart => exact ⟨0, rfl, by omega, SOwn.nil _ _ _ _ _, Below.refl _ _⟩
  case round =>
    obtain ⟨k, rfl, hk, hown, hbel⟩ := hrel
    have HO := Lib.hid hown
    have HB := Lib.hid hbel
    have hsz := hbel.size
    clear hown
    by_cases hlt : k < n
    · rcases H1.out with h0 | ⟨b1, o1, rfl, lb1, r1⟩
      · omega
      rcases H2.out with h0 | ⟨b2, o2, rfl, lb2, r2⟩
      · omega
      obtain ⟨x0, x1, x2⟩ := (r1.below hbel lb1).r3 hlt
      obtain ⟨y0, y1, y2⟩ := (r2.below hbel lb2).r3 hlt
      have g1 := F1.out k hlt
      have g2 := F2.out k hlt
      have HSb := Lib.hid (fun w => subtract_rat (S k).n (S k).s (S k).d (P k).n (P k).s (P k).d w (by have := g2.1; have := g2.2; omega) (by have := g1.1; have := g1.2; omega))
      have hq : Sm 5000 (rq (S k).n (S k).s (S k).d - rq (P k).n (P k).s (P k).d) := ((sm_raw (S k).n (S k).s (S k).d).sub (sm_raw (P k).n (P k).s (P k).d)).mono (by have := g1.1; have := g1.2; have := g2.1; have := g2.2; omega)
      have hE : nxtC P S k = [.bool (rn (posR (rq (S k).n (S k).s (S k).d - rq (P k).n (P k).s (P k).d))), .string (rs (posR (rq (S k).n (S k).s (S k).d - rq (P k).n (P k).s (P k).d))), .string (rd (posR (rq (S k).n (S k).s (S k).d - rq (P k).n (P k).s (P k).d)))] := rfl
      generalize rq (S k).n (S k).s (S k).d - rq (P k).n (P k).s (P k).d = q at *
      have HMx := Lib.hid (fun w => max_rat (rn q) (rs q) (rd q) false ⟨#[]⟩ ⟨#[]⟩ w (by have := hq.rs; have := hq.rd; omega) (by decide))
      rw [rq_of, show rq false ⟨#[]⟩ ⟨#[]⟩ = 0 from rq_of 0, maxR_zero] at HMx
      have HE := Lib.hid hE
      unfold rv at HMx HSb
      clear g1 g2 hE hq r1 r2 H1 H2 F1 F2
      generalize posR q = r at *
      generalize rn q = q1 at *
      generalize rs q = q2 at *
      generalize rd q = q3 at *
      generalize rn r = p1 at *
      generalize rs r = p2 at *
      generalize rd r = p3 at *
      generalize (P k).n = u1 at *
      generalize (P k).s = u2 at *
      generalize (P k).d = u3 at *
      generalize (S k).n = v1 at *
      generalize (S k).s = v2 at *
      generalize (S k).d = v3 at *
      have i1 : (0 : Int) ≤ (k : Int) := by omega
      have i2 : (k : Int) < (n : Int) := by omega
      go_wp2
      have d0 := exc_cell (B := w.heap.size) x0 lb1
      have d1 := exc_cell (B := w.heap.size) x1 lb1
      have d2 := exc_cell (B := w.heap.size) x2 lb1
      have d3 := exc_cell (B := w.heap.size) y0 lb2
      have d4 := exc_cell (B := w.heap.size) y1 lb2
      have d5 := exc_cell (B := w.heap.size) y2 lb2
      refine wp_region_segs (Exc wr (fromB w.heap.size)) [([0, 1, 2, 3, 4, 5, 6, 7, 8, 10], 9), ([], 11), ([], 12), ([], 13)] [14] (by kernel_rfl) (by kernel_rfl) (by kernel_rfl) (by kernel_rfl) (exc_below (Below.refl _ _).drew) ?_
      refine wpSegs_cons ?_
      simp only [getOps, gl9]
      repeat (first | go_big_quiet_skip | (refine wpQuiet_step (fun K hK => ?_); go_simp; (try simp (disch := omega) only [ar9]); (first | (refine hK _ ?_; clear hK K) | (simp (disch := omega) only [if_pos, dif_pos, if_neg, dif_neg, ar9]; go_simp; refine hK _ ?_; clear hK K))))
      refine wpQuiet_nil ?_
      go_step
      rename_i K9 hK9
      refine (HSb.out _).mono ?_
      rintro e w1 ⟨rfl, d9⟩
      have HB1 := Lib.hid (chain (Below.refl w.heap.size wr).drew d9 (by simpa using hsz))
      have HO1 := Lib.hid ((HO.out.below ((Below.refl wr.heap.size wr).drew) (Nat.le_refl _)).below d9 (Nat.le_refl _))
      have hz1 := HB1.out.size
      clear d9
      refine hK9 _ _ ?_
      clear hK9 K9
      refine segQ_normal (And.intro (exc_below HB1.out) ?_)
      refine wpSegs_cons ?_
      simp only [getOps, gl9]
      repeat (first | go_big_quiet_skip | (refine wpQuiet_step (fun K hK => ?_); go_simp; (try simp (disch := omega) only [ar9]); (first | (refine hK _ ?_; clear hK K) | (simp (disch := omega) only [if_pos, dif_pos, if_neg, dif_neg, ar9]; go_simp; refine hK _ ?_; clear hK K))))
      refine wpQuiet_nil ?_
      go_step
      rename_i K9 hK9
      refine (HMx.out _).mono ?_
      rintro e w2 ⟨rfl, d9⟩
      have HB2 := Lib.hid (chain HB1.out d9 (by omega))
      have HO2 := Lib.hid (HO1.out.below d9 (Nat.le_refl _))
      have hz2 := HB2.out.size
      clear d9
      refine hK9 _ _ ?_
      clear hK9 K9
      refine segQ_normal (And.intro (exc_below HB2.out) ?_)
      refine wpSegs_cons ?_
      simp only [getOps, gl9]
      repeat (first | go_big_quiet_skip | (refine wpQuiet_step (fun K hK => ?_); go_simp; (try simp (disch := omega) only [ar9]); (first | (refine hK _ ?_; clear hK K) | (simp (disch := omega) only [if_pos, dif_pos, if_neg, dif_neg, ar9]; go_simp; refine hK _ ?_; clear hK K))))
      refine wpQuiet_nil ?_
      go_step
      rename_i K9 hK9
      refine hK9 _ _ ?_
      clear hK9 K9
      refine segQ_normal (And.intro (exc_below (HB2.out.alloc (by omega) _)) ?_)
      refine wpSegs_cons ?_
      simp only [getOps, gl9]
      repeat (first | go_big_quiet_skip | (refine wpQuiet_step (fun K hK => ?_); go_simp; (try simp (disch := omega) only [ar9]); (first | (refine hK _ ?_; clear hK K) | (simp (disch := omega) only [if_pos, dif_pos, if_neg, dif_neg, ar9]; go_simp; refine hK _ ?_; clear hK K))))
      refine wpQuiet_nil ?_
      refine wpList_appendS _ _ 30 33 3 40 w.heap.size _ _ _ [.bool p1, .string p2, .string p3] (by rfl) (by rfl) Tryz.underlying30 ratInfo (by omega) (by rfl) (by rfl) (by simp [Value.oneCell']) (by rfl) HO2.out (by omega) (by omega) (by omega) ?_
      intro v' w3 ho3 hb3
      have HO3 := Lib.hid ho3
      have HB3 := Lib.hid (HB2.out.trans hb3)
      clear ho3 hb3
      refine segQ_normal (And.intro (exc_below HB3.out) ?_)
      refine wpSegs_nil ?_
      simp only [getOps, gl9]
      repeat (first | go_big_quiet_skip | (refine wpQuiet_step (fun K hK => ?_); go_simp; (try simp (disch := omega) only [ar9]); (first | (refine hK _ ?_; clear hK K) | (simp (disch := omega) only [if_pos, dif_pos, if_neg, dif_neg, ar9]; go_simp; refine hK _ ?_; clear hK K))))
      refine wpQuiet_nil ?_
      go_wp2
      go_roundw
      case rel =>
        refine ⟨k + 1, by go_num, by omega, HO3.out.congr fun j hj => ?_, HB.out.trans HB3.out⟩
        by_cases e : j < k
        · rw [if_pos e]
        · obtain rfl : j = k := by omega
          rw [if_neg e, ← HE.out]
      case measure => simp [intOf]; omega
    · obtain rfl : k = n := by omega
      have HR := Lib.hid (show RetN w k (nxtC P S) (.returned (.tuple #[u6, .int .i64 0])) wr from ⟨u6, rfl, HO.out, hbel⟩)
      have hnl : decide ((k : Int) < (k : Int)) = false := by simp
      go_wp2
      exact bodyPost_ret (v := .tuple #[u6, .int .i64 0]) (by simp [results, Tryz.results60, go_sem]) rfl HR.out

set_option maxRecDepth 100000 in
set_option maxHeartbeats 1600000 in
theorem rnext_no (a1 : Option Addr) (n1 c1 : Nat) (a2 : Option Addr) (n2 c2 : Nat) (w : World) (h : n1 ≠ n2) (l1 : n1 ≤ 1000000) (l2 : n2 ≤ 1000000) :
    Calls Tryz.prog 61 #[.slice a1 n1 c1, .slice a2 n2 c2] w fun e w' => e = .returned (.tuple #[.slice none 0 0, .int .i64 4]) ∧ Below w.heap.size w w' := by
  have e1 : ((n1 : Int) != (n2 : Int)) = true := by simp; omega
  have e2 : ((n1 : Int) == (n2 : Int)) = false := by simp; omega
  go_enter Tryz.func61, Tryz.ntmps61
  go_wp2
  exact bodyPost_ret (v := .tuple #[.slice none 0 0, .int .i64 4]) (by simp [results, Tryz.results61, go_sem]) rfl ⟨rfl, Below.refl _ _⟩
set_option maxRecDepth 100000 in
set_option maxHeartbeats 1600000 in
theorem rnext_ok (a1 : Option Addr) (n c1 : Nat) (a2 : Option Addr) (c2 : Nat) (P S : Nat → R3) (w : World) (h1 : SArg w a1 n 3 fun i => (P i).c) (h2 : SArg w a2 n 3 fun i => (S i).c) (f1 : ∀ i, i < n → (P i).fits 1000) (f2 : ∀ i, i < n → (S i).fits 1000) (hn : n ≤ 1000000) :
    Calls Tryz.prog 61 #[.slice a1 n c1, .slice a2 n c2] w (RetN w n (nxtC P S)) := by
  have H1 := Lib.hid h1
  have H2 := Lib.hid h2
  have F1 := Lib.hid f1
  have F2 := Lib.hid f2
  clear h1 h2 f1 f2
  have e1 : ((n : Int) != (n : Int)) = false := by simp
  go_enter Tryz.func61, Tryz.ntmps61
  go_wp2
  go_loopw [6, 7] (fun v i wr => ∃ k : Nat, i = .int .i64 k ∧ k ≤ n ∧ SOwn wr w.heap.size 33 3 v k (nxtC P S) ∧ Below w.heap.size w wr) (fun _ i _ => n - (intOf i).toNat)
  case atStart => exact ⟨0, rfl, by omega, SOwn.nil _ _ _ _ _, Below.refl _ _⟩
  case round =>
    obtain ⟨k, rfl, hk, hown, hbel⟩ := hrel
    have HO := Lib.hid hown
    have HB := Lib.hid hbel
    have hsz := hbel.size
    clear hown
    by_cases hlt : k < n
    · rcases H1.out with h0 | ⟨b1, o1, rfl, lb1, r1⟩
      · omega
      rcases H2.out with h0 | ⟨b2, o2, rfl, lb2, r2⟩
      · omega
      obtain ⟨x0, x1, x2⟩ := (r1.below hbel lb1).r3 hlt
      obtain ⟨y0, y1, y2⟩ := (r2.below hbel lb2).r3 hlt
      have g1 := F1.out k hlt
      have g2 := F2.out k hlt
      have HSb := Lib.hid (fun w => rsubtract_any (S k).n (S k).s (S k).d (P k).n (P k).s (P k).d w (by have := g2.1; have := g2.2; omega) (by have := g1.1; have := g1.2; omega))
      have hq : Sm 5000 (rq (S k).n (S k).s (S k).d - rq (P k).n (P k).s (P k).d) := ((sm_raw (S k).n (S k).s (S k).d).sub (sm_raw (P k).n (P k).s (P k).d)).mono (by have := g1.1; have := g1.2; have := g2.1; have := g2.2; omega)
      have hE : nxtC P S k = [.bool (rn (posR (rq (S k).n (S k).s (S k).d - rq (P k).n (P k).s (P k).d))), .string (rs (posR (rq (S k).n (S k).s (S k).d - rq (P k).n (P k).s (P k).d))), .string (rd (posR (rq (S k).n (S k).s (S k).d - rq (P k).n (P k).s (P k).d)))] := rfl
      generalize rq (S k).n (S k).s (S k).d - rq (P k).n (P k).s (P k).d = q at *
      have HMx := Lib.hid (fun w => rpositive_any q w)
      have HE := Lib.hid hE
      unfold rv at HSb
      clear g1 g2 hE hq r1 r2 H1 H2 F1 F2
      generalize posR q = r at *
      generalize rn q = q1 at *
      generalize rs q = q2 at *
      generalize rd q = q3 at *
      generalize rn r = p1 at *
      generalize rs r = p2 at *
      generalize rd r = p3 at *
      generalize (P k).n = u1 at *
      generalize (P k).s = u2 at *
      generalize (P k).d = u3 at *
      generalize (S k).n = v1 at *
      generalize (S k).s = v2 at *
      generalize (S k).d = v3 at *
      have i1 : (0 : Int) ≤ (k : Int) := by omega
      have i2 : (k : Int) < (n : Int) := by omega
      go_wp2
      have d0 := exc_cell (B := w.heap.size) x0 lb1
      have d1 := exc_cell (B := w.heap.size) x1 lb1
      have d2 := exc_cell (B := w.heap.size) x2 lb1
      have d3 := exc_cell (B := w.heap.size) y0 lb2
      have d4 := exc_cell (B := w.heap.size) y1 lb2
      have d5 := exc_cell (B := w.heap.size) y2 lb2
      refine wp_region_segs (Exc wr (fromB w.heap.size)) [([0, 1, 2, 3, 4, 5, 6, 7, 8], 9), ([], 10), ([], 11), ([], 12)] [13] (by kernel_rfl) (by kernel_rfl) (by kernel_rfl) (by kernel_rfl) (exc_below (Below.refl _ _).drew) ?_
      refine wpSegs_cons ?_
      simp only [getOps, gl9]
      repeat (first | go_big_quiet_skip | (refine wpQuiet_step (fun K hK => ?_); go_simp; (try simp (disch := omega) only [ar9]); (first | (refine hK _ ?_; clear hK K) | (simp (disch := omega) only [if_pos, dif_pos, if_neg, dif_neg, ar9]; go_simp; refine hK _ ?_; clear hK K))))
      refine wpQuiet_nil ?_
      go_step
      rename_i K9 hK9
      refine (HSb.out _).mono ?_
      rintro e w1 ⟨rfl, d9⟩
      have HB1 := Lib.hid (chain (Below.refl w.heap.size wr).drew d9 (by simpa using hsz))
      have HO1 := Lib.hid ((HO.out.below ((Below.refl wr.heap.size wr).drew) (Nat.le_refl _)).below d9 (Nat.le_refl _))
      have hz1 := HB1.out.size
      clear d9
      refine hK9 _ _ ?_
      clear hK9 K9
      refine segQ_normal (And.intro (exc_below HB1.out) ?_)
      refine wpSegs_cons ?_
      simp only [getOps, gl9]
      repeat (first | go_big_quiet_skip | (refine wpQuiet_step (fun K hK => ?_); go_simp; (try simp (disch := omega) only [ar9]); (first | (refine hK _ ?_; clear hK K) | (simp (disch := omega) only [if_pos, dif_pos, if_neg, dif_neg, ar9]; go_simp; refine hK _ ?_; clear hK K))))
      refine wpQuiet_nil ?_
      go_step
      rename_i K9 hK9
      refine (HMx.out _).mono ?_
      rintro e w2 ⟨rfl, d9⟩
      have HB2 := Lib.hid (chain HB1.out d9 (by omega))
      have HO2 := Lib.hid (HO1.out.below d9 (Nat.le_refl _))
      have hz2 := HB2.out.size
      clear d9
      refine hK9 _ _ ?_
      clear hK9 K9
      refine segQ_normal (And.intro (exc_below HB2.out) ?_)
      refine wpSegs_cons ?_
      simp only [getOps, gl9]
      repeat (first | go_big_quiet_skip | (refine wpQuiet_step (fun K hK => ?_); go_simp; (try simp (disch := omega) only [ar9]); (first | (refine hK _ ?_; clear hK K) | (simp (disch := omega) only [if_pos, dif_pos, if_neg, dif_neg, ar9]; go_simp; refine hK _ ?_; clear hK K))))
      refine wpQuiet_nil ?_
      go_step
      rename_i K9 hK9
      refine hK9 _ _ ?_
      clear hK9 K9
      refine segQ_normal (And.intro (exc_below (HB2.out.alloc (by omega) _)) ?_)
      refine wpSegs_cons ?_
      simp only [getOps, gl9]
      repeat (first | go_big_quiet_skip | (refine wpQuiet_step (fun K hK => ?_); go_simp; (try simp (disch := omega) only [ar9]); (first | (refine hK _ ?_; clear hK K) | (simp (disch := omega) only [if_pos, dif_pos, if_neg, dif_neg, ar9]; go_simp; refine hK _ ?_; clear hK K))))
      refine wpQuiet_nil ?_
      refine wpList_appendS _ _ 30 33 3 40 w.heap.size _ _ _ [.bool p1, .string p2, .string p3] (by rfl) (by rfl) Tryz.underlying30 ratInfo (by omega) (by rfl) (by rfl) (by simp [Value.oneCell']) (by rfl) HO2.out (by omega) (by omega) (by omega) ?_
      intro v' w3 ho3 hb3
      have HO3 := Lib.hid ho3
      have HB3 := Lib.hid (HB2.out.trans hb3)
      clear ho3 hb3
      refine segQ_normal (And.intro (exc_below HB3.out) ?_)
      refine wpSegs_nil ?_
      simp only [getOps, gl9]
      repeat (first | go_big_quiet_skip | (refine wpQuiet_step (fun K hK => ?_); go_simp; (try simp (disch := omega) only [ar9]); (first | (refine hK _ ?_; clear hK K) | (simp (disch := omega) only [if_pos, dif_pos, if_neg, dif_neg, ar9]; go_simp; refine hK _ ?_; clear hK K))))
      refine wpQuiet_nil ?_
      go_wp2
      go_roundw
      case rel =>
        refine ⟨k + 1, by go_num, by omega, HO3.out.congr fun j hj => ?_, HB.out.trans HB3.out⟩
        by_cases e : j < k
        · rw [if_pos e]
        · obtain rfl : j = k := by omega
          rw [if_neg e, ← HE.out]
      case measure => simp [intOf]; omega
    · obtain rfl : k = n := by omega
      have HR := Lib.hid (show RetN w k (nxtC P S) (.returned (.tuple #[u6, .int .i64 0])) wr from ⟨u6, rfl, HO.out, hbel⟩)
      have hnl : decide ((k : Int) < (k : Int)) = false := by simp
      go_wp2
      exact bodyPost_ret (v := .tuple #[u6, .int .i64 0]) (by simp [results, Tryz.results61, go_sem]) rfl HR.out

set_option maxRecDepth 100000 in
set_option maxHeartbeats 1600000 in
theorem samerats_any (a1 : Option Addr) (c1 : Nat) (a2 : Option Addr) (c2 n : Nat) (F : Nat → R3) (w : World) (h1 : SArg w a1 n 3 fun i => (F i).c) (h2 : SArg w a2 n 3 fun i => (F i).c) (hl : n ≤ 1000000) :
    Calls Tryz.prog 55 #[.slice a1 n c1, .slice a2 n c2] w fun e w' => e = .returned (.bool true) ∧ Below w.heap.size w w' := by
  have H1 := Lib.hid h1
  have H2 := Lib.hid h2
  clear h1 h2
  go_enter Tryz.func55, Tryz.ntmps55
  go_wp2
  go_loopw [5] (fun i wr => ∃ k : Nat, i = .int .i64 k ∧ k ≤ n ∧ Below w.heap.size w wr) (fun i _ => n - (intOf i).toNat)
  case atStart => exact ⟨0, rfl, by omega, Below.refl _ _⟩
  case round =>
    obtain ⟨k, rfl, hk, hbel⟩ := hrel
    have HB4 := Lib.hid hbel
    have hzr := hbel.size
    by_cases hlt : k < n
    · skip
      rcases H1.out with h0 | ⟨b1, o1, rfl, lb1, r1⟩
      · omega
      rcases H2.out with h0 | ⟨b2, o2, rfl, lb2, r2⟩
      · omega
      obtain ⟨x0, x1, x2⟩ := (r1.below hbel lb1).r3 hlt
      obtain ⟨y0, y1, y2⟩ := (r2.below hbel lb2).r3 hlt
      have m0 := cell_regrown x0
      have m1 := cell_regrown x1
      have m2 := cell_regrown x2
      have n0 := cell_regrown y0
      have n1 := cell_regrown y1
      have n2 := cell_regrown y2
      have i1 : (0 : Int) ≤ (k : Int) := by omega
      have i2 : (k : Int) < (n : Int) := by omega
      clear r1 r2 H1 H2 hbel x0 x1 x2 y0 y1 y2
      generalize (F k).n = u1 at *
      generalize (F k).s = u2 at *
      generalize (F k).d = u3 at *
      go_wp2
      refine wp_region_qb (by kernel_rfl) (by kernel_rfl) ?_
      repeat (first | go_big_quiet_skip | (refine wpQuiet_step (fun K hK => ?_); go_simp; (try simp (disch := omega) only [ar9]); (first | (refine hK _ ?_; clear hK K) | (apply Exists.intro; refine ⟨fun _ => ?_, hK _ ?_⟩; (fail); clear hK K))))
      clear m1 m2 m0 n0 n1 n2
      refine wpQuiet_nil ?_
      intro W1 hb1
      have HB := Lib.hid (chain HB4.out hb1 (Nat.le_refl _))
      clear hb1
      go_wp2
      go_roundw
      case rel => exact ⟨k + 1, by go_num, by omega, HB.out⟩
      case measure => simp [intOf]; omega
    · obtain rfl : k = n := by omega
      have hnl : decide ((k : Int) < (k : Int)) = false := by simp
      go_wp2
      go_ret
      exact ⟨rfl, HB4.out⟩
end Go.Proofs.Ins
