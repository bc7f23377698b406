/- The walks of insolvencylaw0.Voters, Amounts and insolvencylaw31.values. -/
import Derived.Test.YtobbllakdjampaaGreatDoorL2
import Derived.Test.YtobbllakdjampaaGreatDoorSeg
set_option linter.unusedSimpArgs false
set_option linter.unusedVariables false
namespace Go.Proofs.Ins
open Go.RowKit

/-- A slice of structs, handed back. -/
def RetS (w : World) (n sz : Nat) (F : Nat → List Value) (e : Ending) (w' : World) : Prop :=
  ∃ a cap, e = .returned (.slice a n cap) ∧ n ≤ cap ∧ cap ≤ 9223372036854775807 ∧ SArg w' a n sz F ∧ Below w.heap.size w w'

theorem ratInfo : (Tryz.prog.info? 30).map (fun i => (i.zero.map (fun z => z.cells.size), i.size, i.bytes)) = some (some 3, 3, 40) := by kernel_rfl

theorem voterInfo : (Tryz.prog.info? 53).map (fun i => (i.zero.map (fun z => z.cells.size), i.size, i.bytes)) = some (some 8, 8, 96) := by kernel_rfl

/-- A voter that Voters builds. -/
def votV (L : Nat → Nat → Nat) (i : Nat) : V8 := ⟨((L i 0 % 5 : Nat) : Int), ofQ (amt (L i 1)), ofQ ((((L i 2 % 14 : Nat) : Int) : Rat) / ((12 : Int) : Rat)), decide (L i 3 % 6 = 0)⟩
def u16c (L : Nat → Nat → Nat) (i : Nat) : List Value := [.int .u16 (L i 0 : Int), .int .u16 (L i 1 : Int), .int .u16 (L i 2 : Int), .int .u16 (L i 3 : Int)]

theorem row4 {w w' : World} {b off n k B : Nat} {L : Nat → Nat → Nat} (h : SReads w b off 4 n (u16c L)) (hk : k < n) (hb : Below B w w') (hB : b < B) :
    w'.cell? ⟨b, off + k * 4, none⟩ = some (.int .u16 (L k 0 : Int)) ∧ w'.cell? ⟨b, off + k * 4 + 1, none⟩ = some (.int .u16 (L k 1 : Int)) ∧ w'.cell? ⟨b, off + k * 4 + 2, none⟩ = some (.int .u16 (L k 2 : Int)) ∧ w'.cell? ⟨b, off + k * 4 + 3, none⟩ = some (.int .u16 (L k 3 : Int)) :=
  ⟨(h.below hb hB) k 0 hk (by omega), (h.below hb hB) k 1 hk (by omega), (h.below hb hB) k 2 hk (by omega), (h.below hb hB) k 3 hk (by omega)⟩

set_option maxRecDepth 100000 in
set_option maxHeartbeats 1600000 in
theorem voters_any (a : Option Addr) (n cap : Nat) (L : Nat → Nat → Nat) (w : World) (hA : SArg w a n 4 (u16c L)) (hL : ∀ i j, i < n → L i j ≤ 65535) (hn : n ≤ 140737488351232) :
    Calls Tryz.prog 10 #[.slice a n cap] w (RetS w (min n 7) 8 fun i => (votV L i).c) := by
  have HL := Lib.hid hL
  have HA := Lib.hid hA
  clear hL hA
  go_enter Tryz.func10, Tryz.ntmps10
  go_wp2
  go_loopw [3, 4] (fun v i wr => ∃ k : Nat, i = .int .i64 k ∧ k ≤ n ∧ k ≤ 7 ∧ SOwn wr w.heap.size 53 8 v k (fun j => (votV L j).c) ∧ Below w.heap.size w wr) (fun _ i _ => n - (intOf i).toNat)
  case atStart => exact ⟨0, rfl, by omega, by omega, SOwn.nil _ _ _ _ _, Below.refl _ _⟩
  case round =>
    obtain ⟨k, rfl, hk, hk7, hown, hbel⟩ := hrel
    have HO := Lib.hid hown
    have HB := Lib.hid hbel
    have hsz := hbel.size
    clear hown
    by_cases hlt : k < n
    · by_cases hlt7 : k < 7
      · skip
        rcases HA.out with h0 | ⟨b, off, rfl, hb, hr⟩
        · omega
        have hr2 := hr.below hbel hb
        have c0 : wr.cell? ⟨b, off + k * 4, none⟩ = some (.int .u16 (L k 0 : Int)) := hr2 k 0 hlt (by omega)
        have c1 : wr.cell? ⟨b, off + k * 4 + 1, none⟩ = some (.int .u16 (L k 1 : Int)) := hr2 k 1 hlt (by omega)
        have c2 : wr.cell? ⟨b, off + k * 4 + 2, none⟩ = some (.int .u16 (L k 2 : Int)) := hr2 k 2 hlt (by omega)
        have c3 : wr.cell? ⟨b, off + k * 4 + 3, none⟩ = some (.int .u16 (L k 3 : Int)) := hr2 k 3 hlt (by omega)
        have hrow : ∀ w', Below w.heap.size wr w' → w'.cell? ⟨b, off + k * 4, none⟩ = some (.int .u16 (L k 0 : Int)) ∧ w'.cell? ⟨b, off + k * 4 + 1, none⟩ = some (.int .u16 (L k 1 : Int)) ∧ w'.cell? ⟨b, off + k * 4 + 2, none⟩ = some (.int .u16 (L k 2 : Int)) ∧ w'.cell? ⟨b, off + k * 4 + 3, none⟩ = some (.int .u16 (L k 3 : Int)) := fun w' h => row4 hr2 hlt h hb
        have HROW := Lib.hid hrow
        have l0 := HL.out k 0 hlt
        have l1 := HL.out k 1 hlt
        have l2 := HL.out k 2 hlt
        have l3 := HL.out k 3 hlt
        have HAm := Lib.hid (fun w => amount_any (L k 1) w l1)
        have hRt := fun w => ratio_any ((L k 2 % 14 : Nat) : Int) 12 w (by omega) (by omega) (by omega) (by omega)
        rw [show ((L k 2 % 14 : Nat) : Int) = (L k 2 : Int) % 14 by omega] at hRt
        have hV : votV L k = ⟨(L k 0 : Int) % 5, ofQ (amt (L k 1)), ofQ ((((L k 2 : Int) % 14 : Int) : Rat) / ((12 : Int) : Rat)), ((L k 3 : Int) % 6 == 0)⟩ := by
          unfold votV
          have e1 : ((L k 0 % 5 : Nat) : Int) = (L k 0 : Int) % 5 := by omega
          have e2 : ((L k 2 % 14 : Nat) : Int) = (L k 2 : Int) % 14 := by omega
          have e3 : decide (L k 3 % 6 = 0) = ((L k 3 : Int) % 6 == 0) := by
            rw [Bool.eq_iff_iff]; simp; omega
          rw [e1, e2, e3]
        have HRt := Lib.hid hRt
        have HV := Lib.hid hV
        generalize hA1 : amt (L k 1) = A1 at *
        generalize hA2 : (((L k 2 : Int) % 14 : Int) : Rat) / ((12 : Int) : Rat) = A2 at *
        generalize L k 0 = x0 at *
        generalize L k 1 = x1 at *
        generalize L k 2 = x2 at *
        generalize L k 3 = x3 at *
        have hE : (votV L k).c = [.int .i64 ((x0 : Int) % 5), .bool (rn A1), .string (rs A1), .string (rd A1), .bool (rn A2), .string (rs A2), .string (rd A2), .bool ((x3 : Int) % 6 == 0)] := by rw [HV.out]; rfl
        have HE := Lib.hid hE
        generalize rn A1 = p1 at *
        generalize rs A1 = p2 at *
        generalize rd A1 = p3 at *
        generalize rn A2 = q1 at *
        generalize rs A2 = q2 at *
        generalize rd A2 = q3 at *
        have i1 : (0 : Int) ≤ (k : Int) := by omega
        have i2 : (k : Int) < (n : Int) := by omega
        have y0 : (x0 : Int) ≤ 65535 := by omega
        have y2 : (x2 : Int) ≤ 65535 := by omega
        have y3 : (x3 : Int) ≤ 65535 := by omega
        clear hr hr2 hRt hV hE HA HL HV hA1 hA2 hrow
        go_wp2
        have d0 := exc_cell (B := w.heap.size) c0 hb
        have d1 := exc_cell (B := w.heap.size) c1 hb
        have d2 := exc_cell (B := w.heap.size) c2 hb
        have d3 := exc_cell (B := w.heap.size) c3 hb
        refine wp_region_segs (Exc wr (fromB w.heap.size)) [([0, 1, 2, 3, 4, 5, 6, 7, 8, 9, 10, 11, 12, 14, 15, 16, 17, 18, 19, 20, 22, 23, 24, 25, 26, 27, 28], 13), ([], 21), ([29], 30), ([], 31)] [32] (by kernel_rfl) (by kernel_rfl) (by kernel_rfl) (by kernel_rfl) (exc_below (Below.refl _ _).drew) ?_
        refine wpSegs_cons ?_
        simp only [getOps, List.filterMap_cons, List.filterMap_nil, List.getElem?_cons_zero, List.getElem?_cons_succ]
        repeat (first | go_big_quiet_skip | (refine wpQuiet_step (fun K hK => ?_); go_simp; (try simp (disch := omega) only [IntWalk.i64_in, IntWalk.u64_in, IntWalk.u32_in, IntWalk.u16_in, IntWalk.u8_in, Int.tmod_eq_emod_of_nonneg, Int.tdiv_eq_ediv_of_nonneg]); (first | (refine hK _ ?_; clear hK K) | (simp (disch := omega) only [if_pos, dif_pos, if_neg, dif_neg, IntWalk.i64_in, IntWalk.u64_in, IntWalk.u32_in, IntWalk.u16_in, IntWalk.u8_in, Int.tmod_eq_emod_of_nonneg, Int.tdiv_eq_ediv_of_nonneg]; go_simp; refine hK _ ?_; clear hK K))))
        refine wpQuiet_nil ?_
        go_step
        rename_i K9 hK9
        refine (HAm.out _).mono ?_
        rintro e w1 ⟨rfl, d4⟩
        have HB1 := Lib.hid (chain (Below.refl w.heap.size wr).drew d4 (by simpa using hsz))
        have HO1 := Lib.hid ((HO.out.below ((Below.refl wr.heap.size wr).drew) (Nat.le_refl _)).below d4 (Nat.le_refl _))
        have hz1 := HB1.out.size
        clear d4
        refine hK9 _ _ ?_
        clear hK9 K9
        refine segQ_normal (And.intro (exc_below HB1.out) ?_)
        refine wpSegs_cons ?_
        simp only [getOps, List.filterMap_cons, List.filterMap_nil, List.getElem?_cons_zero, List.getElem?_cons_succ]
        repeat (first | go_big_quiet_skip | (refine wpQuiet_step (fun K hK => ?_); go_simp; (try simp (disch := omega) only [IntWalk.i64_in, IntWalk.u64_in, IntWalk.u32_in, IntWalk.u16_in, IntWalk.u8_in, Int.tmod_eq_emod_of_nonneg, Int.tdiv_eq_ediv_of_nonneg]); (first | (refine hK _ ?_; clear hK K) | (simp (disch := omega) only [if_pos, dif_pos, if_neg, dif_neg, IntWalk.i64_in, IntWalk.u64_in, IntWalk.u32_in, IntWalk.u16_in, IntWalk.u8_in, Int.tmod_eq_emod_of_nonneg, Int.tdiv_eq_ediv_of_nonneg]; go_simp; refine hK _ ?_; clear hK K))))
        refine wpQuiet_nil ?_
        go_step
        rename_i K9 hK9
        refine (HRt.out _).mono ?_
        rintro e w2 ⟨rfl, d4⟩
        have HB2 := Lib.hid (chain HB1.out d4 (by omega))
        have HO2 := Lib.hid (HO1.out.below d4 (Nat.le_refl _))
        have hz2 := HB2.out.size
        clear d4
        refine hK9 _ _ ?_
        clear hK9 K9
        refine segQ_normal (And.intro (exc_below HB2.out) ?_)
        refine wpSegs_cons ?_
        simp only [getOps, List.filterMap_cons, List.filterMap_nil, List.getElem?_cons_zero, List.getElem?_cons_succ]
        repeat (first | go_big_quiet_skip | (refine wpQuiet_step (fun K hK => ?_); go_simp; (try simp (disch := omega) only [IntWalk.i64_in, IntWalk.u64_in, IntWalk.u32_in, IntWalk.u16_in, IntWalk.u8_in, Int.tmod_eq_emod_of_nonneg, Int.tdiv_eq_ediv_of_nonneg]); (first | (refine hK _ ?_; clear hK K) | (simp (disch := omega) only [if_pos, dif_pos, if_neg, dif_neg, IntWalk.i64_in, IntWalk.u64_in, IntWalk.u32_in, IntWalk.u16_in, IntWalk.u8_in, Int.tmod_eq_emod_of_nonneg, Int.tdiv_eq_ediv_of_nonneg]; go_simp; refine hK _ ?_; clear hK K))))
        refine wpQuiet_nil ?_
        go_step
        rename_i K9 hK9
        refine hK9 _ _ ?_
        clear hK9 K9
        refine segQ_normal (And.intro (exc_below (HB2.out.alloc (by omega) _)) ?_)
        refine wpSegs_cons ?_
        simp only [getOps, List.filterMap_cons, List.filterMap_nil, List.getElem?_cons_zero, List.getElem?_cons_succ]
        repeat (first | go_big_quiet_skip | (refine wpQuiet_step (fun K hK => ?_); go_simp; (try simp (disch := omega) only [IntWalk.i64_in, IntWalk.u64_in, IntWalk.u32_in, IntWalk.u16_in, IntWalk.u8_in, Int.tmod_eq_emod_of_nonneg, Int.tdiv_eq_ediv_of_nonneg]); (first | (refine hK _ ?_; clear hK K) | (simp (disch := omega) only [if_pos, dif_pos, if_neg, dif_neg, IntWalk.i64_in, IntWalk.u64_in, IntWalk.u32_in, IntWalk.u16_in, IntWalk.u8_in, Int.tmod_eq_emod_of_nonneg, Int.tdiv_eq_ediv_of_nonneg]; go_simp; refine hK _ ?_; clear hK K))))
        refine wpQuiet_nil ?_
        refine wpList_appendS _ _ 24 53 8 96 w.heap.size _ _ _ [.int .i64 ((x0 : Int) % 5), .bool p1, .string p2, .string p3, .bool q1, .string q2, .string q3, .bool ((x3 : Int) % 6 == 0)] (by rfl) (by rfl) Tryz.underlying24 voterInfo (by omega) (by rfl) (by rfl) (by simp [Value.oneCell']) (by rfl) HO2.out (by omega) (by omega) (by omega) ?_
        intro v' w3 ho3 hb3
        have HO3 := Lib.hid ho3
        have HB3 := Lib.hid (HB2.out.trans hb3)
        clear ho3 hb3
        refine segQ_normal (And.intro (exc_below HB3.out) ?_)
        refine wpSegs_nil ?_
        simp only [getOps, List.filterMap_cons, List.filterMap_nil, List.getElem?_cons_zero, List.getElem?_cons_succ]
        repeat (first | go_big_quiet_skip | (refine wpQuiet_step (fun K hK => ?_); go_simp; (try simp (disch := omega) only [IntWalk.i64_in, IntWalk.u64_in, IntWalk.u32_in, IntWalk.u16_in, IntWalk.u8_in, Int.tmod_eq_emod_of_nonneg, Int.tdiv_eq_ediv_of_nonneg]); (first | (refine hK _ ?_; clear hK K) | (simp (disch := omega) only [if_pos, dif_pos, if_neg, dif_neg, IntWalk.i64_in, IntWalk.u64_in, IntWalk.u32_in, IntWalk.u16_in, IntWalk.u8_in, Int.tmod_eq_emod_of_nonneg, Int.tdiv_eq_ediv_of_nonneg]; go_simp; refine hK _ ?_; clear hK K))))
        refine wpQuiet_nil ?_
        go_wp2
        go_roundw
        case rel =>
          refine ⟨k + 1, by go_num, by omega, by omega, HO3.out.congr fun j hj => ?_, HB.out.trans HB3.out⟩
          by_cases e : j < k
          · rw [if_pos e]
          · obtain rfl : j = k := by omega
            rw [if_neg e, ← HE.out]
        case measure => simp [intOf]; omega
      · as_aux_lemma =>
        have hk8 : k = 7 := by omega
        obtain ⟨a', cap', rfl, e1, e2, e3⟩ := HO.out.arg
        have HR := Lib.hid (show RetS w (min n 7) 8 (fun i => (votV L i).c) (.returned (.slice a' k cap')) wr from ⟨a', cap', by rw [show min n 7 = k by omega], by omega, e2, by rw [show min n 7 = k by omega]; exact e3, hbel⟩)
        rw [hk8] at HR
        clear e1 e2 e3
        go_wp2
        go_ret
        exact HR.out
    · as_aux_lemma =>
      have hk8 : k = n := by omega
      obtain ⟨a', cap', rfl, e1, e2, e3⟩ := HO.out.arg
      have HR := Lib.hid (show RetS w (min n 7) 8 (fun i => (votV L i).c) (.returned (.slice a' k cap')) wr from ⟨a', cap', by rw [show min n 7 = k by omega], by omega, e2, by rw [show min n 7 = k by omega]; exact e3, hbel⟩)
      have hnl : decide ((k : Int) < (n : Int)) = false := by simp; omega
      clear e1 e2 e3 hk8
      go_wp2
      go_ret
      exact HR.out

/-- A slice of the call's own, handed back. -/
def RetO (w : World) (T : TypeId) (n sz : Nat) (F : Nat → List Value) (e : Ending) (w' : World) : Prop :=
  ∃ v, e = .returned v ∧ SOwn w' w.heap.size T sz v n F ∧ Below w.heap.size w w'
def c16 (L : Nat → Nat) (i : Nat) : List Value := [.int .u16 (L i : Int)]

set_option maxRecDepth 100000 in
set_option maxHeartbeats 1600000 in
theorem amounts_any (a : Option Addr) (n cap m : Nat) (L : Nat → Nat) (w : World) (hA : SArg w a n 1 (c16 L)) (hL : ∀ i, i < n → L i ≤ 65535) (hn : n ≤ 140737488351232) (hm : m ≤ 1000000) :
    Calls Tryz.prog 33 #[.slice a n cap, .int .i64 (m : Int)] w (RetO w 30 (min n m) 3 fun i => (ofQ (amt (L i))).c) := by
  have HL := Lib.hid hL
  have HA := Lib.hid hA
  clear hL hA
  go_enter Tryz.func33, Tryz.ntmps33
  go_wp2
  go_loopw [5, 6] (fun v i wr => ∃ k : Nat, i = .int .i64 k ∧ k ≤ n ∧ k ≤ m ∧ SOwn wr w.heap.size 30 3 v k (fun j => (ofQ (amt (L j))).c) ∧ Below w.heap.size w wr) (fun _ i _ => n - (intOf i).toNat)
  case atStart => exact ⟨0, rfl, by omega, by omega, SOwn.nil _ _ _ _ _, Below.refl _ _⟩
  case round =>
    obtain ⟨k, rfl, hk, hk7, hown, hbel⟩ := hrel
    have HO := Lib.hid hown
    have HB := Lib.hid hbel
    have hsz := hbel.size
    clear hown
    by_cases hlt : k < n
    · by_cases hlt7 : k < m
      · skip
        rcases HA.out with h0 | ⟨b, off, rfl, hb, hr⟩
        · omega
        have c0 : wr.cell? ⟨b, off + k, none⟩ = some (.int .u16 (L k : Int)) := by
          have := (hr.below hbel hb) k 0 hlt (by omega)
          rw [Nat.mul_one, Nat.add_zero] at this; exact this
        have l0 := HL.out k hlt
        have HAm := Lib.hid (fun w => amount_any (L k) w l0)
        have hE : (ofQ (amt (L k))).c = [.bool (rn (amt (L k))), .string (rs (amt (L k))), .string (rd (amt (L k)))] := rfl
        have HE := Lib.hid hE
        generalize hx0 : L k = x0 at *
        generalize rn (amt x0) = p1 at *
        generalize rs (amt x0) = p2 at *
        generalize rd (amt x0) = p3 at *
        have i1 : (0 : Int) ≤ (k : Int) := by omega
        have i2 : (k : Int) < (n : Int) := by omega
        clear hr hE HA HL
        go_wp2_with fail
        refine (HAm.out _).mono ?_
        rintro e w1 ⟨rfl, d4⟩
        have HB1 := Lib.hid (chain (Below.refl w.heap.size wr) d4 hsz)
        have HO1 := Lib.hid (HO.out.below d4 (Nat.le_refl _))
        have hz1 := HB1.out.size
        clear d4
        go_wp2_with (refine wpList_appendS _ _ 25 30 3 40 w.heap.size _ _ _ [.bool p1, .string p2, .string p3] (by rfl) (by rfl) Tryz.underlying25 ratInfo (by omega) (by rfl) (by rfl) (by simp [Value.oneCell']) (by rfl) HO1.out (by omega) (by omega) (by omega) ?_; intro v' w3 ho3 hb3; have HO3 := Lib.hid ho3; have HB3 := Lib.hid (HB1.out.trans hb3); clear ho3 hb3)
        go_roundw
        case rel =>
          refine ⟨k + 1, by go_num, by omega, by omega, HO3.out.congr fun j hj => ?_, HB.out.trans HB3.out⟩
          by_cases e : j < k
          · rw [if_pos e]
          · obtain rfl : j = k := by omega
            rw [if_neg e, ← HE.out]
            show _ = (ofQ (amt (L j))).c
            rw [hx0]
        case measure => simp [intOf]; omega
      · as_aux_lemma =>
        have hk8 : k = m := by omega
        have hE : RetO w 30 (min n m) 3 (fun i => (ofQ (amt (L i))).c) (.returned u5) wr := ⟨u5, rfl, by rw [show min n m = k by omega]; exact HO.out, hbel⟩
        have HR := Lib.hid hE
        have hnl : decide ((k : Int) < (m : Int)) = false := by simp; omega
        clear hk8 hE
        go_wp2
        go_ret
        exact HR.out
    · as_aux_lemma =>
      have hk8 : k = n := by omega
      have hE : RetO w 30 (min n m) 3 (fun i => (ofQ (amt (L i))).c) (.returned u5) wr := ⟨u5, rfl, by rw [show min n m = k by omega]; exact HO.out, hbel⟩
      have HR := Lib.hid hE
      have hnl : decide ((k : Int) < (n : Int)) = false := by simp; omega
      clear hk8 hE
      go_wp2
      go_ret
      exact HR.out

/-- The number that values gives at i. -/
def valR (L : Nat → Nat) (n i : Nat) : R3 := if i < n then ofQ (amt (L i)) else default
def lenOf : Value → Nat
  | .slice _ n _ => n
  | _ => 0

set_option maxRecDepth 100000 in
set_option maxHeartbeats 1600000 in
theorem values_any (a : Option Addr) (n cap m : Nat) (L : Nat → Nat) (w : World) (hA : SArg w a n 1 (c16 L)) (hL : ∀ i, i < n → L i ≤ 65535) (hn : n ≤ 140737488351232) (hm : m ≤ 1000000) :
    Calls Tryz.prog 12 #[.slice a n cap, .int .i64 (m : Int)] w (RetO w 30 m 3 fun i => (valR L n i).c) := by
  have HC := Lib.hid (amounts_any a n cap m L w hA hL hn hm)
  have hF : ∀ i, i < min n m → (ofQ (amt (L i))).c = (valR L n i).c := fun i hi => by unfold valR; rw [if_pos (by omega)]
  have HF := Lib.hid hF
  have hD : ∀ i, min n m ≤ i → i < m → (valR L n i).c = [.bool false, .string ⟨#[]⟩, .string ⟨#[]⟩] := fun i h1 h2 => by unfold valR; rw [if_neg (by omega)]; rfl
  have HD := Lib.hid hD
  clear hA hL hF hD
  go_enter Tryz.func12, Tryz.ntmps12
  go_wp2_with fail
  refine HC.out.mono ?_
  rintro e w1 ⟨v0, rfl, ho1, hb1⟩
  have HO1 := Lib.hid (ho1.congr HF.out)
  have HB1 := Lib.hid hb1
  clear ho1 hb1 HC HF
  go_wp2_with fail
  go_loopw [5] (fun v wr => ∃ k : Nat, min n m ≤ k ∧ k ≤ m ∧ SOwn wr w.heap.size 30 3 v k (fun i => (valR L n i).c) ∧ Below w.heap.size w wr) (fun v _ => m - lenOf v)
  case atStart => exact ⟨min n m, by omega, by omega, HO1.out, HB1.out⟩
  case round =>
    obtain ⟨k, hk, hkm, hown, hbel⟩ := hrel
    have HO := Lib.hid hown
    have HB := Lib.hid hbel
    have hsz := hbel.size
    obtain ⟨a', cap', rfl, e1, e2, -⟩ := hown.arg
    clear hown
    by_cases hlt : k < m
    · skip
      have HE := Lib.hid (HD.out k hk hlt)
      clear HO1 HB1
      go_wp2_with (refine wpList_appendS _ _ 25 30 3 40 w.heap.size _ _ _ [.bool false, .string ⟨#[]⟩, .string ⟨#[]⟩] (by rfl) (by rfl) Tryz.underlying25 ratInfo (by omega) (by rfl) (by rfl) (by simp [Value.oneCell']) (by rfl) HO.out (by omega) (by omega) (by omega) ?_; intro v' w3 ho3 hb3; have HO3 := Lib.hid ho3; have HB3 := Lib.hid hb3; clear ho3 hb3)
      go_roundw
      case rel =>
        refine ⟨k + 1, by omega, by omega, HO3.out.congr fun j hj => ?_, HB.out.trans HB3.out⟩
        by_cases e : j < k
        · rw [if_pos e]
        · obtain rfl : j = k := by omega
          rw [if_neg e, ← HE.out]
      case measure =>
        obtain ⟨a2, cap2, h2, -⟩ := HO3.out.arg
        subst h2
        simp [lenOf]; omega
    · as_aux_lemma =>
      have hk8 : k = m := by omega
      have hE : RetO w 30 m 3 (fun i => (valR L n i).c) (.returned (.slice a' k cap')) wr := ⟨.slice a' k cap', rfl, by rw [hk8]; rw [hk8] at HO; exact HO.out, hbel⟩
      have HR := Lib.hid hE
      have hnl : decide ((k : Int) < (m : Int)) = false := by simp; omega
      clear hk8 hE
      go_wp2
      go_ret
      exact HR.out
end Go.Proofs.Ins
