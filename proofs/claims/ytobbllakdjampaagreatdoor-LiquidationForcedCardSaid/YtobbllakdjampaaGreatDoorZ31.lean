/- The walk of insolvencylaw0.agree. -/
import Derived.Test.YtobbllakdjampaaGreatDoorZ1
import Derived.Test.YtobbllakdjampaaGreatDoorZ30
import Derived.Test.YtobbllakdjampaaGreatDoorZ16

set_option linter.unusedSimpArgs false
set_option linter.unusedVariables false
namespace Go.Proofs.Ins
open Go.RowKit

/-- Agreements handed back: the old ones, and one more of three tiers. -/
def RetAgs (w : World) (p : Nat → Prop) (l : List Agr) (nc : Nat) : Ending → World → Prop := fun x w' => ∃ v t, x = .returned v ∧ RAgrs w' (fun b => p b ∨ Fr w.heap.size w' b) v (l ++ [t]) ∧ t.length = 3 ∧
  (∀ i, i < 3 → (ix t i).length ≤ nc + 1 ∧ ∀ j, j < (ix t i).length → (ix (ix t i) j).a.fits 1000) ∧ Below w.heap.size w w'

theorem i64_wraps (n : Int) (h₀ : 0 ≤ n) (h₁ : n < 2 ^ 63) : IntKind.i64.wrap n = n := by rw [IntKind.wrap_i64]; omega
theorem and_i64 (a b : Nat) (ha : a < 2 ^ 63) (hb : b < 2 ^ 63) : bits .and .i64 (a : Int) (b : Int) = ((a &&& b : Nat) : Int) := (bits_nat .i64 63 (by decide) i64_wraps a b ha hb).1
theorem and3_i64 {q s : Nat} (h : q ≤ 65535) : ∃ X : Nat, X ≤ 3 ∧ bits .and .i64 ((q : Int) / 2 ^ s) 3 = (X : Int) := by
  refine ⟨(q / 2 ^ s) &&& 3, Nat.and_le_right, ?_⟩
  rw [u64_shr]
  exact and_i64 _ 3 (Nat.lt_of_le_of_lt (Nat.div_le_self _ _) (by omega)) (by omega)
theorem and1_i64 {q s : Nat} (h : q ≤ 65535) : ∃ X : Nat, X ≤ 1 ∧ bits .and .i64 ((q : Int) / 2 ^ s) 1 = (X : Int) := by
  refine ⟨(q / 2 ^ s) &&& 1, Nat.and_le_right, ?_⟩
  rw [u64_shr]
  exact and_i64 _ 1 (Nat.lt_of_le_of_lt (Nat.div_le_self _ _) (by omega)) (by omega)
theorem sm_whole {i : Int} (h1 : 0 ≤ i) (h2 : i ≤ 65535) : Sm 1000 (i : Rat) := by
  refine Sm.mono (k := 4) ?_ (by omega)
  obtain ⟨n, rfl⟩ := Int.eq_ofNat_of_zero_le h1
  refine ⟨?_, ?_⟩
  · show ((n : Int) : Rat).num.natAbs < 256 ^ 4
    simp; omega
  · show ((n : Int) : Rat).den < 256 ^ 4
    simp
theorem SOwn.slF {w : World} {B : Nat} {T : TypeId} {sz n : Nat} {v : Value} {F : Nat → List Value} (h : SOwn w B T sz v n F) : Sl w (Fr B w) sz v n F := by
  rcases h.form with ⟨rfl, rfl⟩ | ⟨g, cap, rfl, h1, h2, h3, h4, h5⟩
  · exact Sl.nil _ _ _ _
  · exact ⟨_, cap, rfl, h2, h3, .inr ⟨g, 0, rfl, ⟨h1, h4⟩, h4, h5⟩, h.2⟩
/-- The old agreements, and one more. -/
theorem agrs_more {w w2 : World} {p : Nat → Prop} {al : List Agr} {B B2 tb : Nat} {T T2 : TypeId} {X : Nat → Prop} {v2 : Value} {F2 GA : Nat → List Value} {tv : Nat → Value} {tl : Nat → List Prt}
    (hw : Below w.heap.size w w2) (ho : SOwn w2 B2 T2 1 v2 (al.length + 1) F2) (hB2 : w.heap.size ≤ B2) (hF : ∀ j, j < al.length → F2 j = GA j) (hF9 : F2 al.length = [.slice (some ⟨tb, 0, none⟩) 3 3])
    (hQ : ∀ i, i < al.length → QAgr w p (GA i) (ix al i)) (hot : Own w2 tb 1 3 (fun i => [tv i])) (hfam : Fam Prt.c w2 B T 5 3 X tv tl) (hB : w.heap.size ≤ B) (htb : w.heap.size ≤ tb) :
    RAgrs w2 (fun b => p b ∨ Fr w.heap.size w2 b) v2 (al ++ [[tl 0, tl 1, tl 2]]) := by
  refine ⟨F2, ?_, fun i hi => ?_⟩
  · rw [List.length_append, List.length_singleton]
    exact ho.slF.mono fun b hb => .inr ⟨Nat.le_trans hB2 hb.1, hb.2⟩
  · rw [List.length_append, List.length_singleton] at hi
    rw [ix_append]
    by_cases h : i < al.length
    · rw [if_pos h, hF i h]
      exact (hQ i h).keep (.of_below hw) fun b hb => .inl hb
    · obtain rfl : i = al.length := by omega
      rw [if_neg h, if_pos rfl, hF9]
      refine ⟨_, rfl, fun i => [tv i], ?_, fun j hj => ?_⟩
      · exact (hot.sl (by omega) fun i hi => rfl).mono fun b hb => .inr ⟨by omega, by have := hot.lt; omega⟩
      · have hj3 : j < 3 := hj
        have e : ix [tl 0, tl 1, tl 2] j = tl j := by rcases (show j = 0 ∨ j = 1 ∨ j = 2 by omega) with rfl | rfl | rfl <;> rfl
        rw [e]
        refine ⟨_, rfl, ?_⟩
        exact RParts.keep (w := w2) (p := fun b => B ≤ b ∧ (tv j).ownBlock = some b) (hfam.rl hj3) ⟨fun _ _ _ => rfl⟩ fun b hb => .inr ⟨Nat.le_trans hB hb.1, (hfam.lt hj3 hb.2).2⟩

set_option maxRecDepth 100000 in
set_option maxHeartbeats 3200000 in
theorem agree_any (p : Nat → Prop) (e : Est) (cv av : Value) (q0 q1 q2 : Nat) (w : World) (hC : RClaims w p cv e.c) (hA : RAgrs w p av e.a) (hc : e.c.length ≤ 24) (ha : e.a.length ≤ 24)
    (lt : ∀ i, i < e.a.length → (ix e.a i).length ≤ 140737488351232) (lp : ∀ i j, i < e.a.length → j < (ix e.a i).length → (ix (ix e.a i) j).length ≤ 140737488351232) (h0 : q0 ≤ 65535) (h1 : q1 ≤ 65535) (h2 : q2 ≤ 65535) :
    Calls Tryz.prog 49 #[e.v cv av, .agg #[.int .u16 (q0 : Int), .int .u16 (q1 : Int), .int .u16 (q2 : Int)]] w (RetAgs w p e.a e.c.length) := by
  obtain ⟨a1, c1, rfl, -, -⟩ := hC.plain.form
  have HFR := Lib.hid (fun c W (h : Below w.heap.size w W) => free_any p (.bool e.m.n) (.string e.m.s) (.string e.m.d) (.slice a1 e.c.length c1) av e.a c W (hA.on h) (by omega) lt lp)
  have HAG := Lib.hid hA
  obtain ⟨aa, na, ca, rfl⟩ : ∃ a n c, av = .slice a n c := by obtain ⟨G, hS, -⟩ := hA; obtain ⟨x, y, h, -, -⟩ := hS.form; exact ⟨x, _, y, h⟩
  unfold Est.v
  clear hC hA lt lp
  obtain ⟨⟨mn, ms, md⟩, cl, al⟩ := e
  dsimp only at *
  generalize hnc : cl.length = nc at *
  have hmk : ∀ w, (Instr.makeSlice 108 (.int .i64 3) (.int .i64 3)).run Tryz.prog w = .ok (.slice (some ⟨w.heap.size, 0, none⟩) 3 3) (w.alloc (.cells #[.slice none 0 0, .slice none 0 0, .slice none 0 0] 113)) := fun _ => by kernel_rfl
  go_enter Tryz.func49, Tryz.ntmps49
  go_wp2_with fail
  refine wp_forget (fun W => ∃ tb, tb = w.heap.size + 1 + 1 ∧ Blk W w.heap.size #[.bool mn, .string ms, .string md, .slice a1 nc c1, .slice aa na ca] ∧ Blk W (w.heap.size + 1) #[.int .u16 (q0 : Int), .int .u16 (q1 : Int), .int .u16 (q2 : Int)] ∧ Blk W tb #[.slice none 0 0, .slice none 0 0, .slice none 0 0] ∧ Below w.heap.size w W) ⟨_, rfl, three_boxes w _ _ _ _ _ _⟩ ?_
  rintro W ⟨tb, htb, K0, K1, K2, hbw⟩
  rw [← htb]
  have hot : Own W tb 1 3 (fun _ => [.slice none 0 0]) := by
    obtain ⟨T, hT⟩ := K2
    refine ⟨_, T, hT, rfl, fun i j hi hj => ?_⟩
    obtain rfl : j = 0 := by omega
    rcases (show i = 0 ∨ i = 1 ∨ i = 2 by omega) with rfl | rfl | rfl <;> rfl
  have J0 := Lib.hid K0
  have J1 := Lib.hid K1
  have HOT := Lib.hid hot
  have HB := Lib.hid hbw
  have htw : w.heap.size + 1 < tb := by omega
  clear htb K0 K1 K2 hbw hot hmk
  go_loopw [18] (fun i wr => ∃ k tv tl, i = .int .i64 (k : Nat) ∧ k ≤ nc ∧ Blk wr w.heap.size #[.bool mn, .string ms, .string md, .slice a1 nc c1, .slice aa na ca] ∧ Blk wr (w.heap.size + 1) #[.int .u16 (q0 : Int), .int .u16 (q1 : Int), .int .u16 (q2 : Int)] ∧ Own wr tb 1 3 (fun i => [tv i]) ∧ Hid (Fam Prt.c wr (tb + 1) 112 5 3 (fun b => b = tb) tv tl) ∧ Hid (∀ i, i < 3 → (tl i).length ≤ k ∧ ∀ j, j < (tl i).length → (ix (tl i) j).a.fits 1000) ∧ Below w.heap.size w wr) (fun i _ => nc - (intOf i).toNat)
  case atStart => exact ⟨0, _, _, rfl, by omega, J0.out, J1.out, HOT.out, Fam.nil _ _ _ _ _ _ _, fun i hi => ⟨Nat.le_refl _, fun j hj => absurd hj (by simp)⟩, HB.out⟩
  case round =>
    obtain ⟨k, tv, tl, rfl, hk, K0, K1, hot, hfam, hfit, hbw⟩ := hrel
    have J0 := Lib.hid K0
    have J1 := Lib.hid K1
    have HOT := Lib.hid hot
    have HFA := Lib.hid hfam.out
    have HFI := Lib.hid hfit.out
    have HB := Lib.hid hbw
    have htr := hot.lt
    have hzb := hbw.size
    by_cases hlt : k < nc
    · clear K0 K1 hot hfam hfit hbw
      have i1 : (0 : Int) ≤ (k : Int) := by omega
      have i2 : (k : Int) < (nc : Int) := by omega
      obtain ⟨X, hX, hbx⟩ := and3_i64 (q := q1) (s := 2 * k) h1
      obtain ⟨Y, hY, hby⟩ := and1_i64 (q := q2) (s := k) h2
      have HFK := Lib.hid (HFR.out (k : Int))
      have HWH := Lib.hid (fun W => whole_any ((q2 : Int) / 64 % 9) W (by omega) (by omega))
      by_cases hX0 : X = 0
      · subst hX0
        rw [Int.natCast_zero] at hbx
        clear HFK HWH hby
        go_wp2
        go_roundw
        case rel => exact ⟨k + 1, tv, tl, by go_num, by omega, J0.out, J1.out, HOT.out, HFA, fun i hi => ⟨by have := (HFI.out i hi).1; omega, (HFI.out i hi).2⟩, HB.out⟩
        case measure => simp [intOf]; omega
      · obtain ⟨i, rfl⟩ : ∃ i, X = i + 1 := ⟨X - 1, by omega⟩
        have hi3 : i < 3 := by omega
        rw [Int.natCast_add, Int.natCast_one] at hbx
        have hne1 : ((i : Int) + 1 == 0) = false := by simp; omega
        have hne2 : ¬ (i : Int) + 1 = 0 := by omega
        have j0 : wr.cell? ⟨w.heap.size, 0, none⟩ = some (.bool mn) := J0.out.cell 0
        have j1 : wr.cell? ⟨w.heap.size, 1, none⟩ = some (.string ms) := J0.out.cell 1
        have j2 : wr.cell? ⟨w.heap.size, 2, none⟩ = some (.string md) := J0.out.cell 2
        have j3 : wr.cell? ⟨w.heap.size, 3, none⟩ = some (.slice a1 nc c1) := J0.out.cell 3
        have j4 : wr.cell? ⟨w.heap.size, 4, none⟩ = some (.slice aa na ca) := J0.out.cell 4
        go_wp2_with fail
        refine (HFK.out _ HB.out).mono ?_; rintro x w3 ⟨⟨b, rfl⟩, hb3⟩
        have J0 := Lib.hid (J0.out.on hb3)
        have J1 := Lib.hid (J1.out.on hb3)
        have HOT := Lib.hid (HOT.out.on hb3)
        have HFA := Lib.hid (HFA.out.on hb3)
        have HB := Lib.hid (chain HB.out hb3 (Nat.le_refl _))
        have htr := HOT.out.lt
        have hzb := HB.out.size
        have k2 : (w3.alloc (.cells #[.int .i64 (k : Int), .bool false, .bool false, .string ⟨#[]⟩, .string ⟨#[]⟩] 112)).cell? ⟨w.heap.size + 1, 2, none⟩ = some (.int .u16 (q2 : Int)) := (J1.out.alloc _).cell 2
        have k3 : (w3.alloc (.cells #[.int .i64 (k : Int), .bool true, .bool false, .string ⟨#[]⟩, .string ⟨#[]⟩] 112)).cell? ⟨w.heap.size + 1, 2, none⟩ = some (.int .u16 (q2 : Int)) := (J1.out.alloc _).cell 2
        clear hb3 HFK j0 j1 j2 j3 j4
        cases b
        · clear HWH
          go_wp2
          go_roundw
          case rel => exact ⟨k + 1, tv, tl, by go_num, by omega, J0.out, J1.out, HOT.out, HFA, fun i hi => ⟨by have := (HFI.out i hi).1; omega, (HFI.out i hi).2⟩, HB.out⟩
          case measure => simp [intOf]; omega
        · by_cases hY0 : Y = 0
          · subst hY0
            rw [Int.natCast_zero] at hby
            clear HWH k3
            go_wp2_with fail
            obtain ⟨xb, xn, xs, xd, hxb, hxn, hxs, hxd, HFX⟩ : ∃ xb xn xs xd, xb = false ∧ xn = false ∧ xs = (⟨#[]⟩ : ByteArray) ∧ xd = (⟨#[]⟩ : ByteArray) ∧ Hid ((⟨xn, xs, xd⟩ : R3).fits 1000) := ⟨_, _, _, _, rfl, rfl, rfl, rfl, Nat.zero_le _, Nat.zero_le _⟩
            refine wp_forget (fun W => ∃ y, y + 1 ≤ W.heap.size ∧ Blk W y #[.int .i64 (k : Int), .bool xb, .bool xn, .string xs, .string xd] ∧ y = w3.heap.size ∧ Blk W w.heap.size #[.bool mn, .string ms, .string md, .slice a1 nc c1, .slice aa na ca] ∧ Blk W (w.heap.size + 1) #[.int .u16 (q0 : Int), .int .u16 (q1 : Int), .int .u16 (q2 : Int)] ∧ Own W tb 1 3 (fun i => [tv i]) ∧ Hid (Fam Prt.c W (tb + 1) 112 5 3 (fun b => b = tb) tv tl) ∧ Below w.heap.size w W)
              ⟨w3.heap.size, by simp, by subst hxb hxn hxs hxd; exact Blk.new w3 _ _, rfl, J0.out.alloc _, J1.out.alloc _, HOT.out.alloc _, HFA.out.on ((Below.refl _ _).alloc (Nat.le_refl _) _), HB.out.alloc hzb _⟩ ?_
            rintro W ⟨y, hyW, K5, hy, K0, K1, hot, hfam, hbw⟩
            rw [← hy]
            have hty : tb < y := by omega
            clear hy hxb hxn hxs hxd
            have J0 := Lib.hid K0
            have J1 := Lib.hid K1
            have HOT := Lib.hid hot
            have HFA := Lib.hid hfam.out
            have HB := Lib.hid hbw
            have hzW := hbw.size
            obtain ⟨ta, tc, htv⟩ := HFA.out.form hi3
            have hln := (HFI.out i hi3).1
            have c0 : W.cell? ⟨tb, i, none⟩ = some (.slice ta (tl i).length tc) := by
              have := HOT.out.cell (i := i) (j := 0) hi3 (by omega)
              rw [Nat.mul_one, Nat.add_zero] at this
              rw [this, ← htv]; rfl
            have s7 := exc_but_cell c0 (rfl : _ = tb)
            have s8a := exc_but_cell (K5.cell 0) (rfl : _ = y)
            have s8b := exc_but_cell (K5.cell 1) (rfl : _ = y)
            have s8c := exc_but_cell (K5.cell 2) (rfl : _ = y)
            have s8d := exc_but_cell (K5.cell 3) (rfl : _ = y)
            have s8e := exc_but_cell (K5.cell 4) (rfl : _ = y)
            have i3 : (0 : Int) ≤ (i : Int) := by omega
            have i4 : (i : Int) < 3 := by omega
            clear K0 K1 hot hfam hbw K5 hbx hby hne1 hne2 c0
            obtain ⟨S, hS⟩ : ∃ S : Nat → World → Prop, S = fun k => if k = 7 then Exc W (butB tb) else if k = 8 then Exc W (butB y) else fun _ => True := ⟨_, rfl⟩
            have S0 : S 0 = fun _ => True := by subst hS; rfl
            have S1 : S 1 = fun _ => True := by subst hS; rfl
            have S2 : S 2 = fun _ => True := by subst hS; rfl
            have S3 : S 3 = fun _ => True := by subst hS; rfl
            have S4 : S 4 = fun _ => True := by subst hS; rfl
            have S5 : S 5 = fun _ => True := by subst hS; rfl
            have S6 : S 6 = fun _ => True := by subst hS; rfl
            have S7 : S 7 = Exc W (butB tb) := by subst hS; rfl
            have S8 : S 8 = Exc W (butB y) := by subst hS; rfl
            have S11 : S 11 = fun _ => True := by subst hS; rfl
            have hSK : ∀ k, k ∉ [7, 8] → ∀ w, S k w := fun k hk w => by subst hS; simp at hk; simp [hk]
            have hSX : ∀ k W', Below W.heap.size W W' → S k W' := fun k W' h => by
              by_cases h1 : k = 7
              · subst h1; rw [S7]; exact exc_but h.os h.tape h.output h.size (h.block tb HOT.out.lt)
              · by_cases h2 : k = 8
                · subst h2; rw [S8]; exact exc_but h.os h.tape h.output h.size (h.block y (by omega))
                · exact hSK k (by simp [h1, h2]) _
            clear hS
            have HSX := Lib.hid hSX
            refine wp_region_segsN S [9, 10, 12] [7, 8] [([0, 1, 2, 3, 4, 5, 6, 7, 8], 9, [7]), ([], 10, []), ([11], 12, [])] [] (by kernel_rfl) (by kernel_rfl) (by kernel_rfl) (by kernel_rfl) hSK (fun k => hSX k _ (Below.refl _ _).drew) ?_
            clear hSX
            refine wpSegsN_cons ?_
            repeat (refine wpQS_cons ?_; simp only [getOps, gl9]; (try simp only [S0, S1, S2, S3, S4, S5, S6, S7, S8]); (first | go_big_quiet_skip | (refine wpQuiet_step (fun K hK => ?_); go_simp; (try simp (disch := omega) only [ar9]); (first | (refine hK _ ?_; clear hK K) | (simp (disch := omega) only [if_pos, dif_pos, if_neg, dif_neg, ar9]; go_simp; refine hK _ ?_; clear hK K)))); refine wpQuiet_nil ?_)
            with_reducible refine wpQS_nil ?_
            (try simp only [getOps, gl9])
            obtain ⟨v9, w9, hr9, hfam9, hb9, hk9, ⟨a99, cap99, rfl⟩⟩ := HFA.out.app (w := W.drew) (t := 113) (Below.refl W.heap.size W).drew hi3 (⟨(k : Int), xb, ⟨xn, xs, xd⟩⟩ : Prt) Tryz.underlying113 partInfo (by omega) rfl (prt_one _) (by omega) (by omega) (by omega) (fun b hb => by have := HOT.out.lt; omega)
            rw [htv] at hr9
            have hot9 : Own w9 tb 1 3 (fun i => [tv i]) := HOT.out.block (hk9 tb HOT.out.lt (fun e => HFA.out.out i tb hi3 e.symm rfl))
            have f9 := hot9.frozen i
            have d9 : w9.cell? ⟨tb, i, none⟩ = some (.slice ta (tl i).length tc) := by
              have := hot9.cell (i := i) (j := 0) hi3 (by omega)
              rw [Nat.mul_one, Nat.add_zero] at this
              rw [this, ← htv]; rfl
            have hs9 := hot9.set1 i (.slice a99 ((tl i).length + 1) cap99) hi3 rfl
            have HS9 := Lib.hid (hs9.congr (G := fun j => [upd1 tv i (.slice a99 ((tl i).length + 1) cap99) j]) fun j hj => by unfold updF upd1; split <;> rfl)
            have P0 := Lib.hid ((J0.out.drew.block (hk9 w.heap.size J0.out.lt (fun e => by have := (HFA.out.lt hi3 e.symm).1; omega))).setOther ⟨tb, i, none⟩ (.slice a99 ((tl i).length + 1) cap99) (by simp; omega))
            have P1 := Lib.hid ((J1.out.drew.block (hk9 (w.heap.size + 1) J1.out.lt (fun e => by have := (HFA.out.lt hi3 e.symm).1; omega))).setOther ⟨tb, i, none⟩ (.slice a99 ((tl i).length + 1) cap99) (by simp; omega))
            have HFA9 := Lib.hid (hfam9.setCell ⟨tb, i, none⟩ (.slice a99 ((tl i).length + 1) cap99) rfl)
            have HB9 := Lib.hid ((HB.out.trans ((Below.refl w.heap.size W).drew.trans (hb9.mono (by omega)))).setCell (p := ⟨tb, i, none⟩) (by simp; omega) (.slice a99 ((tl i).length + 1) cap99))
            have HFI9 := Lib.hid (show ∀ m, m < 3 → (upd1 tl i (tl i ++ [(⟨(k : Int), xb, ⟨xn, xs, xd⟩⟩ : Prt)]) m).length ≤ k + 1 ∧ ∀ j, j < (upd1 tl i (tl i ++ [(⟨(k : Int), xb, ⟨xn, xs, xd⟩⟩ : Prt)]) m).length → (ix (upd1 tl i (tl i ++ [(⟨(k : Int), xb, ⟨xn, xs, xd⟩⟩ : Prt)]) m) j).a.fits 1000 from fun m hm => by
              by_cases e : m = i
              · subst e
                rw [upd1_same]
                refine ⟨by rw [List.length_append, List.length_singleton]; omega, fun j hj => ?_⟩
                rw [List.length_append, List.length_singleton] at hj
                rw [ix_append]
                by_cases hjl : j < (tl m).length
                · rw [if_pos hjl]; exact (HFI.out m hi3).2 j hjl
                · rw [if_neg hjl, if_pos (by omega)]; exact HFX.out
              · rw [upd1_other e]
                exact ⟨by have := (HFI.out m hm).1; omega, (HFI.out m hm).2⟩)
            have HR9 := Lib.hid (show ∀ ty, (Builtin.append_ #[113, 113] ty #[.slice ta (tl i).length tc, .slice (some ⟨W.heap.size, 0, none⟩) 1 1]).run Tryz.prog ((W.alloc (.cells #[.int .i64 (k : Int), .bool xb, .bool xn, .string xs, .string xd] 112)).drew) = .ok (.slice a99 ((tl i).length + 1) cap99) w9 from hr9)
            have HWD := Lib.hid (show Below W.heap.size W ((W.alloc (.cells #[.int .i64 (k : Int), .bool xb, .bool xn, .string xs, .string xd] 112)).drew) from ((Below.refl _ _).alloc (Nat.le_refl _) _).drew)
            clear hr9 hfam9 hb9 hk9 hot9 hs9 htv
            go_step
            rename_i K9 hK9
            refine hK9 _ _ ?_
            clear hK9 K9
            refine segQ_normal ⟨fun m hm => HSX.out m _ HWD.out, ?_⟩
            refine wpSegsN_cons ?_
            repeat (refine wpQS_cons ?_; simp only [getOps, gl9]; (first | go_big_quiet_skip | (refine wpQuiet_step (fun K hK => ?_); go_simp; (try simp (disch := omega) only [ar9]); (first | (refine hK _ ?_; clear hK K) | (simp (disch := omega) only [if_pos, dif_pos, if_neg, dif_neg, ar9]; go_simp; refine hK _ ?_; clear hK K)))); refine wpQuiet_nil ?_)
            with_reducible refine wpQS_nil ?_
            (try simp only [getOps, gl9])
            refine Lib.wpList_append_run _ rfl _ _ _ _ rfl _ _ rfl rfl _ _ (HR9.out _) ?_
            refine segQ_normal ⟨fun k hk => by simp at hk, ?_⟩
            refine wpSegsN_cons ?_
            repeat (refine wpQS_cons ?_; simp only [getOps, gl9]; (try simp only [S11]); (first | go_big_quiet_skip | (refine wpQuiet_step (fun K hK => ?_); go_simp; (try simp (disch := omega) only [ar9]); (first | (refine hK _ ?_; clear hK K) | (simp (disch := omega) only [if_pos, dif_pos, if_neg, dif_neg, ar9]; go_simp; refine hK _ ?_; clear hK K)))); refine wpQuiet_nil ?_)
            with_reducible refine wpQS_nil ?_
            (try simp only [getOps, gl9])
            go_step
            rename_i K9 hK9
            refine hK9 _ _ ?_
            clear hK9 K9
            refine segQ_normal ⟨fun k hk => by simp at hk, ?_⟩
            refine wpSegsN_nil ?_
            repeat (refine wpQS_cons ?_; simp only [getOps, gl9]; (first | go_big_quiet_skip | (refine wpQuiet_step (fun K hK => ?_); go_simp; (try simp (disch := omega) only [ar9]); (first | (refine hK _ ?_; clear hK K) | (simp (disch := omega) only [if_pos, dif_pos, if_neg, dif_neg, ar9]; go_simp; refine hK _ ?_; clear hK K)))); refine wpQuiet_nil ?_)
            with_reducible refine wpQS_nil ?_
            go_wp2
            go_roundw
            case rel => exact ⟨k + 1, _, _, by go_num, by omega, P0.out, P1.out, HS9.out, HFA9, HFI9, HB9.out⟩
            case measure => simp [intOf]; omega
          · obtain rfl : Y = 1 := by omega
            rw [Int.natCast_one] at hby
            go_wp2_with fail
            refine (HWH.out _).mono ?_; rintro x w5 ⟨rfl, hb5⟩
            obtain ⟨K5, hbw⟩ := boxes1 hb5
            have HFX := Lib.hid (show (ofQ ((((q2 : Int) / 64 % 9 : Int) : Rat))).fits 1000 from ofQ_fits (sm_whole (by omega) (by omega)))
            unfold ofQ at HFX
            generalize rn ((((q2 : Int) / 64 % 9 : Int) : Rat)) = xn at *
            generalize rs ((((q2 : Int) / 64 % 9 : Int) : Rat)) = xs at *
            generalize rd ((((q2 : Int) / 64 % 9 : Int) : Rat)) = xd at *
            have f2 := K5.frozen 2
            have f3 := K5.frozen 3
            have f4 := K5.frozen 4
            have l2 : w5.cell? ⟨w3.heap.size, 2, none⟩ = some (.bool false) := K5.cell 2
            have l3 : w5.cell? ⟨w3.heap.size, 3, none⟩ = some (.string ⟨#[]⟩) := K5.cell 3
            have l4 : w5.cell? ⟨w3.heap.size, 4, none⟩ = some (.string ⟨#[]⟩) := K5.cell 4
            have J5 := Lib.hid K5
            have HB5 := Lib.hid hbw
            have hz5 := K5.lt
            clear hb5 K5 hbw HWH
            go_wp2_with fail
            obtain ⟨xb, hxb⟩ : ∃ xb, xb = true := ⟨_, rfl⟩
            refine wp_forget (fun W => ∃ y, y + 1 ≤ W.heap.size ∧ Blk W y #[.int .i64 (k : Int), .bool xb, .bool xn, .string xs, .string xd] ∧ y = w3.heap.size ∧ Blk W w.heap.size #[.bool mn, .string ms, .string md, .slice a1 nc c1, .slice aa na ca] ∧ Blk W (w.heap.size + 1) #[.int .u16 (q0 : Int), .int .u16 (q1 : Int), .int .u16 (q2 : Int)] ∧ Own W tb 1 3 (fun i => [tv i]) ∧ Hid (Fam Prt.c W (tb + 1) 112 5 3 (fun b => b = tb) tv tl) ∧ Below w.heap.size w W)
              ⟨w3.heap.size, by simp only [World.size_setCell]; omega, by subst hxb; exact ((J5.out.set 2 _).set 3 _).set 4 _, rfl, ?_, ?_, ?_, ?_, ?_⟩ ?_
            · exact (((J0.out.on HB5.out).setOther _ _ (by simp; omega)).setOther _ _ (by simp; omega)).setOther _ _ (by simp; omega)
            · exact (((J1.out.on HB5.out).setOther _ _ (by simp; omega)).setOther _ _ (by simp; omega)).setOther _ _ (by simp; omega)
            · exact (((HOT.out.on HB5.out).setOther _ _ (by simp; omega)).setOther _ _ (by simp; omega)).setOther _ _ (by simp; omega)
            · refine (HFA.out.on HB5.out).keep fun i b hi hbb => ?_
              have := (HFA.out.lt hi hbb).2
              rw [heap_setCell_other _ _ _ _ (by simp; omega), heap_setCell_other _ _ _ _ (by simp; omega), heap_setCell_other _ _ _ _ (by simp; omega)]
            · exact (((chain HB.out HB5.out (Nat.le_refl _)).setCell (by simp; omega) _).setCell (by simp; omega) _).setCell (by simp; omega) _
            rintro W ⟨y, hyW, K5, hy, K0, K1, hot, hfam, hbw⟩
            rw [← hy]
            have hty : tb < y := by omega
            clear hy hxb HB5 J5 l2 l3 l4 f2 f3 f4 hz5
            have J0 := Lib.hid K0
            have J1 := Lib.hid K1
            have HOT := Lib.hid hot
            have HFA := Lib.hid hfam.out
            have HB := Lib.hid hbw
            have hzW := hbw.size
            obtain ⟨ta, tc, htv⟩ := HFA.out.form hi3
            have hln := (HFI.out i hi3).1
            have c0 : W.cell? ⟨tb, i, none⟩ = some (.slice ta (tl i).length tc) := by
              have := HOT.out.cell (i := i) (j := 0) hi3 (by omega)
              rw [Nat.mul_one, Nat.add_zero] at this
              rw [this, ← htv]; rfl
            have s7 := exc_but_cell c0 (rfl : _ = tb)
            have s8a := exc_but_cell (K5.cell 0) (rfl : _ = y)
            have s8b := exc_but_cell (K5.cell 1) (rfl : _ = y)
            have s8c := exc_but_cell (K5.cell 2) (rfl : _ = y)
            have s8d := exc_but_cell (K5.cell 3) (rfl : _ = y)
            have s8e := exc_but_cell (K5.cell 4) (rfl : _ = y)
            have i3 : (0 : Int) ≤ (i : Int) := by omega
            have i4 : (i : Int) < 3 := by omega
            clear K0 K1 hot hfam hbw K5 hbx hby hne1 hne2 c0
            obtain ⟨S, hS⟩ : ∃ S : Nat → World → Prop, S = fun k => if k = 7 then Exc W (butB tb) else if k = 8 then Exc W (butB y) else fun _ => True := ⟨_, rfl⟩
            have S0 : S 0 = fun _ => True := by subst hS; rfl
            have S1 : S 1 = fun _ => True := by subst hS; rfl
            have S2 : S 2 = fun _ => True := by subst hS; rfl
            have S3 : S 3 = fun _ => True := by subst hS; rfl
            have S4 : S 4 = fun _ => True := by subst hS; rfl
            have S5 : S 5 = fun _ => True := by subst hS; rfl
            have S6 : S 6 = fun _ => True := by subst hS; rfl
            have S7 : S 7 = Exc W (butB tb) := by subst hS; rfl
            have S8 : S 8 = Exc W (butB y) := by subst hS; rfl
            have S11 : S 11 = fun _ => True := by subst hS; rfl
            have hSK : ∀ k, k ∉ [7, 8] → ∀ w, S k w := fun k hk w => by subst hS; simp at hk; simp [hk]
            have hSX : ∀ k W', Below W.heap.size W W' → S k W' := fun k W' h => by
              by_cases h1 : k = 7
              · subst h1; rw [S7]; exact exc_but h.os h.tape h.output h.size (h.block tb HOT.out.lt)
              · by_cases h2 : k = 8
                · subst h2; rw [S8]; exact exc_but h.os h.tape h.output h.size (h.block y (by omega))
                · exact hSK k (by simp [h1, h2]) _
            clear hS
            have HSX := Lib.hid hSX
            refine wp_region_segsN S [9, 10, 12] [7, 8] [([0, 1, 2, 3, 4, 5, 6, 7, 8], 9, [7]), ([], 10, []), ([11], 12, [])] [] (by kernel_rfl) (by kernel_rfl) (by kernel_rfl) (by kernel_rfl) hSK (fun k => hSX k _ (Below.refl _ _).drew) ?_
            clear hSX
            refine wpSegsN_cons ?_
            repeat (refine wpQS_cons ?_; simp only [getOps, gl9]; (try simp only [S0, S1, S2, S3, S4, S5, S6, S7, S8]); (first | go_big_quiet_skip | (refine wpQuiet_step (fun K hK => ?_); go_simp; (try simp (disch := omega) only [ar9]); (first | (refine hK _ ?_; clear hK K) | (simp (disch := omega) only [if_pos, dif_pos, if_neg, dif_neg, ar9]; go_simp; refine hK _ ?_; clear hK K)))); refine wpQuiet_nil ?_)
            with_reducible refine wpQS_nil ?_
            (try simp only [getOps, gl9])
            obtain ⟨v9, w9, hr9, hfam9, hb9, hk9, ⟨a99, cap99, rfl⟩⟩ := HFA.out.app (w := W.drew) (t := 113) (Below.refl W.heap.size W).drew hi3 (⟨(k : Int), xb, ⟨xn, xs, xd⟩⟩ : Prt) Tryz.underlying113 partInfo (by omega) rfl (prt_one _) (by omega) (by omega) (by omega) (fun b hb => by have := HOT.out.lt; omega)
            rw [htv] at hr9
            have hot9 : Own w9 tb 1 3 (fun i => [tv i]) := HOT.out.block (hk9 tb HOT.out.lt (fun e => HFA.out.out i tb hi3 e.symm rfl))
            have f9 := hot9.frozen i
            have d9 : w9.cell? ⟨tb, i, none⟩ = some (.slice ta (tl i).length tc) := by
              have := hot9.cell (i := i) (j := 0) hi3 (by omega)
              rw [Nat.mul_one, Nat.add_zero] at this
              rw [this, ← htv]; rfl
            have hs9 := hot9.set1 i (.slice a99 ((tl i).length + 1) cap99) hi3 rfl
            have HS9 := Lib.hid (hs9.congr (G := fun j => [upd1 tv i (.slice a99 ((tl i).length + 1) cap99) j]) fun j hj => by unfold updF upd1; split <;> rfl)
            have P0 := Lib.hid ((J0.out.drew.block (hk9 w.heap.size J0.out.lt (fun e => by have := (HFA.out.lt hi3 e.symm).1; omega))).setOther ⟨tb, i, none⟩ (.slice a99 ((tl i).length + 1) cap99) (by simp; omega))
            have P1 := Lib.hid ((J1.out.drew.block (hk9 (w.heap.size + 1) J1.out.lt (fun e => by have := (HFA.out.lt hi3 e.symm).1; omega))).setOther ⟨tb, i, none⟩ (.slice a99 ((tl i).length + 1) cap99) (by simp; omega))
            have HFA9 := Lib.hid (hfam9.setCell ⟨tb, i, none⟩ (.slice a99 ((tl i).length + 1) cap99) rfl)
            have HB9 := Lib.hid ((HB.out.trans ((Below.refl w.heap.size W).drew.trans (hb9.mono (by omega)))).setCell (p := ⟨tb, i, none⟩) (by simp; omega) (.slice a99 ((tl i).length + 1) cap99))
            have HFI9 := Lib.hid (show ∀ m, m < 3 → (upd1 tl i (tl i ++ [(⟨(k : Int), xb, ⟨xn, xs, xd⟩⟩ : Prt)]) m).length ≤ k + 1 ∧ ∀ j, j < (upd1 tl i (tl i ++ [(⟨(k : Int), xb, ⟨xn, xs, xd⟩⟩ : Prt)]) m).length → (ix (upd1 tl i (tl i ++ [(⟨(k : Int), xb, ⟨xn, xs, xd⟩⟩ : Prt)]) m) j).a.fits 1000 from fun m hm => by
              by_cases e : m = i
              · subst e
                rw [upd1_same]
                refine ⟨by rw [List.length_append, List.length_singleton]; omega, fun j hj => ?_⟩
                rw [List.length_append, List.length_singleton] at hj
                rw [ix_append]
                by_cases hjl : j < (tl m).length
                · rw [if_pos hjl]; exact (HFI.out m hi3).2 j hjl
                · rw [if_neg hjl, if_pos (by omega)]; exact HFX.out
              · rw [upd1_other e]
                exact ⟨by have := (HFI.out m hm).1; omega, (HFI.out m hm).2⟩)
            have HR9 := Lib.hid (show ∀ ty, (Builtin.append_ #[113, 113] ty #[.slice ta (tl i).length tc, .slice (some ⟨W.heap.size, 0, none⟩) 1 1]).run Tryz.prog ((W.alloc (.cells #[.int .i64 (k : Int), .bool xb, .bool xn, .string xs, .string xd] 112)).drew) = .ok (.slice a99 ((tl i).length + 1) cap99) w9 from hr9)
            have HWD := Lib.hid (show Below W.heap.size W ((W.alloc (.cells #[.int .i64 (k : Int), .bool xb, .bool xn, .string xs, .string xd] 112)).drew) from ((Below.refl _ _).alloc (Nat.le_refl _) _).drew)
            clear hr9 hfam9 hb9 hk9 hot9 hs9 htv
            go_step
            rename_i K9 hK9
            refine hK9 _ _ ?_
            clear hK9 K9
            refine segQ_normal ⟨fun m hm => HSX.out m _ HWD.out, ?_⟩
            refine wpSegsN_cons ?_
            repeat (refine wpQS_cons ?_; simp only [getOps, gl9]; (first | go_big_quiet_skip | (refine wpQuiet_step (fun K hK => ?_); go_simp; (try simp (disch := omega) only [ar9]); (first | (refine hK _ ?_; clear hK K) | (simp (disch := omega) only [if_pos, dif_pos, if_neg, dif_neg, ar9]; go_simp; refine hK _ ?_; clear hK K)))); refine wpQuiet_nil ?_)
            with_reducible refine wpQS_nil ?_
            (try simp only [getOps, gl9])
            refine Lib.wpList_append_run _ rfl _ _ _ _ rfl _ _ rfl rfl _ _ (HR9.out _) ?_
            refine segQ_normal ⟨fun k hk => by simp at hk, ?_⟩
            refine wpSegsN_cons ?_
            repeat (refine wpQS_cons ?_; simp only [getOps, gl9]; (try simp only [S11]); (first | go_big_quiet_skip | (refine wpQuiet_step (fun K hK => ?_); go_simp; (try simp (disch := omega) only [ar9]); (first | (refine hK _ ?_; clear hK K) | (simp (disch := omega) only [if_pos, dif_pos, if_neg, dif_neg, ar9]; go_simp; refine hK _ ?_; clear hK K)))); refine wpQuiet_nil ?_)
            with_reducible refine wpQS_nil ?_
            (try simp only [getOps, gl9])
            go_step
            rename_i K9 hK9
            refine hK9 _ _ ?_
            clear hK9 K9
            refine segQ_normal ⟨fun k hk => by simp at hk, ?_⟩
            refine wpSegsN_nil ?_
            repeat (refine wpQS_cons ?_; simp only [getOps, gl9]; (first | go_big_quiet_skip | (refine wpQuiet_step (fun K hK => ?_); go_simp; (try simp (disch := omega) only [ar9]); (first | (refine hK _ ?_; clear hK K) | (simp (disch := omega) only [if_pos, dif_pos, if_neg, dif_neg, ar9]; go_simp; refine hK _ ?_; clear hK K)))); refine wpQuiet_nil ?_)
            with_reducible refine wpQS_nil ?_
            go_wp2
            go_roundw
            case rel => exact ⟨k + 1, _, _, by go_num, by omega, P0.out, P1.out, HS9.out, HFA9, HFI9, HB9.out⟩
            case measure => simp [intOf]; omega
    · obtain rfl : k = nc := by omega
      have hnl9 : decide ((k : Int) < (k : Int)) = false := by simp
      have k0 : wr.cell? ⟨w.heap.size + 1, 0, none⟩ = some (.int .u16 (q0 : Int)) := K1.cell 0
      clear K0 K1 hot hfam hfit hbw HFR
      by_cases hz : q0 / 8 % 4 = 0
      · have hz1 : ((q0 : Int) / 8 % 4 == 0) = true := by simp; omega
        have hz2 : (q0 : Int) / 8 % 4 = 0 := by omega
        obtain ⟨i, hi⟩ : ∃ i, i = q0 / 32 % 3 := ⟨_, rfl⟩
        have hi3 : i < 3 := by omega
        have hiz : (q0 : Int) / 32 % 3 = (i : Int) := by omega
        have HWH := Lib.hid (fun W => whole_any ((q0 : Int) / 96 % 7) W (by omega) (by omega))
        have HFX := Lib.hid (show (ofQ ((((q0 : Int) / 96 % 7 : Int) : Rat))).fits 1000 from ofQ_fits (sm_whole (by omega) (by omega)))
        unfold ofQ at HFX
        generalize rn ((((q0 : Int) / 96 % 7 : Int) : Rat)) = xn at *
        generalize rs ((((q0 : Int) / 96 % 7 : Int) : Rat)) = xs at *
        generalize rd ((((q0 : Int) / 96 % 7 : Int) : Rat)) = xd at *
        obtain ⟨ta, tc, htv⟩ := HFA.out.form hi3
        have hln := (HFI.out i hi3).1
        have c0 : wr.cell? ⟨tb, i, none⟩ = some (.slice ta (tl i).length tc) := by
          have := HOT.out.cell (i := i) (j := 0) hi3 (by omega)
          rw [Nat.mul_one, Nat.add_zero] at this
          rw [this, ← htv]; rfl
        have s5 := exc_but_cell c0 (rfl : _ = tb)
        have s7 := exc_but_cell k0 (rfl : _ = w.heap.size + 1)
        have i3 : (0 : Int) ≤ (i : Int) := by omega
        have i4 : (i : Int) < 3 := by omega
        clear hi c0
        go_wp2_with fail
        clear k0
        obtain ⟨W, rfl⟩ : ∃ W, W = wr := ⟨wr, rfl⟩
        obtain ⟨S, hS⟩ : ∃ S : Nat → World → Prop, S = fun k => if k = 5 then Exc W (butB tb) else if k = 7 then Exc W (butB (w.heap.size + 1)) else fun _ => True := ⟨_, rfl⟩
        have S0 : S 0 = fun _ => True := by subst hS; rfl
        have S1 : S 1 = fun _ => True := by subst hS; rfl
        have S2 : S 2 = fun _ => True := by subst hS; rfl
        have S3 : S 3 = fun _ => True := by subst hS; rfl
        have S4 : S 4 = fun _ => True := by subst hS; rfl
        have S5 : S 5 = Exc W (butB tb) := by subst hS; rfl
        have S6 : S 6 = fun _ => True := by subst hS; rfl
        have S7 : S 7 = Exc W (butB (w.heap.size + 1)) := by subst hS; rfl
        have S8 : S 8 = fun _ => True := by subst hS; rfl
        have S9 : S 9 = fun _ => True := by subst hS; rfl
        have S10 : S 10 = fun _ => True := by subst hS; rfl
        have S12 : S 12 = fun _ => True := by subst hS; rfl
        have S15 : S 15 = fun _ => True := by subst hS; rfl
        have hSK : ∀ k, k ∉ [5, 7] → ∀ w, S k w := fun k hk w => by subst hS; simp at hk; simp [hk]
        have hSX : ∀ k W', Below W.heap.size W W' → S k W' := fun k W' h => by
          by_cases h1 : k = 5
          · subst h1; rw [S5]; exact exc_but h.os h.tape h.output h.size (h.block tb HOT.out.lt)
          · by_cases h2 : k = 7
            · subst h2; rw [S7]; exact exc_but h.os h.tape h.output h.size (h.block (w.heap.size + 1) J1.out.lt)
            · exact hSK k (by simp [h1, h2]) _
        clear hS
        have HSX := Lib.hid hSX
        have HS7 := Lib.hid S7
        refine wp_region_segsN S [11, 13, 14, 16] [5, 7] [([0, 1, 2, 3, 4, 5, 6, 7, 8, 9, 10], 11, [5, 7]), ([12], 13, [5, 7]), ([], 14, [7]), ([15], 16, [])] [] (by kernel_rfl) (by kernel_rfl) (by kernel_rfl) (by kernel_rfl) hSK (fun k => hSX k _ (Below.refl _ _).drew) ?_
        clear hSX
        refine wpSegsN_cons ?_
        repeat (refine wpQS_cons ?_; simp only [getOps, gl9]; (try simp only [S0, S1, S2, S3, S4, S5, S6, S7, S8, S9, S10]); (first | go_big_quiet_skip | (refine wpQuiet_step (fun K hK => ?_); go_simp; (try simp (disch := omega) only [ar9]); (first | (refine hK _ ?_; clear hK K) | (simp (disch := omega) only [if_pos, dif_pos, if_neg, dif_neg, ar9]; go_simp; refine hK _ ?_; clear hK K)))); refine wpQuiet_nil ?_)
        with_reducible refine wpQS_nil ?_
        (try simp only [getOps, gl9])
        go_step
        rename_i K9 hK9
        refine (HWH.out _).mono ?_
        rintro e w5 ⟨rfl, hb5⟩
        have hbW : Below W.heap.size W w5 := chain (Below.refl W.heap.size W).drew hb5 (Nat.le_refl _)
        have HW5 := Lib.hid hbW
        have hzs := hbW.size
        obtain ⟨v9, w9, hr9, hfam9, hb9, hk9, ⟨a99, cap99, rfl⟩⟩ := HFA.out.app (w := w5) (t := 113) hbW hi3 (⟨-1, true, ⟨xn, xs, xd⟩⟩ : Prt) Tryz.underlying113 partInfo (by omega) rfl (prt_one _) (by omega) (by omega) (by omega) (fun b hb => by have := HOT.out.lt; omega)
        rw [htv] at hr9
        have hot9 : Own w9 tb 1 3 (fun i => [tv i]) := (HOT.out.on hbW).block (hk9 tb (by have := HOT.out.lt; omega) (fun e => HFA.out.out i tb hi3 e.symm rfl))
        have f9 := hot9.frozen i
        have d9 : w9.cell? ⟨tb, i, none⟩ = some (.slice ta (tl i).length tc) := by
          have := hot9.cell (i := i) (j := 0) hi3 (by omega)
          rw [Nat.mul_one, Nat.add_zero] at this
          rw [this, ← htv]; rfl
        have hs9 := hot9.set1 i (.slice a99 ((tl i).length + 1) cap99) hi3 rfl
        have HS9 := Lib.hid (hs9.congr (G := fun j => [upd1 tv i (.slice a99 ((tl i).length + 1) cap99) j]) fun j hj => by unfold updF upd1; split <;> rfl)
        have hj0 := (J0.out.on hbW).block (hk9 w.heap.size (by have := J0.out.lt; omega) (fun e => by have := (HFA.out.lt hi3 e.symm).1; omega))
        have hj1 : w9.heap[w.heap.size + 1]? = W.heap[w.heap.size + 1]? := (hk9 (w.heap.size + 1) (by have := J1.out.lt; omega) (fun e => by have := (HFA.out.lt hi3 e.symm).1; omega)).trans (hbW.block _ J1.out.lt)
        have P0 := Lib.hid (hj0.setOther ⟨tb, i, none⟩ (.slice a99 ((tl i).length + 1) cap99) (by simp; omega))
        have HFA9 := Lib.hid (hfam9.setCell ⟨tb, i, none⟩ (.slice a99 ((tl i).length + 1) cap99) rfl)
        have HB9 := Lib.hid ((HB.out.trans ((hbW.mono (by omega)).trans (hb9.mono (by omega)))).setCell (p := ⟨tb, i, none⟩) (by simp; omega) (.slice a99 ((tl i).length + 1) cap99))
        have HFI9 := Lib.hid (show ∀ m, m < 3 → (upd1 tl i (tl i ++ [(⟨-1, true, ⟨xn, xs, xd⟩⟩ : Prt)]) m).length ≤ k + 1 ∧ ∀ j, j < (upd1 tl i (tl i ++ [(⟨-1, true, ⟨xn, xs, xd⟩⟩ : Prt)]) m).length → (ix (upd1 tl i (tl i ++ [(⟨-1, true, ⟨xn, xs, xd⟩⟩ : Prt)]) m) j).a.fits 1000 from fun m hm => by
          by_cases e : m = i
          · subst e
            rw [upd1_same]
            refine ⟨by rw [List.length_append, List.length_singleton]; omega, fun j hj => ?_⟩
            rw [List.length_append, List.length_singleton] at hj
            rw [ix_append]
            by_cases hjl : j < (tl m).length
            · rw [if_pos hjl]; exact (HFI.out m hi3).2 j hjl
            · rw [if_neg hjl, if_pos (by omega)]; exact HFX.out
          · rw [upd1_other e]
            exact ⟨by have := (HFI.out m hm).1; omega, (HFI.out m hm).2⟩)
        have HR9 := Lib.hid (show ∀ ty, (Builtin.append_ #[113, 113] ty #[.slice ta (tl i).length tc, .slice (some ⟨w5.heap.size, 0, none⟩) 1 1]).run Tryz.prog (w5.alloc (.cells #[.int .i64 (-1), .bool true, .bool xn, .string xs, .string xd] 112)) = .ok (.slice a99 ((tl i).length + 1) cap99) w9 from hr9)
        have HX9 := Lib.hid (show Exc W (butB (w.heap.size + 1)) w9 from exc_but (hb9.os.trans hbW.os) (hb9.tape.trans hbW.tape) (hb9.output.trans hbW.output) (Nat.le_trans hzs hb9.size) hj1)
        clear hr9 hfam9 hb9 hk9 hot9 hs9 htv hb5 hbW hj0 hj1
        refine hK9 _ _ ?_
        clear hK9 K9
        refine segQ_normal ⟨fun m hm => HSX.out m _ HW5.out, ?_⟩
        refine wpSegsN_cons ?_
        repeat (refine wpQS_cons ?_; simp only [getOps, gl9]; (try simp only [S12]); (first | go_big_quiet_skip | (refine wpQuiet_step (fun K hK => ?_); go_simp; (try simp (disch := omega) only [ar9]); (first | (refine hK _ ?_; clear hK K) | (simp (disch := omega) only [if_pos, dif_pos, if_neg, dif_neg, ar9]; go_simp; refine hK _ ?_; clear hK K)))); refine wpQuiet_nil ?_)
        with_reducible refine wpQS_nil ?_
        (try simp only [getOps, gl9])
        go_step
        rename_i K9 hK9
        refine hK9 _ _ ?_
        clear hK9 K9
        refine segQ_normal ⟨fun m hm => HSX.out m _ (HW5.out.alloc hzs (.cells #[.int .i64 (-1), .bool true, .bool xn, .string xs, .string xd] 112)), ?_⟩
        refine wpSegsN_cons ?_
        repeat (refine wpQS_cons ?_; simp only [getOps, gl9]; (first | go_big_quiet_skip | (refine wpQuiet_step (fun K hK => ?_); go_simp; (try simp (disch := omega) only [ar9]); (first | (refine hK _ ?_; clear hK K) | (simp (disch := omega) only [if_pos, dif_pos, if_neg, dif_neg, ar9]; go_simp; refine hK _ ?_; clear hK K)))); refine wpQuiet_nil ?_)
        with_reducible refine wpQS_nil ?_
        (try simp only [getOps, gl9])
        refine Lib.wpList_append_run _ rfl _ _ _ _ rfl _ _ rfl rfl _ _ (HR9.out _) ?_
        refine segQ_normal ⟨fun m hm => by (simp at hm; subst hm; rw [HS7.out]; exact HX9.out), ?_⟩
        refine wpSegsN_cons ?_
        repeat (refine wpQS_cons ?_; simp only [getOps, gl9]; (try simp only [S15]); (first | go_big_quiet_skip | (refine wpQuiet_step (fun K hK => ?_); go_simp; (try simp (disch := omega) only [ar9]); (first | (refine hK _ ?_; clear hK K) | (simp (disch := omega) only [if_pos, dif_pos, if_neg, dif_neg, ar9]; go_simp; refine hK _ ?_; clear hK K)))); refine wpQuiet_nil ?_)
        with_reducible refine wpQS_nil ?_
        (try simp only [getOps, gl9])
        go_step
        rename_i K9 hK9
        refine hK9 _ _ ?_
        clear hK9 K9
        refine segQ_normal ⟨fun k hk => by simp at hk, ?_⟩
        refine wpSegsN_nil ?_
        repeat (refine wpQS_cons ?_; simp only [getOps, gl9]; (first | go_big_quiet_skip | (refine wpQuiet_step (fun K hK => ?_); go_simp; (try simp (disch := omega) only [ar9]); (first | (refine hK _ ?_; clear hK K) | (simp (disch := omega) only [if_pos, dif_pos, if_neg, dif_neg, ar9]; go_simp; refine hK _ ?_; clear hK K)))); refine wpQuiet_nil ?_)
        with_reducible refine wpQS_nil ?_
        generalize hVV : w9.setCell ⟨tb, i, none⟩ (.slice a99 ((tl i).length + 1) cap99) = V at *
        obtain ⟨tv', tl', K0, hot, hfam, hfit, hbV⟩ : ∃ tv' tl', Blk V w.heap.size #[.bool mn, .string ms, .string md, .slice a1 k c1, .slice aa na ca] ∧ Own V tb 1 3 (fun i => [tv' i]) ∧ Hid (Fam Prt.c V (tb + 1) 112 5 3 (fun b => b = tb) tv' tl') ∧ Hid (∀ i, i < 3 → (tl' i).length ≤ k + 1 ∧ ∀ j, j < (tl' i).length → (ix (tl' i) j).a.fits 1000) ∧ Below w.heap.size w V := ⟨_, _, P0.out, HS9.out, HFA9, HFI9, HB9.out⟩
        clear hVV d9 f9
        clear HS7 HX9 HR9 HFI9 HB9 HFA9 P0 HS9 HW5 HSX
        have hzV := hbV.size
        have htV := hot.lt
        obtain ⟨GA, hSA, hQA⟩ := HAG.out
        obtain ⟨v1, w1, hr1, ho1, hb1⟩ := append_sl (P := Tryz.prog) (t := 82) (base := V.heap.size) (v := .slice none 0 0) (n := 0) (F := fun _ => []) Tryz.underlying82 agrInfo (by omega) (SOwn.nil V _ _ _ _) (hSA.keep fun b hb hl => hbV.block b hl) (fun i hi u hu => by obtain ⟨tv0, hg, hR⟩ := hQA i hi; rw [hg] at hu; simp at hu; subst hu; obtain ⟨GT, hST, -⟩ := hR; obtain ⟨x, y, h, -, -⟩ := hST.form; rw [h]; rfl) (by omega) (by omega) (Nat.le_refl _)
        have hz1' := hb1.size
        rw [Nat.zero_add] at ho1
        have ho1' : SOwn w1 V.heap.size 115 1 v1 al.length GA := ho1.congr fun i hi => by simp
        obtain ⟨x1, n1, x2, rfl⟩ : ∃ a n c, v1 = .slice a n c := by rcases ho1'.form with ⟨e, -⟩ | ⟨g, cap, e, -⟩ <;> exact ⟨_, _, _, e⟩
        obtain ⟨v2, w2, hr2, ho2, hb2, -, -⟩ := ho1'.app (P := Tryz.prog) (t := 82) (w := w1) (E := [.slice (some ⟨tb, 0, none⟩) 3 3]) (Below.refl _ _) Tryz.underlying82 agrInfo (by omega) rfl (by simp [Value.oneCell']) (by omega) (by omega) (by omega)
        obtain ⟨x3, n3, x4, rfl⟩ : ∃ a n c, v2 = .slice a n c := by rcases ho2.form with ⟨e, -⟩ | ⟨g, cap, e, -⟩ <;> exact ⟨_, _, _, e⟩
        have hbV2 : Below V.heap.size V w2 := hb1.trans hb2
        have HRES := Lib.hid (show RetAgs w p al k (.returned (.slice x3 n3 x4)) w2 from ⟨_, [tl' 0, tl' 1, tl' 2], rfl,
          agrs_more (hbV.trans (hbV2.mono (by omega))) ho2 (by omega) (fun j hj => if_pos hj) (if_neg (by omega)) hQA (hot.on hbV2) (hfam.out.on hbV2) (by omega) (by omega), rfl, fun i hi => by
            rcases (show i = 0 ∨ i = 1 ∨ i = 2 by omega) with rfl | rfl | rfl
            · exact hfit.out 0 hi
            · exact hfit.out 1 hi
            · exact hfit.out 2 hi, hbV.trans (hbV2.mono (by omega))⟩)
        have HR1 := Lib.hid hr1
        have HR2 := Lib.hid hr2
        have k4 : V.cell? ⟨w.heap.size, 4, none⟩ = some (.slice aa na ca) := K0.cell 4
        clear hr1 hr2 ho1 ho1' ho2 hb1 hb2 hbV2 hbV hot hfam hfit K0 hSA hQA J0 J1 HOT HFA HFI HB HAG
        go_wp2_with (at_builtin; first | (refine Lib.wpList_append_run _ rfl _ _ _ _ rfl _ _ rfl rfl _ _ (HR1.out _) ?_; clear HR1) | (refine Lib.wpList_append_run _ rfl _ _ _ _ rfl _ _ rfl rfl _ _ (HR2.out _) ?_))
        go_ret
        exact HRES.out
      · have hz1 : ((q0 : Int) / 8 % 4 == 0) = false := by simp; omega
        have hz2 : ¬ (q0 : Int) / 8 % 4 = 0 := by omega
        obtain ⟨V, rfl⟩ : ∃ V, V = wr := ⟨wr, rfl⟩
        obtain ⟨tv', tl', K0, hot, hfam, hfit, hbV⟩ : ∃ tv' tl', Blk V w.heap.size #[.bool mn, .string ms, .string md, .slice a1 k c1, .slice aa na ca] ∧ Own V tb 1 3 (fun i => [tv' i]) ∧ Hid (Fam Prt.c V (tb + 1) 112 5 3 (fun b => b = tb) tv' tl') ∧ Hid (∀ i, i < 3 → (tl' i).length ≤ k + 1 ∧ ∀ j, j < (tl' i).length → (ix (tl' i) j).a.fits 1000) ∧ Below w.heap.size w V := ⟨_, _, J0.out, HOT.out, HFA, fun i hi => ⟨by have := (HFI.out i hi).1; omega, (HFI.out i hi).2⟩, HB.out⟩
        have hzV := hbV.size
        have htV := hot.lt
        obtain ⟨GA, hSA, hQA⟩ := HAG.out
        obtain ⟨v1, w1, hr1, ho1, hb1⟩ := append_sl (P := Tryz.prog) (t := 82) (base := V.heap.size) (v := .slice none 0 0) (n := 0) (F := fun _ => []) Tryz.underlying82 agrInfo (by omega) (SOwn.nil V _ _ _ _) (hSA.keep fun b hb hl => hbV.block b hl) (fun i hi u hu => by obtain ⟨tv0, hg, hR⟩ := hQA i hi; rw [hg] at hu; simp at hu; subst hu; obtain ⟨GT, hST, -⟩ := hR; obtain ⟨x, y, h, -, -⟩ := hST.form; rw [h]; rfl) (by omega) (by omega) (Nat.le_refl _)
        have hz1' := hb1.size
        rw [Nat.zero_add] at ho1
        have ho1' : SOwn w1 V.heap.size 115 1 v1 al.length GA := ho1.congr fun i hi => by simp
        obtain ⟨x1, n1, x2, rfl⟩ : ∃ a n c, v1 = .slice a n c := by rcases ho1'.form with ⟨e, -⟩ | ⟨g, cap, e, -⟩ <;> exact ⟨_, _, _, e⟩
        obtain ⟨v2, w2, hr2, ho2, hb2, -, -⟩ := ho1'.app (P := Tryz.prog) (t := 82) (w := w1) (E := [.slice (some ⟨tb, 0, none⟩) 3 3]) (Below.refl _ _) Tryz.underlying82 agrInfo (by omega) rfl (by simp [Value.oneCell']) (by omega) (by omega) (by omega)
        obtain ⟨x3, n3, x4, rfl⟩ : ∃ a n c, v2 = .slice a n c := by rcases ho2.form with ⟨e, -⟩ | ⟨g, cap, e, -⟩ <;> exact ⟨_, _, _, e⟩
        have hbV2 : Below V.heap.size V w2 := hb1.trans hb2
        have HRES := Lib.hid (show RetAgs w p al k (.returned (.slice x3 n3 x4)) w2 from ⟨_, [tl' 0, tl' 1, tl' 2], rfl,
          agrs_more (hbV.trans (hbV2.mono (by omega))) ho2 (by omega) (fun j hj => if_pos hj) (if_neg (by omega)) hQA (hot.on hbV2) (hfam.out.on hbV2) (by omega) (by omega), rfl, fun i hi => by
            rcases (show i = 0 ∨ i = 1 ∨ i = 2 by omega) with rfl | rfl | rfl
            · exact hfit.out 0 hi
            · exact hfit.out 1 hi
            · exact hfit.out 2 hi, hbV.trans (hbV2.mono (by omega))⟩)
        have HR1 := Lib.hid hr1
        have HR2 := Lib.hid hr2
        have k4 : V.cell? ⟨w.heap.size, 4, none⟩ = some (.slice aa na ca) := K0.cell 4
        clear hr1 hr2 ho1 ho1' ho2 hb1 hb2 hbV2 hbV hot hfam hfit K0 hSA hQA J0 J1 HOT HFA HFI HB HAG
        go_wp2_with (at_builtin; first | (refine Lib.wpList_append_run _ rfl _ _ _ _ rfl _ _ rfl rfl _ _ (HR1.out _) ?_; clear HR1) | (refine Lib.wpList_append_run _ rfl _ _ _ _ rfl _ _ rfl rfl _ _ (HR2.out _) ?_))
        go_ret
        exact HRES.out
end Go.Proofs.Ins
