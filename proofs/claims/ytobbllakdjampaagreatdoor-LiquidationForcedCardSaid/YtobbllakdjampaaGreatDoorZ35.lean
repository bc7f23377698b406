/- The walk of insolvencyref21.Clean (printed by cleangen.py). -/
import Derived.Test.YtobbllakdjampaaGreatDoorZ1
import Derived.Test.YtobbllakdjampaaGreatDoorZ30
import Derived.Test.YtobbllakdjampaaGreatDoorZ34
import Derived.Test.YtobbllakdjampaaGreatDoorZ27

set_option linter.unusedSimpArgs false
set_option linter.unusedVariables false
namespace Go.Proofs.Ins
open Go.RowKit

set_option maxRecDepth 100000 in
set_option maxHeartbeats 6400000 in
theorem rclean_any (p : Nat → Prop) (g : Grp) (ev dv : Value) (w : World) (hE : REsts w p ev g.e) (hD : RDbts w p dv g.d) (hs : SmallG 134217728 g) (hl : LimG g) :
    Calls Tryz.prog 55 #[.agg #[ev, dv]] w (RetGC w (clG g)) := by
  have HCM := Lib.hid (fun i (hi : i < g.e.length) W => (show Calls Tryz.prog 35 #[.agg #[.bool (ix g.e i).m.n, .string (ix g.e i).m.s, .string (ix g.e i).m.d]] W (fun x w' => x = .returned (.agg #[.bool (nR (ix g.e i).m.q).n, .string (nR (ix g.e i).m.q).s, .string (nR (ix g.e i).m.q).d]) ∧ Below W.heap.size W w') from fix_agg _ _ _ W (by have := (hs.e i hi).m.1; omega) (by have := (hs.e i hi).m.2; omega)))
  have HCC := Lib.hid (fun i k (hi : i < g.e.length) (hk : k < (ix g.e i).c.length) W => (show Calls Tryz.prog 35 #[.agg #[.bool (ix (ix g.e i).c k).a.n, .string (ix (ix g.e i).c k).a.s, .string (ix (ix g.e i).c k).a.d]] W (fun x w' => x = .returned (.agg #[.bool (nR (ix (ix g.e i).c k).a.q).n, .string (nR (ix (ix g.e i).c k).a.q).s, .string (nR (ix (ix g.e i).c k).a.q).d]) ∧ Below W.heap.size W w') from fix_agg _ _ _ W (by have := ((hs.e i hi).c k hk).1; omega) (by have := ((hs.e i hi).c k hk).2; omega)))
  have HCA := Lib.hid (fun i q (hi : i < g.e.length) (hq : q < (ix g.e i).a.length) v W (h : RTiers W p v (ix (ix g.e i).a q)) => cleanagr_any p (ix (ix g.e i).a q) v W h (fun j l hj hl2 => (hs.e i hi).a q j l hq hj hl2) ((hl.e i hi).t q hq) (fun j hj => (hl.e i hi).l q j hq hj))
  have HCW := Lib.hid (fun i (hi : i < g.d.length) w => (show Calls Tryz.prog 35 #[.agg #[.bool (ix g.d i).w.n, .string (ix g.d i).w.s, .string (ix g.d i).w.d]] w (fun x w' => x = .returned (.agg #[.bool (nR (ix g.d i).w.q).n, .string (nR (ix g.d i).w.q).s, .string (nR (ix g.d i).w.q).d]) ∧ Below w.heap.size w w') from fix_agg _ _ _ w (by have := (hs.w i hi).1; omega) (by have := (hs.w i hi).2; omega)))
  have HLE := Lib.hid (fun i (hi : i < g.e.length) => (show (ix g.e i).c.length ≤ 24 ∧ (ix g.e i).a.length ≤ 12 from ⟨(hl.e i hi).c, (hl.e i hi).a⟩))
  have HLL := Lib.hid hl.l
  have hle := hl.le
  have hld := hl.ld
  obtain ⟨GE, hSE, hQE⟩ := hE
  obtain ⟨ae, ce, rfl, -, -⟩ := hSE.form
  have HSE := Lib.hid hSE
  have HEL := Lib.hid (REsts.elem hQE)
  obtain ⟨GD, hSD, hQD⟩ := hD
  obtain ⟨ad, cd, rfl, -, -⟩ := hSD.form
  have HSD := Lib.hid hSD
  have HDL := Lib.hid (RDbts.elem hQD)
  unfold RetGC clG
  clear hs hl hSE hQE hSD hQD
  obtain ⟨el, dl⟩ := g
  dsimp only at *
  generalize hne : el.length = ne at *
  generalize hnd : dl.length = nd at *
  go_enter Tryz.func55, Tryz.ntmps55
  go_wp2_with fail
  refine wp_forget (fun W => ∃ z, z = w.heap.size + 1 + 1 ∧ Blk W w.heap.size #[.slice ae ne ce, .slice ad nd cd] ∧ Blk W (w.heap.size + 1) #[.slice none 0 0, .slice none 0 0] ∧ Blk W z #[.slice none 0 0, .slice none 0 0] ∧ Below w.heap.size w W) ⟨_, rfl, three_boxes w _ _ _ _ _ _⟩ ?_
  rintro W5 ⟨z, hz, K0, K1, K2, hb5⟩
  rw [← hz]
  have J0 := Lib.hid K0
  have J1 := Lib.hid K1
  have J2 := Lib.hid K2
  have HB := Lib.hid hb5
  have hyz : w.heap.size + 1 < z := by omega
  clear hz K0 K1 K2 hb5
  go_loopw [4] (fun i wr => ∃ k v, i = .int .i64 (k : Nat) ∧ k ≤ ne ∧ Blk wr w.heap.size #[.slice ae ne ce, .slice ad nd cd] ∧ Blk wr (w.heap.size + 1) #[.slice none 0 0, .slice none 0 0] ∧ Blk wr z #[v, .slice none 0 0] ∧ Hid (NO wr (z + 1) 84 5 QEst v ((el.take k).map clE)) ∧ Below w.heap.size w wr) (fun i _ => ne - (intOf i).toNat)
  case atStart => exact ⟨0, _, rfl, by omega, J0.out, J1.out, J2.out, NO.nil _ _ _ _ _, HB.out⟩
  case round =>
    obtain ⟨k, v, rfl, hk, K0, K1, K2, hno, hbw⟩ := hrel
    have hz2 := K2.lt
    have J0 := Lib.hid K0
    have J1 := Lib.hid K1
    have J2 := Lib.hid K2
    have HNE := Lib.hid hno.out
    have HBE := Lib.hid hbw
    have hzb := hbw.size
    have hlnE : ((el.take k).map clE).length = k := by simp; omega
    obtain ⟨av7, cap7, rfl⟩ := HNE.out.form' hlnE
    have k0 : wr.cell? ⟨w.heap.size, 0, none⟩ = some (.slice ae ne ce) := K0.cell 0
    by_cases hlt : k < ne
    · obtain ⟨b3, off3, rfl, -, -, -⟩ := HSE.out.get (by omega)
      obtain ⟨a2, c2, a3, c3, hge, hC, hA⟩ := HEL.out k hlt
      have d0 := HSE.out.cellAt rfl HBE.out (i := k) (j := 0) hlt (by omega)
      have d1 := HSE.out.cellAt rfl HBE.out (i := k) (j := 1) hlt (by omega)
      have d2 := HSE.out.cellAt rfl HBE.out (i := k) (j := 2) hlt (by omega)
      have d3 := HSE.out.cellAt rfl HBE.out (i := k) (j := 3) hlt (by omega)
      have d4 := HSE.out.cellAt rfl HBE.out (i := k) (j := 4) hlt (by omega)
      rw [hge] at d0 d1 d2 d3 d4
      rw [Nat.add_zero] at d0
      have e0 : wr.cell? ⟨b3, off3 + k * 5, none⟩ = some (.bool (ix el k).m.n) := d0
      have e1 : wr.cell? ⟨b3, off3 + k * 5 + 1, none⟩ = some (.string (ix el k).m.s) := d1
      have e2 : wr.cell? ⟨b3, off3 + k * 5 + 2, none⟩ = some (.string (ix el k).m.d) := d2
      have e3 : wr.cell? ⟨b3, off3 + k * 5 + 3, none⟩ = some (.slice a2 (ix el k).c.length c2) := d3
      have e4 : wr.cell? ⟨b3, off3 + k * 5 + 4, none⟩ = some (.slice a3 (ix el k).a.length c3) := d4
      have HC := Lib.hid (hC.on HBE.out).plain
      have HA0 := Lib.hid (hA.on HBE.out)
      have HCM1 := Lib.hid (HCM.out k hlt)
      have HCC1 := Lib.hid (fun j (hj : j < (ix el k).c.length) W => HCC.out k j hlt hj W)
      have HCA1 := Lib.hid (fun q (hq : q < (ix el k).a.length) v W h => HCA.out k q hlt hq v W h)
      obtain ⟨hlc, hla⟩ := HLE.out k hlt
      have HTK := Lib.hid (show (el.take (k + 1)).map clE = (el.take k).map clE ++ [⟨nR (ix el k).m.q, (ix el k).c.map clC, (ix el k).a.map clA⟩] from take_map_succ clE (l := el) (k := k) (by omega))
      have i1 : (0 : Int) ≤ (k : Int) := by omega
      have i2 : (k : Int) < (ne : Int) := by omega
      clear d0 d1 d2 d3 d4 hge hC hA K0 K1 K2 hno hbw HCM HCC HCA HCW HSE HEL HSD HDL HLE HLL
      generalize (el.take k).map clE = preE at *
      generalize ix el k = E at *
      obtain ⟨⟨mn, ms, md⟩, cl, al⟩ := E
      dsimp only at *
      generalize nR (R3.q ⟨mn, ms, md⟩) = m' at *
      obtain ⟨mn', ms', md'⟩ := m'
      dsimp only at HCM1
      generalize hnc : cl.length = nc at *
      generalize hna : al.length = na at *
      go_wp2_with fail
      refine (HCM1.out _).mono ?_; rintro x w1 ⟨rfl, hb1⟩
      obtain ⟨K5, hbw⟩ := boxes1 hb1
      have J5 := Lib.hid K5
      have HB1 := Lib.hid hbw
      have hz1 := K5.lt
      clear hb1 K5 hbw e0 e1 e2 e3 e4 k0
      go_wp2_with fail
      refine wp_forget (fun W => ∃ y, y = wr.heap.size ∧ ∃ y2, y2 = w1.heap.size ∧ Blk W y #[.bool mn, .string ms, .string md, .slice a2 nc c2, .slice a3 na c3] ∧ Blk W y2 #[.bool mn', .string ms', .string md', .slice none 0 0, .slice none 0 0] ∧ Below wr.heap.size wr W ∧ y2 < W.heap.size) ⟨_, rfl, _, rfl, J5.out.alloc _, Blk.new w1 _ _, HB1.out.alloc (by omega) _, by simp⟩ ?_
      rintro W6 ⟨y, hy, y2, hy2, K3, K4, hb6, hyW⟩
      obtain ⟨wE, rfl⟩ : ∃ wE, wE = wr := ⟨wr, rfl⟩
      rw [← hy, ← hy2]
      have hyy : y < y2 := by omega
      have hzy : z < y := by omega
      have J3 := Lib.hid K3
      have J4 := Lib.hid K4
      have HB6 := Lib.hid hb6
      have hyE1 : wE.heap.size ≤ y := by omega
      clear hy hy2 K3 K4 hb6 J5 HB1 hz1
      go_loopw [7] (fun i wr => ∃ j v, i = .int .i64 (j : Nat) ∧ j ≤ nc ∧ Blk wr y #[.bool mn, .string ms, .string md, .slice a2 nc c2, .slice a3 na c3] ∧ Blk wr y2 #[.bool mn', .string ms', .string md', v, .slice none 0 0] ∧ Hid (NO wr (y2 + 1) 86 5 (fun _ _ => QV C5.c) v ((cl.take j).map clC)) ∧ Below wE.heap.size wE wr) (fun i _ => nc - (intOf i).toNat)
      case atStart => exact ⟨0, _, rfl, by omega, J3.out, J4.out, NO.nil _ _ _ _ _, HB6.out⟩
      case round =>
        obtain ⟨j, v, rfl, hj, K3, K4, hno, hbw⟩ := hrel
        have hzy2 := K4.lt
        have J3 := Lib.hid K3
        have J4 := Lib.hid K4
        have HNO := Lib.hid hno.out
        have HB := Lib.hid hbw
        have hzb6 := hbw.size
        have hlen : ((cl.take j).map clC).length = j := by simp; omega
        obtain ⟨av9, cap9, rfl⟩ := HNO.out.form' hlen
        have k3 : wr.cell? ⟨y, 3, none⟩ = some (.slice a2 nc c2) := K3.cell 3
        by_cases hlj : j < nc
        · obtain ⟨b4, off4, rfl, -, -, -⟩ := HC.out.get (by omega)
          have e0 := HC.out.cellAt rfl HB.out (i := j) (j := 0) hlj (by omega)
          have e1 : wr.cell? ⟨b4, off4 + j * 5 + 1, none⟩ = some (.int .i64 (ix cl j).r) := HC.out.cellAt rfl HB.out (i := j) (j := 1) hlj (by omega)
          have e2 : wr.cell? ⟨b4, off4 + j * 5 + 2, none⟩ = some (.bool (ix cl j).a.n) := HC.out.cellAt rfl HB.out (i := j) (j := 2) hlj (by omega)
          have e3 : wr.cell? ⟨b4, off4 + j * 5 + 3, none⟩ = some (.string (ix cl j).a.s) := HC.out.cellAt rfl HB.out (i := j) (j := 3) hlj (by omega)
          have e4 : wr.cell? ⟨b4, off4 + j * 5 + 4, none⟩ = some (.string (ix cl j).a.d) := HC.out.cellAt rfl HB.out (i := j) (j := 4) hlj (by omega)
          rw [Nat.add_zero] at e0
          have e0' : wr.cell? ⟨b4, off4 + j * 5, none⟩ = some (.int .i64 (ix cl j).h) := e0
          have HCK := Lib.hid (HCC1.out j hlj)
          have HTK2 := Lib.hid (show (cl.take (j + 1)).map clC = (cl.take j).map clC ++ [⟨(ix cl j).h, (ix cl j).r, nR (ix cl j).a.q⟩] from take_map_succ clC (l := cl) (k := j) (by omega))
          have i3 : (0 : Int) ≤ (j : Int) := by omega
          have i4 : (j : Int) < (nc : Int) := by omega
          clear e0 K3 K4 hno hbw HCC1 HCA1 HCM1 HA0 HTK HNE J0 J1 J2 HB6
          generalize (cl.take j).map clC = pre at *
          generalize ix cl j = P at *
          obtain ⟨h, r, ⟨an, as', ad⟩⟩ := P
          dsimp only at e0' e1 e2 e3 e4 HCK HTK2
          generalize nR (R3.q ⟨an, as', ad⟩) = a' at *
          obtain ⟨n', s', d'⟩ := a'
          dsimp only at HCK
          go_wp2_with fail
          refine (HCK.out _).mono ?_; rintro x w3 ⟨rfl, hb3⟩
          obtain ⟨K5, hbw⟩ := boxes1 hb3
          have h5 : wr.heap.size < w3.heap.size := K5.lt
          have J3 := Lib.hid (J3.out.on hbw)
          have J4 := Lib.hid (J4.out.on hbw)
          obtain ⟨v9, w9, hr9, hno9, hb9⟩ := NO.app qkeep_c5 (w := ((w3.setCell ⟨wr.heap.size, 2, none⟩ (.bool n')).setCell ⟨wr.heap.size, 3, none⟩ (.string s')).setCell ⟨wr.heap.size, 4, none⟩ (.string d')) (t := 81) (E := [.int .i64 h, .int .i64 r, .bool n', .string s', .string d']) (x := ⟨h, r, ⟨n', s', d'⟩⟩) HNO.out
            (((hbw.setCell (Nat.le_refl _) _).setCell (Nat.le_refl _) _).setCell (Nat.le_refl _) _) rfl Tryz.underlying81 claimInfo (by omega) rfl (c5_one ⟨h, r, ⟨n', s', d'⟩⟩) (by omega) (by omega) (by omega)
          obtain ⟨a99, cap99, rfl⟩ := hno9.form
          generalize (pre ++ [(⟨h, r, ⟨n', s', d'⟩⟩ : C5)]).length = n99 at *
          simp only [World.size_setCell] at hr9
          have HR9 := Lib.hid hr9
          clear hr9
          have HB5 := Lib.hid (((hbw.setCell (Nat.le_refl _) (p := ⟨wr.heap.size, 2, none⟩) (.bool n')).setCell (Nat.le_refl _) (p := ⟨wr.heap.size, 3, none⟩) (.string s')).setCell (Nat.le_refl _) (p := ⟨wr.heap.size, 4, none⟩) (.string d'))
          have HB9 := Lib.hid (HB.out.trans ((HB5.out.mono hzb6).trans (hb9.mono (by omega))))
          have M3 := Lib.hid ((J3.out.setOther ⟨wr.heap.size, 2, none⟩ (.bool n') (by simp; omega)).setOther ⟨wr.heap.size, 3, none⟩ (.string s') (by simp; omega) |>.setOther ⟨wr.heap.size, 4, none⟩ (.string d') (by simp; omega) |>.below hb9 (by omega))
          have M4 := (J4.out.setOther ⟨wr.heap.size, 2, none⟩ (.bool n') (by simp; omega)).setOther ⟨wr.heap.size, 3, none⟩ (.string s') (by simp; omega) |>.setOther ⟨wr.heap.size, 4, none⟩ (.string d') (by simp; omega) |>.below hb9 (by omega)
          have f9 := M4.frozen 3
          have MS := Lib.hid (M4.set 3 (.slice a99 n99 cap99))
          have HN9 := Lib.hid (hno9.setCell qkeep_c5 ⟨y2, 3, none⟩ (.slice a99 n99 cap99) (by simp))
          have n0 : w3.cell? ⟨wr.heap.size, 0, none⟩ = some (.int .i64 h) := K5.cell 0
          have n1 : w3.cell? ⟨wr.heap.size, 1, none⟩ = some (.int .i64 r) := K5.cell 1
          have n2 := K5.frozen 2
          have n3 := K5.frozen 3
          have n4 := K5.frozen 4
          have n5 : w3.cell? ⟨wr.heap.size, 2, none⟩ = some (.bool an) := K5.cell 2
          have n6 : w3.cell? ⟨wr.heap.size, 3, none⟩ = some (.string as') := K5.cell 3
          have n7 : w3.cell? ⟨wr.heap.size, 4, none⟩ = some (.string ad) := K5.cell 4
          have n8 : w3.cell? ⟨y2, 3, none⟩ = some (.slice av9 j cap9) := J4.out.cell 3
          have n9 : w9.cell? ⟨y2, 3, none⟩ = some (.slice av9 j cap9) := M4.cell 3
          clear hb3 hbw hno9 hb9 K5 M4 e0' e1 e2 e3 e4 k3
          go_wp2_with (at_builtin; refine Lib.wpList_append_run _ rfl _ _ _ _ rfl _ _ rfl rfl _ _ (HR9.out _) ?_)
          go_roundw
          case rel => exact ⟨j + 1, .slice a99 n99 cap99, by go_num, by omega, M3.out.setOther _ _ (by simp; omega), MS.out, by rw [HTK2.out]; exact HN9, HB9.out.setCell (by simp; omega) _⟩
          case measure => simp [intOf]; omega
        · obtain rfl : j = nc := by omega
          have hnl9 : decide ((j : Int) < (j : Int)) = false := by simp
          have hfull : (cl.take j).map clC = cl.map clC := by rw [← hnc, List.take_length]
          rw [hfull] at HNO
          have HV := Lib.hid (show RClaims wr (Fr (y2 + 1) wr) _ (cl.map clC) from HNO.out.toRL qkeep_c5)
          obtain ⟨M, hM⟩ : ∃ M, M = wr.heap.size := ⟨_, rfl⟩
          have hMz : y2 < M := by omega
          have HV2 := Lib.hid (show RClaims wr (fun b => y2 + 1 ≤ b ∧ b < M) (.slice av9 j cap9) (cl.map clC) from by rw [hM]; exact HV.out)
          have hMw : M ≤ wr.heap.size := by omega
          obtain ⟨GA, hSA, hQA⟩ := HA0.out
          rw [hna] at hSA hQA
          have HSA := Lib.hid hSA
          have HQA := Lib.hid hQA
          clear HV HNO K3 K4 hno hbw HCC1 HC hfull hlen hlj hM hSA hQA HA0
          go_wp2_with fail
          clear k3
          go_loopw [9] (fun i wr => ∃ q v2, i = .int .i64 (q : Nat) ∧ q ≤ na ∧ Blk wr y #[.bool mn, .string ms, .string md, .slice a2 j c2, .slice a3 na c3] ∧ Blk wr y2 #[.bool mn', .string ms', .string md', .slice av9 j cap9, v2] ∧ Hid (NO wr M 115 1 QAgr v2 ((al.take q).map clA)) ∧ Hid (RClaims wr (fun b => y2 + 1 ≤ b ∧ b < M) (.slice av9 j cap9) (cl.map clC)) ∧ Below wE.heap.size wE wr ∧ M ≤ wr.heap.size) (fun i _ => na - (intOf i).toNat)
          case atStart => exact ⟨0, _, rfl, by omega, J3.out, J4.out, NO.nil _ _ _ _ _, HV2, HB.out, hMw⟩
          case round =>
            obtain ⟨q, v2, rfl, hq, K3, K4, hno, hv, hbw, hMw⟩ := hrel
            have hzy3 := K4.lt
            have J3 := Lib.hid K3
            have J4 := Lib.hid K4
            have HNO := Lib.hid hno.out
            have HV := Lib.hid hv.out
            have HB := Lib.hid hbw
            have hzb7 := hbw.size
            have hln2 : ((al.take q).map clA).length = q := by simp; omega
            obtain ⟨av8, cap8, rfl⟩ := HNO.out.form' hln2
            have k4 : wr.cell? ⟨y, 4, none⟩ = some (.slice a3 na c3) := K3.cell 4
            clear HV2
            by_cases hlq : q < na
            · obtain ⟨ba, offa, rfl, -, -, -⟩ := HSA.out.get (by omega)
              obtain ⟨tv0, hga, hRT⟩ := HQA.out q (by omega)
              obtain ⟨at2, lt2, ct2, rfl⟩ : ∃ a n c, tv0 = .slice a n c := by obtain ⟨G, hS, -⟩ := hRT; obtain ⟨x, y, h, -, -⟩ := hS.form; exact ⟨x, _, y, h⟩
              have c0 := HSA.out.cellAt rfl HB.out (i := q) (j := 0) (by omega) (by omega)
              rw [hga, Nat.mul_one, Nat.add_zero] at c0
              have c0' : wr.cell? ⟨ba, offa + q, none⟩ = some (Value.slice at2 lt2 ct2) := c0
              have hba : ba < wr.heap.size := block_lt_of_cell c0'
              have HCK := Lib.hid (fun W h => HCA1.out q (by omega) (.slice at2 lt2 ct2) W h)
              have HRT := Lib.hid (hRT.on HB.out)
              have HTK2 := Lib.hid (show (al.take (q + 1)).map clA = (al.take q).map clA ++ [clA (ix al q)] from take_map_succ clA (l := al) (k := q) (by omega))
              have i3 : (0 : Int) ≤ (q : Int) := by omega
              have i4 : (q : Int) < (na : Int) := by omega
              have s1 := exc_but_cell (K4.cell 4) (rfl : _ = y2)
              have s3 := exc_but_cell (K3.cell 4) (rfl : _ = y)
              have s6 := exc_but_cell c0' (rfl : _ = ba)
              clear c0 c0' hga hRT K3 K4 hno hv hbw HCA1 HCM1 HTK HNE J0 J1 J2 HB6 HSA HQA
              generalize (al.take q).map clA = pre at *
              generalize ix al q = A at *
              go_wp2_with fail
              clear k4
              obtain ⟨wA, rfl⟩ : ∃ wA, wA = wr := ⟨wr, rfl⟩
              obtain ⟨S, hS⟩ : ∃ S : Nat → World → Prop, S = fun k => if k = 1 then Exc wA (butB y2) else if k = 3 then Exc wA (butB y) else if k = 6 then Exc wA (butB ba) else fun _ => True := ⟨_, rfl⟩
              have S0 : S 0 = fun _ => True := by subst hS; rfl
              have S1 : S 1 = Exc wA (butB y2) := by subst hS; rfl
              have S2 : S 2 = fun _ => True := by subst hS; rfl
              have S3 : S 3 = Exc wA (butB y) := by subst hS; rfl
              have S4 : S 4 = fun _ => True := by subst hS; rfl
              have S5 : S 5 = fun _ => True := by subst hS; rfl
              have S6 : S 6 = Exc wA (butB ba) := by subst hS; rfl
              have S10 : S 10 = fun _ => True := by subst hS; rfl
              have hSK : ∀ k, k ∉ [1, 3, 6] → ∀ w, S k w := fun k hk w => by subst hS; simp at hk; simp [hk]
              have hSW : ∀ k, S k wA.drew := fun k => by
                by_cases h1 : k = 1
                · subst h1; rw [S1]; exact exc_but rfl rfl rfl (Nat.le_refl _) rfl
                · by_cases h2 : k = 3
                  · subst h2; rw [S3]; exact exc_but rfl rfl rfl (Nat.le_refl _) rfl
                  · by_cases h3 : k = 6
                    · subst h3; rw [S6]; exact exc_but rfl rfl rfl (Nat.le_refl _) rfl
                    · exact hSK k (by simp [h1, h2, h3]) _
              clear hS
              have HS1 := Lib.hid S1
              have HS3 := Lib.hid S3
              refine wp_region_segsN S [7, 8, 9, 11] [1, 3, 6] [([0, 1, 2, 3, 4, 5, 6], 7, [1, 3]), ([], 8, [1, 3]), ([], 9, [3]), ([10], 11, [])] [] (by kernel_rfl) (by kernel_rfl) (by kernel_rfl) (by kernel_rfl) hSK hSW ?_
              refine wpSegsN_cons ?_
              repeat (refine wpQS_cons ?_; simp only [getOps, gl9]; (try simp only [S0, S1, S2, S3, S4, S5, S6]); (first | go_big_quiet_skip | (refine wpQuiet_step (fun K hK => ?_); go_simp; (try simp (disch := omega) only [ar9]); (first | (refine hK _ ?_; clear hK K) | (simp (disch := omega) only [if_pos, dif_pos, if_neg, dif_neg, ar9]; go_simp; refine hK _ ?_; clear hK K)))); refine wpQuiet_nil ?_)
              with_reducible refine wpQS_nil ?_
              (try simp only [getOps, gl9])
              go_step
              rename_i K9 hK9
              refine (HCK.out _ (HRT.out.keep (w' := wA.drew) ⟨fun _ _ _ => rfl⟩ fun _ h => h)).mono ?_
              rintro e w1 ⟨av', rfl, ha', hb1⟩
              have hbW : Below wA.heap.size wA w1 := chain (Below.refl wA.heap.size wA).drew hb1 (Nat.le_refl _)
              obtain ⟨x3, l3, x4, rfl⟩ : ∃ a n c, av' = .slice a n c := by obtain ⟨G, hS, -⟩ := ha'; obtain ⟨x, y, h, -, -⟩ := hS.form; exact ⟨x, _, y, h⟩
              have hzs := hbW.size
              obtain ⟨v9, w9, hr9, hno9, hb9⟩ := NO.app qkeep_agr (w0 := wA) (w := w1) (t := 82) (E := [.slice x3 l3 x4]) (x := clA A) HNO.out hbW ⟨_, rfl, ha'⟩ Tryz.underlying82 agrInfo (by omega) rfl (by simp [Value.oneCell']) (by omega) (by omega) (by omega)
              obtain ⟨a99, cap99, rfl⟩ := hno9.form
              generalize (pre ++ [clA A]).length = n99 at *
              have M8 := (J4.out.on hbW).below hb9 (by omega)
              have c9 : w9.cell? ⟨y2, 4, none⟩ = some (.slice av8 q cap8) := M8.cell 4
              have f9 := M8.frozen 4
              have MS := Lib.hid (M8.set 4 (.slice a99 n99 cap99))
              have P3 := Lib.hid (((J3.out.on hbW).below hb9 (by omega)).setOther ⟨y2, 4, none⟩ (.slice a99 n99 cap99) (by simp; omega))
              have HN9 := Lib.hid (hno9.setCell qkeep_agr ⟨y2, 4, none⟩ (.slice a99 n99 cap99) (by simp; omega))
              have hz9 := hb9.size
              have HB9 := Lib.hid ((HB.out.trans ((hbW.mono (by omega)).trans (hb9.mono (by omega)))).setCell (p := ⟨y2, 4, none⟩) (by simp; omega) (.slice a99 n99 cap99))
              have HVE := Lib.hid (HV.out.keep (w' := w9.setCell ⟨y2, 4, none⟩ (.slice a99 n99 cap99)) (q := fun b => y2 + 1 ≤ b ∧ b < M) ⟨fun b hb hl => by
                have := hb.1; have := hb.2
                rw [heap_setCell_other _ _ _ _ (by simp; omega), hb9.block b hb.2, hbW.block b (by omega)]⟩ fun _ h => h)
              have HR9 := Lib.hid hr9
              have HW1 := Lib.hid hbW
              have HY9 := Lib.hid (hb9.block y (by omega))
              have HX9 := Lib.hid (show w9.os = w1.os ∧ w9.tape = w1.tape ∧ w9.output = w1.output from ⟨hb9.os, hb9.tape, hb9.output⟩)
              clear hr9 hno9 hb9 hb1 ha' M8 hbW
              refine hK9 _ _ ?_
              clear hK9 K9
              refine segQ_normal ⟨fun k hk => by
                simp at hk
                rcases hk with hk | hk
                · subst hk; rw [HS1.out]; exact exc_but HW1.out.os HW1.out.tape HW1.out.output HW1.out.size (HW1.out.block y2 (by omega))
                · subst hk; rw [HS3.out]; exact exc_but HW1.out.os HW1.out.tape HW1.out.output HW1.out.size (HW1.out.block y (by omega)), ?_⟩
              refine wpSegsN_cons ?_
              repeat (refine wpQS_cons ?_; simp only [getOps, gl9]; (first | go_big_quiet_skip | (refine wpQuiet_step (fun K hK => ?_); go_simp; (try simp (disch := omega) only [ar9]); (first | (refine hK _ ?_; clear hK K) | (simp (disch := omega) only [if_pos, dif_pos, if_neg, dif_neg, ar9]; go_simp; refine hK _ ?_; clear hK K)))); refine wpQuiet_nil ?_)
              with_reducible refine wpQS_nil ?_
              (try simp only [getOps, gl9])
              go_step
              rename_i K9 hK9
              refine hK9 _ _ ?_
              clear hK9 K9
              have hwa := HW1.out.alloc hzs (.cells #[.slice x3 l3 x4] 115)
              refine segQ_normal ⟨fun k hk => by
                simp at hk
                rcases hk with hk | hk
                · subst hk; rw [HS1.out]; exact exc_but hwa.os hwa.tape hwa.output hwa.size (hwa.block y2 (by omega))
                · subst hk; rw [HS3.out]; exact exc_but hwa.os hwa.tape hwa.output hwa.size (hwa.block y (by omega)), ?_⟩
              clear hwa
              refine wpSegsN_cons ?_
              repeat (refine wpQS_cons ?_; simp only [getOps, gl9]; (first | go_big_quiet_skip | (refine wpQuiet_step (fun K hK => ?_); go_simp; (try simp (disch := omega) only [ar9]); (first | (refine hK _ ?_; clear hK K) | (simp (disch := omega) only [if_pos, dif_pos, if_neg, dif_neg, ar9]; go_simp; refine hK _ ?_; clear hK K)))); refine wpQuiet_nil ?_)
              with_reducible refine wpQS_nil ?_
              (try simp only [getOps, gl9])
              refine Lib.wpList_append_run _ rfl _ _ _ _ rfl _ _ rfl rfl _ _ (HR9.out _) ?_
              refine segQ_normal ⟨fun k hk => by
                simp at hk; subst hk; rw [HS3.out]
                exact exc_but (HX9.out.1.trans HW1.out.os) (HX9.out.2.1.trans HW1.out.tape) (HX9.out.2.2.trans HW1.out.output) (by omega) (HY9.out.trans (HW1.out.block y (by omega))), ?_⟩
              refine wpSegsN_cons ?_
              repeat (refine wpQS_cons ?_; simp only [getOps, gl9]; (try simp only [S10]); (first | go_big_quiet_skip | (refine wpQuiet_step (fun K hK => ?_); go_simp; (try simp (disch := omega) only [ar9]); (first | (refine hK _ ?_; clear hK K) | (simp (disch := omega) only [if_pos, dif_pos, if_neg, dif_neg, ar9]; go_simp; refine hK _ ?_; clear hK K)))); refine wpQuiet_nil ?_)
              with_reducible refine wpQS_nil ?_
              (try simp only [getOps, gl9])
              go_step
              rename_i K9 hK9
              refine hK9 _ _ ?_
              clear hK9 K9
              refine segQ_normal ⟨fun k hk => by simp at hk, ?_⟩
              refine wpSegsN_nil ?_
              repeat (refine wpQS_cons ?_; simp only [getOps, gl9]; (first | go_big_quiet_skip | (refine wpQuiet_step (fun K hK => ?_); go_simp; (try simp (disch := omega) only [ar9]); (first | (refine hK _ ?_; clear hK K) | (simp (disch := omega) only [if_pos, dif_pos, if_neg, dif_neg, ar9]; go_simp; refine hK _ ?_; clear hK K)))); refine wpQuiet_nil ?_)
              with_reducible refine wpQS_nil ?_
              go_wp2
              go_roundw
              case rel => exact ⟨q + 1, .slice a99 n99 cap99, by go_num, by omega, P3.out, MS.out, by rw [HTK2.out]; exact HN9, HVE, HB9.out, by simp only [World.size_setCell]; omega⟩
              case measure => simp [intOf]; omega
            · obtain rfl : q = na := by omega
              have hnl9 : decide ((q : Int) < (q : Int)) = false := by simp
              have hfull : (al.take q).map clA = al.map clA := by rw [← hna, List.take_length]
              rw [hfull] at HNO
              have hAg : RAgrs wr (Fr M wr) (.slice av8 q cap8) (al.map clA) := HNO.out.toRL qkeep_agr
              have hAg2 : RAgrs wr (Fr wE.heap.size wr) (.slice av8 q cap8) (al.map clA) := hAg.keep ⟨fun _ _ _ => rfl⟩ fun b hb => ⟨by have := hb.1; omega, hb.2⟩
              have hCl2 : RClaims wr (Fr wE.heap.size wr) (.slice av9 j cap9) (cl.map clC) := HV.out.keep ⟨fun _ _ _ => rfl⟩ fun b hb => ⟨by have := hb.1; omega, by have := hb.2; omega⟩
              obtain ⟨v9, w9, hr9, hno9, hb9⟩ := NO.app qkeep_est (w0 := wE) (w := wr) (t := 56) (E := [.bool mn', .string ms', .string md', .slice av9 j cap9, .slice av8 q cap8]) (x := ⟨⟨mn', ms', md'⟩, cl.map clC, al.map clA⟩) HNE.out HB.out ⟨_, _, rfl, hCl2, hAg2⟩ Tryz.underlying56 estInfo (by omega) rfl (by simp [Value.oneCell']) (by omega) (by omega) (by omega)
              obtain ⟨a99, cap99, rfl⟩ := hno9.form
              generalize (preE ++ [(⟨⟨mn', ms', md'⟩, cl.map clC, al.map clA⟩ : Est)]).length = n99 at *
              have N2 := J2.out.on HB.out
              have g2 : wr.cell? ⟨z, 0, none⟩ = some (.slice av7 k cap7) := N2.cell 0
              have M8 := N2.below hb9 (by omega)
              have c9 : w9.cell? ⟨z, 0, none⟩ = some (.slice av7 k cap7) := M8.cell 0
              have f9 := M8.frozen 0
              have MS := Lib.hid (M8.set 0 (.slice a99 n99 cap99))
              have P0 := Lib.hid (((J0.out.on HB.out).below hb9 (by omega)).setOther ⟨z, 0, none⟩ (.slice a99 n99 cap99) (by simp; omega))
              have P1 := Lib.hid (((J1.out.on HB.out).below hb9 (by omega)).setOther ⟨z, 0, none⟩ (.slice a99 n99 cap99) (by simp; omega))
              have HN9 := Lib.hid (hno9.setCell qkeep_est ⟨z, 0, none⟩ (.slice a99 n99 cap99) (by simp))
              have HB9 := Lib.hid ((HBE.out.trans ((HB.out.mono (by omega)).trans (hb9.mono (by omega)))).setCell (p := ⟨z, 0, none⟩) (by simp; omega) (.slice a99 n99 cap99))
              have x0 : wr.cell? ⟨y2, 0, none⟩ = some (.bool mn') := K4.cell 0
              have x1 : wr.cell? ⟨y2, 1, none⟩ = some (.string ms') := K4.cell 1
              have x2 : wr.cell? ⟨y2, 2, none⟩ = some (.string md') := K4.cell 2
              have x3 : wr.cell? ⟨y2, 3, none⟩ = some (.slice av9 j cap9) := K4.cell 3
              have x4 : wr.cell? ⟨y2, 4, none⟩ = some (.slice av8 q cap8) := K4.cell 4
              have HR9 := Lib.hid hr9
              clear hr9 hno9 hb9 M8 N2 hAg hAg2 hCl2 K3 K4 hno hv hbw hfull
              go_wp2_with (at_builtin; refine Lib.wpList_append_run _ rfl _ _ _ _ rfl _ _ rfl rfl _ _ (HR9.out _) ?_)
              go_roundw
              case rel => exact ⟨k + 1, .slice a99 n99 cap99, by go_num, by omega, P0.out, P1.out, MS.out, by rw [HTK.out]; exact HN9, HB9.out⟩
              case measure => simp [intOf]; omega
    · obtain rfl : k = ne := by omega
      have hnl9 : decide ((k : Int) < (k : Int)) = false := by simp
      have hfull : (el.take k).map clE = el.map clE := by rw [← hne, List.take_length]
      rw [hfull] at HNE
      obtain ⟨w2, rfl⟩ : ∃ w2, w2 = wr := ⟨wr, rfl⟩
      have HB2 := Lib.hid HBE.out
      have HOL := Lib.hid (fun b (hb : (Value.slice av7 k cap7).ownBlock = some b) => (NO.own_lt HNE.out hb).2)
      clear K0 K1 K2 hno hbw HCM HCC HCA HSE HEL hlnE hfull HBE HLE
      go_wp2_with fail
      clear k0
      go_loopw [10] (fun i wr => ∃ j v, i = .int .i64 (j : Nat) ∧ j ≤ nd ∧ Blk wr w.heap.size #[.slice ae k ce, .slice ad nd cd] ∧ Blk wr (w.heap.size + 1) #[.slice none 0 0, .slice none 0 0] ∧ Blk wr z #[.slice av7 k cap7, v] ∧ Hid (NO wr w2.heap.size 96 4 QDbt v ((dl.take j).map clD)) ∧ Hid (∀ b, z + 1 ≤ b → b < w2.heap.size → wr.heap[b]? = w2.heap[b]?) ∧ Below w.heap.size w wr ∧ w2.heap.size ≤ wr.heap.size) (fun i _ => nd - (intOf i).toNat)
      case atStart => exact ⟨0, _, rfl, by omega, J0.out, J1.out, J2.out, NO.nil _ _ _ _ _, fun _ _ _ => rfl, HB2.out, Nat.le_refl _⟩
      case round =>
        obtain ⟨j, v, rfl, hj, K0, K1, K2, hno, hkk, hbw, hwz⟩ := hrel
        have hz3 := K2.lt
        have J0 := Lib.hid K0
        have J1 := Lib.hid K1
        have J2 := Lib.hid K2
        have HND := Lib.hid hno.out
        have HKK := Lib.hid hkk.out
        have HB := Lib.hid hbw
        have hzb3 := hbw.size
        have hln : ((dl.take j).map clD).length = j := by simp; omega
        obtain ⟨bv9, bap9, rfl⟩ := HND.out.form' hln
        have k1 : wr.cell? ⟨w.heap.size, 1, none⟩ = some (.slice ad nd cd) := K0.cell 1
        by_cases hlt : j < nd
        · obtain ⟨b3, off3, rfl, -, -, -⟩ := HSD.out.get (by omega)
          obtain ⟨a2, c2, hge, hL⟩ := HDL.out j hlt
          have d0 := HSD.out.cellAt rfl HB.out (i := j) (j := 0) hlt (by omega)
          have d1 := HSD.out.cellAt rfl HB.out (i := j) (j := 1) hlt (by omega)
          have d2 := HSD.out.cellAt rfl HB.out (i := j) (j := 2) hlt (by omega)
          have d3 := HSD.out.cellAt rfl HB.out (i := j) (j := 3) hlt (by omega)
          rw [hge] at d0 d1 d2 d3
          rw [Nat.add_zero] at d0
          have e0 : wr.cell? ⟨b3, off3 + j * 4, none⟩ = some (.bool (ix dl j).w.n) := d0
          have e1 : wr.cell? ⟨b3, off3 + j * 4 + 1, none⟩ = some (.string (ix dl j).w.s) := d1
          have e2 : wr.cell? ⟨b3, off3 + j * 4 + 2, none⟩ = some (.string (ix dl j).w.d) := d2
          have e3 : wr.cell? ⟨b3, off3 + j * 4 + 3, none⟩ = some (.slice a2 (ix dl j).l.length c2) := d3
          have HCK := Lib.hid (fun W => HCW.out j hlt W)
          have HL := Lib.hid (hL.on HB.out)
          have hl8 := HLL.out j hlt
          have HTK := Lib.hid (show (dl.take (j + 1)).map clD = (dl.take j).map clD ++ [⟨nR (ix dl j).w.q, (ix dl j).l⟩] from take_map_succ clD (l := dl) (k := j) (by omega))
          have i1 : (0 : Int) ≤ (j : Int) := by omega
          have i2 : (j : Int) < (nd : Int) := by omega
          clear d0 d1 d2 d3 hge hL K0 K1 K2 hno hbw hkk HCW HSD HDL HNE HOL HLL
          generalize (dl.take j).map clD = pre at *
          generalize ix dl j = D at *
          obtain ⟨⟨mn, ms, md⟩, ll⟩ := D
          dsimp only at e0 e1 e2 e3 HCK HL HTK hl8
          generalize nR (R3.q ⟨mn, ms, md⟩) = m' at *
          obtain ⟨n', s', d'⟩ := m'
          dsimp only at HCK
          generalize hnl : ll.length = nl at *
          go_wp2_with fail
          clear k1
          refine wp_forget (fun W => ∃ y, y = wr.heap.size ∧ W.heap.size = y + 1 ∧ Blk W y #[.bool mn, .string ms, .string md, .slice a2 nl c2] ∧ Blk W w.heap.size #[.slice ae k ce, .slice (some ⟨b3, off3, none⟩) nd cd] ∧ Blk W (w.heap.size + 1) #[.slice none 0 0, .slice none 0 0] ∧ Blk W z #[.slice av7 k cap7, .slice bv9 j bap9] ∧ Hid (NO W w2.heap.size 96 4 QDbt (.slice bv9 j bap9) pre) ∧ Hid (RLegs W p (.slice a2 nl c2) ll) ∧ Hid (∀ b, z + 1 ≤ b → b < w2.heap.size → W.heap[b]? = w2.heap[b]?) ∧ Below w.heap.size w W)
            ⟨_, rfl, by simp, Blk.new wr _ _, J0.out.alloc _, J1.out.alloc _, J2.out.alloc _, HND.out.on qkeep_dbt ((Below.refl _ _).alloc (Nat.le_refl _) _), HL.out.on ((Below.refl _ _).alloc (Nat.le_refl _) _), fun b hb hb2 => (Below.heap_alloc wr _ b (by omega)).trans (HKK.out b hb hb2), HB.out.alloc (by omega) _⟩ ?_
          rintro W ⟨y, hy, hyW, K5, K0, K1, K2, hno, hL, hkk, hbw⟩
          rw [← hy]
          have hwy : w2.heap.size ≤ y := by omega
          have hzy : z < y := by omega
          have J0 := Lib.hid K0
          have J1 := Lib.hid K1
          have J2 := Lib.hid K2
          have HND := Lib.hid hno.out
          have HKK := Lib.hid hkk.out
          have HL := Lib.hid hL.out
          have HB := Lib.hid hbw
          have c0 := exc_but_cell (K2.cell 1) (rfl : _ = z)
          have c1 := exc_but_cell (K5.cell 0) (rfl : _ = y)
          have c2' := exc_but_cell (K5.cell 1) (rfl : _ = y)
          have c3' := exc_but_cell (K5.cell 2) (rfl : _ = y)
          have c4 := exc_but_cell (K5.cell 3) (rfl : _ = y)
          clear hy e0 e1 e2 e3 K0 K1 K2 K5 hno hL hbw hkk
          obtain ⟨S, hS⟩ : ∃ S : Nat → World → Prop, S = fun k => if k = 1 then Exc W (butB z) else if k = 3 ∨ k = 7 then Exc W (butB y) else fun _ => True := ⟨_, rfl⟩
          have S0 : S 0 = fun _ => True := by subst hS; rfl
          have S1 : S 1 = Exc W (butB z) := by subst hS; rfl
          have S2 : S 2 = fun _ => True := by subst hS; rfl
          have S3 : S 3 = Exc W (butB y) := by subst hS; rfl
          have S6 : S 6 = fun _ => True := by subst hS; rfl
          have S7 : S 7 = Exc W (butB y) := by subst hS; rfl
          have S9 : S 9 = fun _ => True := by subst hS; rfl
          have S12 : S 12 = fun _ => True := by subst hS; rfl
          have hSK : ∀ k, k ∉ [1, 3, 7] → ∀ w, S k w := fun k hk w => by subst hS; simp at hk; simp [hk]
          have hSX : ∀ k W', Below W.heap.size W W' → S k W' := fun k W' h => by
            by_cases h1 : k = 1
            · subst h1; rw [S1]; exact exc_but h.os h.tape h.output h.size (h.block z (by omega))
            · by_cases h2 : k = 3
              · subst h2; rw [S3]; exact exc_but h.os h.tape h.output h.size (h.block y (by omega))
              · by_cases h3 : k = 7
                · subst h3; rw [S7]; exact exc_but h.os h.tape h.output h.size (h.block y (by omega))
                · exact hSK k (by simp [h1, h2, h3]) _
          have hSW : ∀ k, S k W.drew := fun k => hSX k _ (Below.refl _ _).drew
          clear hS
          have HSX := Lib.hid hSX
          refine wp_region_nt S [4, 5, 8, 10, 11, 13] [1, 3, 7] (.two [0, 1, 2, 3, 6, 7] 4 [1, 7] (.one [] 5 [1, 7] (.one [] 8 [1] (.one [9] 10 [1] (.one [] 11 [] (.one [12] 13 [] (.fin [])))))) 5 [1, 3, 7] (.one [] 4 [1, 7] (.one [] 8 [1] (.one [9] 10 [1] (.one [] 11 [] (.one [12] 13 [] (.fin []))))))) (by kernel_rfl) (by kernel_rfl) (by kernel_rfl) (by kernel_rfl) hSK hSW ?_
          clear hSX
          refine wpNT_two ?_
          repeat (refine wpQS_cons ?_; simp only [getOps, gl9]; (try simp only [S0, S1, S2, S3, S6, S7]); (first | go_big_quiet_skip | (refine wpQuiet_step (fun K hK => ?_); go_simp; (try simp (disch := omega) only [ar9]); (first | (refine hK _ ?_; clear hK K) | (simp (disch := omega) only [if_pos, dif_pos, if_neg, dif_neg, ar9]; go_simp; refine hK _ ?_; clear hK K)))); refine wpQuiet_nil ?_)
          with_reducible refine wpQS_nil ?_
          (try simp only [getOps, gl9])
          refine ⟨?_, ?_⟩
          · go_step
            rename_i K9 hK9
            refine (HCK.out _).mono ?_
            rintro e w1 ⟨rfl, hb1⟩
            have HW1 := Lib.hid (chain (Below.refl W.heap.size W).drew hb1 (Nat.le_refl _))
            have hzs := HW1.out.size
            clear hb1
            refine hK9 _ _ ?_
            clear hK9 K9
            refine segQ_normal ⟨fun k hk => HSX.out k _ HW1.out, ?_⟩
            refine wpNT_one ?_
            repeat (refine wpQS_cons ?_; simp only [getOps, gl9]; (first | go_big_quiet_skip | (refine wpQuiet_step (fun K hK => ?_); go_simp; (try simp (disch := omega) only [ar9]); (first | (refine hK _ ?_; clear hK K) | (simp (disch := omega) only [if_pos, dif_pos, if_neg, dif_neg, ar9]; go_simp; refine hK _ ?_; clear hK K)))); refine wpQuiet_nil ?_)
            with_reducible refine wpQS_nil ?_
            (try simp only [getOps, gl9])
            go_step
            rename_i K9 hK9
            refine hK9 _ _ ?_
            clear hK9 K9
            have HW2 := Lib.hid (HW1.out.alloc hzs (.cells #[] 118))
            have hown : SOwn (w1.alloc (.cells #[] 118)) W.heap.size 118 2 (.slice (some ⟨w1.heap.size, 0, none⟩) 0 0) 0 (fun _ => []) := SOwn.mono ⟨World.ownsRow_made w1 #[] 0 (Nat.le_refl _) (Nat.zero_le _) rfl, fun i hi => by omega⟩ hzs
            have HOW := Lib.hid hown
            refine segQ_normal ⟨fun k hk => HSX.out k _ HW2.out, ?_⟩
            refine wpNT_forget (fun W' => ∃ eb, eb = w1.heap.size ∧ SOwn W' W.heap.size 118 2 (.slice (some ⟨eb, 0, none⟩) 0 0) 0 (fun _ => []) ∧ Below W.heap.size W W') ⟨_, rfl, HOW.out, HW2.out⟩ ?_
            rintro w6 ⟨eb, heb, hown, hbW⟩
            rw [← heb]
            clear heb HW2 HOW HW1 hzs
            have hzs6 := hbW.size
            have hlw := (HL.out.on hbW).plain
            rw [hnl] at hlw
            obtain ⟨v4, w4, hr4, ho4, hb4⟩ := append_sl (t := 94) Tryz.underlying94 legInfo (by omega) hown hlw (fun i hi u hu => lg_one _ u hu) (by omega) (by omega) (by omega)
            have ho4' : SOwn w4 W.heap.size 118 2 v4 ll.length (fun i => (ix ll i).c) := by rw [hnl]; rw [Nat.zero_add] at ho4; exact ho4.congr fun i hi => by simp
            have hl4 : RLegs w4 (Fr W.heap.size w4) v4 ll := RL.of_own ho4'
            obtain ⟨x1, x2, rfl, -, -⟩ := hl4.plain.form
            rw [hnl] at hr4
            have hb4' : Below W.heap.size W w4 := hbW.trans hb4
            have hzs4 := hb4'.size
            obtain ⟨v9, w9, hr9, hno9, hb9⟩ := NO.app qkeep_dbt (w0 := W) (w := w4) (t := 57) (E := [.bool n', .string s', .string d', .slice x1 ll.length x2]) (x := ⟨⟨n', s', d'⟩, ll⟩) HND.out hb4' ⟨_, rfl, hl4⟩ Tryz.underlying57 dbtInfo (by omega) rfl (by simp [Value.oneCell']) (by omega) (by omega) (by omega)
            rw [hnl] at hr9
            obtain ⟨a99, cap99, rfl⟩ := hno9.form
            generalize (pre ++ [(⟨⟨n', s', d'⟩, ll⟩ : Dbt)]).length = n99 at *
            have M8 := (J2.out.on hb4').below hb9 (by omega)
            have c9 : w9.cell? ⟨z, 1, none⟩ = some (.slice bv9 j bap9) := M8.cell 1
            have f9 := M8.frozen 1
            have MS := Lib.hid (M8.set 1 (.slice a99 n99 cap99))
            have P0 := Lib.hid (((J0.out.on hb4').below hb9 (by omega)).setOther ⟨z, 1, none⟩ (.slice a99 n99 cap99) (by simp; omega))
            have P1 := Lib.hid (((J1.out.on hb4').below hb9 (by omega)).setOther ⟨z, 1, none⟩ (.slice a99 n99 cap99) (by simp; omega))
            have HN9 := Lib.hid (hno9.setCell qkeep_dbt ⟨z, 1, none⟩ (.slice a99 n99 cap99) (by simp; omega))
            have HB9 := Lib.hid ((HB.out.trans ((hb4'.mono (by omega)).trans (hb9.mono (by omega)))).setCell (p := ⟨z, 1, none⟩) (by simp; omega) (.slice a99 n99 cap99))
            have HK9 := Lib.hid (show ∀ b, z + 1 ≤ b → b < w2.heap.size → (w9.setCell ⟨z, 1, none⟩ (.slice a99 n99 cap99)).heap[b]? = w2.heap[b]? from fun b hb hb2 => by
              rw [heap_setCell_other _ _ _ _ (by simp; omega), hb9.block b hb2, hb4'.block b (by omega)]; exact HKK.out b hb hb2)
            have hz9 := hb9.size
            have HR9 := Lib.hid hr9
            have HR4 := Lib.hid hr4
            have HW4 := Lib.hid hb4'
            clear hr9 hno9 hb9 hr4 ho4 ho4' hl4 hb4 hb4' M8 hbW hown hlw
            refine wpNT_one ?_
            repeat (refine wpQS_cons ?_; simp only [getOps, gl9]; (first | go_big_quiet_skip | (refine wpQuiet_step (fun K hK => ?_); go_simp; (try simp (disch := omega) only [ar9]); (first | (refine hK _ ?_; clear hK K) | (simp (disch := omega) only [if_pos, dif_pos, if_neg, dif_neg, ar9]; go_simp; refine hK _ ?_; clear hK K)))); refine wpQuiet_nil ?_)
            with_reducible refine wpQS_nil ?_
            (try simp only [getOps, gl9])
            refine Lib.wpList_append_run _ rfl _ _ _ _ rfl _ _ rfl rfl _ _ (HR4.out _) ?_
            refine segQ_normal ⟨fun k hk => HSX.out k _ HW4.out, ?_⟩
            refine wpNT_one ?_
            repeat (refine wpQS_cons ?_; simp only [getOps, gl9]; (try simp only [S9]); (first | go_big_quiet_skip | (refine wpQuiet_step (fun K hK => ?_); go_simp; (try simp (disch := omega) only [ar9]); (first | (refine hK _ ?_; clear hK K) | (simp (disch := omega) only [if_pos, dif_pos, if_neg, dif_neg, ar9]; go_simp; refine hK _ ?_; clear hK K)))); refine wpQuiet_nil ?_)
            with_reducible refine wpQS_nil ?_
            (try simp only [getOps, gl9])
            go_step
            rename_i K9 hK9
            refine hK9 _ _ ?_
            clear hK9 K9
            refine segQ_normal ⟨fun k hk => HSX.out k _ (HW4.out.alloc hzs4 (.cells #[.bool n', .string s', .string d', .slice x1 nl x2] 96)), ?_⟩
            refine wpNT_one ?_
            repeat (refine wpQS_cons ?_; simp only [getOps, gl9]; (first | go_big_quiet_skip | (refine wpQuiet_step (fun K hK => ?_); go_simp; (try simp (disch := omega) only [ar9]); (first | (refine hK _ ?_; clear hK K) | (simp (disch := omega) only [if_pos, dif_pos, if_neg, dif_neg, ar9]; go_simp; refine hK _ ?_; clear hK K)))); refine wpQuiet_nil ?_)
            with_reducible refine wpQS_nil ?_
            (try simp only [getOps, gl9])
            refine Lib.wpList_append_run _ rfl _ _ _ _ rfl _ _ rfl rfl _ _ (HR9.out _) ?_
            refine segQ_normal ⟨fun k hk => by simp at hk, ?_⟩
            refine wpNT_one ?_
            repeat (refine wpQS_cons ?_; simp only [getOps, gl9]; (try simp only [S12]); (first | go_big_quiet_skip | (refine wpQuiet_step (fun K hK => ?_); go_simp; (try simp (disch := omega) only [ar9]); (first | (refine hK _ ?_; clear hK K) | (simp (disch := omega) only [if_pos, dif_pos, if_neg, dif_neg, ar9]; go_simp; refine hK _ ?_; clear hK K)))); refine wpQuiet_nil ?_)
            with_reducible refine wpQS_nil ?_
            (try simp only [getOps, gl9])
            go_step
            rename_i K9 hK9
            refine hK9 _ _ ?_
            clear hK9 K9
            refine segQ_normal ⟨fun k hk => by simp at hk, ?_⟩
            refine wpNT_fin ?_
            repeat (refine wpQS_cons ?_; simp only [getOps, gl9]; (first | go_big_quiet_skip | (refine wpQuiet_step (fun K hK => ?_); go_simp; (try simp (disch := omega) only [ar9]); (first | (refine hK _ ?_; clear hK K) | (simp (disch := omega) only [if_pos, dif_pos, if_neg, dif_neg, ar9]; go_simp; refine hK _ ?_; clear hK K)))); refine wpQuiet_nil ?_)
            with_reducible refine wpQS_nil ?_
            go_wp2
            go_roundw
            case rel => exact ⟨j + 1, .slice a99 n99 cap99, by go_num, by omega, P0.out, P1.out, MS.out, by rw [HTK.out]; exact HN9, HK9, HB9.out, by simp only [World.size_setCell]; omega⟩
            case measure => simp [intOf]; omega
          · go_step
            rename_i K9 hK9
            refine hK9 _ _ ?_
            clear hK9 K9
            have HW1 := Lib.hid ((Below.refl W.heap.size W).drew.alloc (Nat.le_refl _) (.cells #[] 118))
            refine segQ_normal ⟨fun k hk => HSX.out k _ HW1.out, ?_⟩
            refine wpNT_one ?_
            repeat (refine wpQS_cons ?_; simp only [getOps, gl9]; (first | go_big_quiet_skip | (refine wpQuiet_step (fun K hK => ?_); go_simp; (try simp (disch := omega) only [ar9]); (first | (refine hK _ ?_; clear hK K) | (simp (disch := omega) only [if_pos, dif_pos, if_neg, dif_neg, ar9]; go_simp; refine hK _ ?_; clear hK K)))); refine wpQuiet_nil ?_)
            with_reducible refine wpQS_nil ?_
            (try simp only [getOps, gl9])
            go_step
            rename_i K9 hK9
            refine (HCK.out _).mono ?_
            rintro e w1 ⟨rfl, hb1⟩
            have hown : SOwn (W.drew.alloc (.cells #[] 118)) W.heap.size 118 2 (.slice (some ⟨W.heap.size, 0, none⟩) 0 0) 0 (fun _ => []) := ⟨World.ownsRow_made W.drew #[] 0 (Nat.le_refl _) (Nat.zero_le _) rfl, fun i hi => by omega⟩
            have HOW := Lib.hid (hown.below hb1 (Nat.le_refl _))
            have HW2 := Lib.hid (HW1.out.trans (hb1.mono (by simp)))
            clear hb1
            refine hK9 _ _ ?_
            clear hK9 K9
            refine segQ_normal ⟨fun k hk => HSX.out k _ HW2.out, ?_⟩
            refine wpNT_forget (fun W' => ∃ eb, eb = y + 1 ∧ SOwn W' W.heap.size 118 2 (.slice (some ⟨eb, 0, none⟩) 0 0) 0 (fun _ => []) ∧ Below W.heap.size W W') ⟨_, rfl, by rw [← hyW]; exact HOW.out, HW2.out⟩ ?_
            rintro w6 ⟨eb, heb, hown, hbW⟩
            rw [← heb]
            clear heb HW2 HOW HW1
            have hzs6 := hbW.size
            have hlw := (HL.out.on hbW).plain
            rw [hnl] at hlw
            obtain ⟨v4, w4, hr4, ho4, hb4⟩ := append_sl (t := 94) Tryz.underlying94 legInfo (by omega) hown hlw (fun i hi u hu => lg_one _ u hu) (by omega) (by omega) (by omega)
            have ho4' : SOwn w4 W.heap.size 118 2 v4 ll.length (fun i => (ix ll i).c) := by rw [hnl]; rw [Nat.zero_add] at ho4; exact ho4.congr fun i hi => by simp
            have hl4 : RLegs w4 (Fr W.heap.size w4) v4 ll := RL.of_own ho4'
            obtain ⟨x1, x2, rfl, -, -⟩ := hl4.plain.form
            rw [hnl] at hr4
            have hb4' : Below W.heap.size W w4 := hbW.trans hb4
            have hzs4 := hb4'.size
            obtain ⟨v9, w9, hr9, hno9, hb9⟩ := NO.app qkeep_dbt (w0 := W) (w := w4) (t := 57) (E := [.bool n', .string s', .string d', .slice x1 ll.length x2]) (x := ⟨⟨n', s', d'⟩, ll⟩) HND.out hb4' ⟨_, rfl, hl4⟩ Tryz.underlying57 dbtInfo (by omega) rfl (by simp [Value.oneCell']) (by omega) (by omega) (by omega)
            rw [hnl] at hr9
            obtain ⟨a99, cap99, rfl⟩ := hno9.form
            generalize (pre ++ [(⟨⟨n', s', d'⟩, ll⟩ : Dbt)]).length = n99 at *
            have M8 := (J2.out.on hb4').below hb9 (by omega)
            have c9 : w9.cell? ⟨z, 1, none⟩ = some (.slice bv9 j bap9) := M8.cell 1
            have f9 := M8.frozen 1
            have MS := Lib.hid (M8.set 1 (.slice a99 n99 cap99))
            have P0 := Lib.hid (((J0.out.on hb4').below hb9 (by omega)).setOther ⟨z, 1, none⟩ (.slice a99 n99 cap99) (by simp; omega))
            have P1 := Lib.hid (((J1.out.on hb4').below hb9 (by omega)).setOther ⟨z, 1, none⟩ (.slice a99 n99 cap99) (by simp; omega))
            have HN9 := Lib.hid (hno9.setCell qkeep_dbt ⟨z, 1, none⟩ (.slice a99 n99 cap99) (by simp; omega))
            have HB9 := Lib.hid ((HB.out.trans ((hb4'.mono (by omega)).trans (hb9.mono (by omega)))).setCell (p := ⟨z, 1, none⟩) (by simp; omega) (.slice a99 n99 cap99))
            have HK9 := Lib.hid (show ∀ b, z + 1 ≤ b → b < w2.heap.size → (w9.setCell ⟨z, 1, none⟩ (.slice a99 n99 cap99)).heap[b]? = w2.heap[b]? from fun b hb hb2 => by
              rw [heap_setCell_other _ _ _ _ (by simp; omega), hb9.block b hb2, hb4'.block b (by omega)]; exact HKK.out b hb hb2)
            have hz9 := hb9.size
            have HR9 := Lib.hid hr9
            have HR4 := Lib.hid hr4
            have HW4 := Lib.hid hb4'
            clear hr9 hno9 hb9 hr4 ho4 ho4' hl4 hb4 hb4' M8 hbW hown hlw
            refine wpNT_one ?_
            repeat (refine wpQS_cons ?_; simp only [getOps, gl9]; (first | go_big_quiet_skip | (refine wpQuiet_step (fun K hK => ?_); go_simp; (try simp (disch := omega) only [ar9]); (first | (refine hK _ ?_; clear hK K) | (simp (disch := omega) only [if_pos, dif_pos, if_neg, dif_neg, ar9]; go_simp; refine hK _ ?_; clear hK K)))); refine wpQuiet_nil ?_)
            with_reducible refine wpQS_nil ?_
            (try simp only [getOps, gl9])
            refine Lib.wpList_append_run _ rfl _ _ _ _ rfl _ _ rfl rfl _ _ (HR4.out _) ?_
            refine segQ_normal ⟨fun k hk => HSX.out k _ HW4.out, ?_⟩
            refine wpNT_one ?_
            repeat (refine wpQS_cons ?_; simp only [getOps, gl9]; (try simp only [S9]); (first | go_big_quiet_skip | (refine wpQuiet_step (fun K hK => ?_); go_simp; (try simp (disch := omega) only [ar9]); (first | (refine hK _ ?_; clear hK K) | (simp (disch := omega) only [if_pos, dif_pos, if_neg, dif_neg, ar9]; go_simp; refine hK _ ?_; clear hK K)))); refine wpQuiet_nil ?_)
            with_reducible refine wpQS_nil ?_
            (try simp only [getOps, gl9])
            go_step
            rename_i K9 hK9
            refine hK9 _ _ ?_
            clear hK9 K9
            refine segQ_normal ⟨fun k hk => HSX.out k _ (HW4.out.alloc hzs4 (.cells #[.bool n', .string s', .string d', .slice x1 nl x2] 96)), ?_⟩
            refine wpNT_one ?_
            repeat (refine wpQS_cons ?_; simp only [getOps, gl9]; (first | go_big_quiet_skip | (refine wpQuiet_step (fun K hK => ?_); go_simp; (try simp (disch := omega) only [ar9]); (first | (refine hK _ ?_; clear hK K) | (simp (disch := omega) only [if_pos, dif_pos, if_neg, dif_neg, ar9]; go_simp; refine hK _ ?_; clear hK K)))); refine wpQuiet_nil ?_)
            with_reducible refine wpQS_nil ?_
            (try simp only [getOps, gl9])
            refine Lib.wpList_append_run _ rfl _ _ _ _ rfl _ _ rfl rfl _ _ (HR9.out _) ?_
            refine segQ_normal ⟨fun k hk => by simp at hk, ?_⟩
            refine wpNT_one ?_
            repeat (refine wpQS_cons ?_; simp only [getOps, gl9]; (try simp only [S12]); (first | go_big_quiet_skip | (refine wpQuiet_step (fun K hK => ?_); go_simp; (try simp (disch := omega) only [ar9]); (first | (refine hK _ ?_; clear hK K) | (simp (disch := omega) only [if_pos, dif_pos, if_neg, dif_neg, ar9]; go_simp; refine hK _ ?_; clear hK K)))); refine wpQuiet_nil ?_)
            with_reducible refine wpQS_nil ?_
            (try simp only [getOps, gl9])
            go_step
            rename_i K9 hK9
            refine hK9 _ _ ?_
            clear hK9 K9
            refine segQ_normal ⟨fun k hk => by simp at hk, ?_⟩
            refine wpNT_fin ?_
            repeat (refine wpQS_cons ?_; simp only [getOps, gl9]; (first | go_big_quiet_skip | (refine wpQuiet_step (fun K hK => ?_); go_simp; (try simp (disch := omega) only [ar9]); (first | (refine hK _ ?_; clear hK K) | (simp (disch := omega) only [if_pos, dif_pos, if_neg, dif_neg, ar9]; go_simp; refine hK _ ?_; clear hK K)))); refine wpQuiet_nil ?_)
            with_reducible refine wpQS_nil ?_
            go_wp2
            go_roundw
            case rel => exact ⟨j + 1, .slice a99 n99 cap99, by go_num, by omega, P0.out, P1.out, MS.out, by rw [HTK.out]; exact HN9, HK9, HB9.out, by simp only [World.size_setCell]; omega⟩
            case measure => simp [intOf]; omega
        · obtain rfl : j = nd := by omega
          have hnl9 : decide ((j : Int) < (j : Int)) = false := by simp
          have hfull : (dl.take j).map clD = dl.map clD := by rw [← hnd, List.take_length]
          rw [hfull] at HND
          have z0 : wr.cell? ⟨z, 0, none⟩ = some (.slice av7 k cap7) := K2.cell 0
          have z1 : wr.cell? ⟨z, 1, none⟩ = some (.slice bv9 j bap9) := K2.cell 1
          have r0 : wr.cell? ⟨w.heap.size + 1, 0, none⟩ = some (.slice none 0 0) := K1.cell 0
          have r1 : wr.cell? ⟨w.heap.size + 1, 1, none⟩ = some (.slice none 0 0) := K1.cell 1
          have f0 := K1.frozen 0
          have f1 := K1.frozen 1
          have HVE := Lib.hid (HNE.out.keepFrom qkeep_est HKK.out hwz)
          have HVD := Lib.hid (show RDbts wr (Fr w2.heap.size wr) (.slice bv9 j bap9) (dl.map clD) from HND.out.toRL qkeep_dbt)
          clear K0 K1 K2 hno hkk hbw
          go_wp2
          refine bodyPost_forget (fun W => Blk W (w.heap.size + 1) #[.slice av7 k cap7, .slice bv9 j bap9] ∧ NO W (z + 1) 84 5 QEst (.slice av7 k cap7) (el.map clE) ∧ RDbts W (fun b => w2.heap.size ≤ b ∧ b < W.heap.size) (.slice bv9 j bap9) (dl.map clD) ∧ Below w.heap.size w W)
            ⟨by exact (J1.out.set 0 _).set 1 _, ?_, ?_, by exact (HB.out.setCell (p := ⟨w.heap.size + 1, 0, none⟩) (by simp) _).setCell (p := ⟨w.heap.size + 1, 1, none⟩) (by simp) _⟩ ?_
          · exact (HVE.out.setCell qkeep_est ⟨w.heap.size + 1, 0, none⟩ _ (by simp; omega)).setCell qkeep_est ⟨w.heap.size + 1, 1, none⟩ _ (by simp; omega)
          · refine HVD.out.keep ⟨fun b hb hl => ?_⟩ fun b hb => ⟨hb.1, ?_⟩
            · have := hb.1
              rw [heap_setCell_other _ _ _ _ (by simp; omega), heap_setCell_other _ _ _ _ (by simp; omega)]
            · have := hb.2; simp only [World.size_setCell]; omega
          · rintro WR ⟨hr9, hn9, hd9, hb9⟩
            have y0 : WR.cell? ⟨w.heap.size + 1, 0, none⟩ = some (.slice av7 k cap7) := hr9.cell 0
            have y1 : WR.cell? ⟨w.heap.size + 1, 1, none⟩ = some (.slice bv9 j bap9) := hr9.cell 1
            exact bodyPost_ret (v := .agg #[.slice av7 k cap7, .slice bv9 j bap9]) (by simp [results, Tryz.results55, go_sem, y0, y1]) rfl ⟨_, _, w2.heap.size, rfl, HB2.out.size, hn9.base qkeep_est (by omega), HOL.out, hd9, hb9⟩
end Go.Proofs.Ins
