/- Solve and Least on a group that is invalid. Printed by lc0gen.py. -/
import Derived.Test.YtmephnllicleiaaGreatDoorZ23
import Derived.Test.YtmephnllicleiaaGreatDoorZ20

set_option linter.unusedSimpArgs false
set_option linter.unusedVariables false
namespace Go.Proofs.Ins
open Go.RowKit

theorem below_gb {B b : Nat} {w w' : World} (h : w.grownBy w' (some b)) (hb : B ≤ b) (hB : B ≤ w.heap.size) : Below B w w' := ⟨h.os, h.tape, h.output, h.size, fun k hk => h.block k (by omega) (by simp; omega)⟩
theorem legsB_zero (l : List Dbt) : legsB l 0 0 = [] := by unfold legsB; simp
theorem legsB_grow {g : Grp} {d : Nat} (hd : d < g.d.length) (h : chkD g d = 0) (h2 : (legsB g.d d 0).length ≤ 8 * d) : (legsB g.d (d + 1) 0).length ≤ 8 * (d + 1) := by
  have h3 : ¬ 8 < (ix g.d d).l.length := fun h4 => by rw [chkD_1 h4] at h; cases h
  have := legsB_length g.d d (ix g.d d).l.length
  rw [legsB_next hd] at this
  omega

set_option maxRecDepth 100000 in
set_option maxHeartbeats 6400000 in
theorem checkgroup_any (p : Nat → Prop) (g : Grp) (v : Value) (w : World) (hG : RGrp w p v g) (hs : SmallG 134217728 g) (hp : ∀ x, p x → x < w.heap.size) :
    Calls Tryz.prog 21 #[v] w fun x w' => x = .returned (.int .i64 (chkG g)) ∧ Below w.heap.size w w' := by
  have hmm := @run_makeMap Tryz.prog
  have HGR := Lib.hid hG
  have HPL := Lib.hid hp
  obtain ⟨ev, dv, rfl, hE, hD⟩ := hG
  have HCE := Lib.hid (fun i (hi : i < g.e.length) cv av w (h1 : RClaims w p cv (ix g.e i).c) (h2 : RAgrs w p av (ix g.e i).a) => (show Calls Tryz.prog 36 #[.agg #[.bool (ix g.e i).m.n, .string (ix g.e i).m.s, .string (ix g.e i).m.d, cv, av]] w (fun x w' => x = .returned (.int .i64 (chkE (ix g.e i))) ∧ Below w.heap.size w w') from checkestate_any p (ix g.e i) cv av w h1 h2 (hs.e i hi)))
  have HDT := Lib.hid (fun d (hd : d < g.d.length) lv b w (h : RGrp w p (.agg #[ev, dv]) g) (hL : RLegs w p lv (ix g.d d).l) hp hM hn => checkdebt_any p g d (.agg #[ev, dv]) lv b w h hL hd hs hp hM hn)
  have HGW := Lib.hid (fun d (hd : d < g.d.length) h h2 => legsB_grow (g := g) hd h h2)
  have HL0 := Lib.hid (legsB_zero g.d)
  have le := hs.le
  have ld := hs.ld
  have HLC := Lib.hid (fun i hi => (hs.e i hi).lc)
  obtain ⟨GE, hSE, hQE⟩ := hE
  obtain ⟨ae, cape, rfl, -, -⟩ := hSE.form
  obtain ⟨GD, hSD, hQD⟩ := hD
  obtain ⟨ad, capd, rfl, -, -⟩ := hSD.form
  have HSE := Lib.hid hSE
  have HQE := Lib.hid (fun i hi => by
    obtain ⟨cv, av, hg, hC, hA⟩ := hQE i hi
    obtain ⟨a2, cap2, rfl, -, -⟩ := hC.plain.form
    obtain ⟨a3, cap3, rfl, -, -⟩ := (show ∃ a3 cap3, av = .slice a3 (ix g.e i).a.length cap3 ∧ True ∧ True from by obtain ⟨G, hS, -⟩ := hA; obtain ⟨x, y, h, -, -⟩ := hS.form; exact ⟨x, y, h, trivial, trivial⟩)
    exact (⟨a2, cap2, a3, cap3, hg, hC, hA⟩ : ∃ a2 cap2 a3 cap3, GE i = [.bool (ix g.e i).m.n, .string (ix g.e i).m.s, .string (ix g.e i).m.d, .slice a2 (ix g.e i).c.length cap2, .slice a3 (ix g.e i).a.length cap3] ∧ RClaims w p (.slice a2 (ix g.e i).c.length cap2) (ix g.e i).c ∧ RAgrs w p (.slice a3 (ix g.e i).a.length cap3) (ix g.e i).a))
  have HSD := Lib.hid hSD
  have HQD := Lib.hid (fun i hi => by
    obtain ⟨lv, hg, hL⟩ := hQD i hi
    obtain ⟨a2, cap2, rfl, -, -⟩ := hL.plain.form
    exact (⟨a2, cap2, hg, hL⟩ : ∃ a2 cap2, GD i = [.bool (ix g.d i).w.n, .string (ix g.d i).w.s, .string (ix g.d i).w.d, .slice a2 (ix g.d i).l.length cap2] ∧ RLegs w p (.slice a2 (ix g.d i).l.length cap2) (ix g.d i).l))
  have E1 := Lib.hid (fun h => chkG_1 (g := g) h)
  have E2 := Lib.hid (fun h => chkG_2 (g := g) h)
  have E3 := Lib.hid (fun i h h2 h3 h4 h5 => chkG_3 (g := g) (i := i) h h2 h3 h4 h5)
  have E4 := Lib.hid (fun i k h h2 h3 h4 h5 h6 h7 h8 => chkG_4 (g := g) (i := i) (k := k) h h2 h3 h4 h5 h6 h7 h8)
  have E5 := Lib.hid (fun d h h2 h3 h4 h5 h6 h7 => chkG_5 (g := g) (d := d) h h2 h3 h4 h5 h6 h7)
  have E6 := Lib.hid (fun h h2 h3 h4 h5 => chkG_6 (g := g) h h2 h3 h4 h5)
  have H1 := Lib.hid (fun i k h => chkH_1 (g := g) (i := i) (k := k) h)
  have H2 := Lib.hid (fun i k h => chkH_2 (g := g) (i := i) (k := k) h)
  have H3 := Lib.hid (fun i k h h2 => chkH_3 (g := g) (i := i) (k := k) h h2)
  clear hs hSE hQE hSD hQD hp
  generalize chkG g = R at *
  generalize hce : (fun i => chkE (ix g.e i)) = CE at *
  have hce' : ∀ i, chkE (ix g.e i) = CE i := fun i => by rw [← hce]
  simp only [hce'] at HCE E3 E4 E5 E6
  generalize hch : (fun i k => chkH g i k) = CH at *
  have hch' : ∀ i k, chkH g i k = CH i k := fun i k => by rw [← hch]
  have HFN := Lib.hid (show ∀ i, fnz (chkH g i) (ix g.e i).c.length = fnz (CH i) (ix g.e i).c.length from fun i => fnz_congr fun k _ => hch' i k)
  simp only [HFN.out] at E4 E5 E6
  simp only [hch'] at E4 H1 H2 H3
  generalize hcd : (fun i => chkD g i) = CD at *
  have hcd' : ∀ i, chkD g i = CD i := fun i => by rw [← hcd]
  simp only [hcd'] at HDT HGW E5 E6
  generalize hSf : (fun d => legsB g.d d 0) = SF at *
  have hSf' : ∀ d, legsB g.d d 0 = SF d := fun d => by rw [← hSf]
  simp only [hSf'] at HDT HGW HL0
  clear hce hce' hch hch' hcd hcd' HFN hSf hSf'
  generalize hne : g.e.length = ne at *
  generalize hnd : g.d.length = nd at *
  by_cases g1 : 8 < ne
  · have HR := Lib.hid (E1.out g1)
    have c1 : decide (8 < ne) = true := decide_eq_true g1
    have c1' : decide ((8 : Int) < (ne : Int)) = true := by simp; omega
    clear E1 E2 E3 E4 E5 E6 H1 H2 H3
    go_enter Tryz.func21, Tryz.ntmps21
    go_wp2
    go_ret
    exact ⟨ret_int HR.out.symm, (Below.refl _ _).alloc (Nat.le_refl _) _⟩
  · have c1 : decide (8 < ne) = false := decide_eq_false g1
    have c1' : decide ((8 : Int) < (ne : Int)) = false := by simp; omega
    by_cases g2 : 16 < nd
    · have HR := Lib.hid (E2.out g2)
      have c2 : decide (16 < nd) = true := decide_eq_true g2
      have c2' : decide ((16 : Int) < (nd : Int)) = true := by simp; omega
      clear E1 E2 E3 E4 E5 E6 H1 H2 H3
      go_enter Tryz.func21, Tryz.ntmps21
      go_wp2
      go_ret
      exact ⟨ret_int HR.out.symm, (Below.refl _ _).alloc (Nat.le_refl _) _⟩
    · have c2 : decide (16 < nd) = false := decide_eq_false g2
      have c2' : decide ((16 : Int) < (nd : Int)) = false := by simp; omega
      have E3 := Lib.hid (fun i => E3.out i (by omega) (by omega))
      have E4 := Lib.hid (fun i k => E4.out i k (by omega) (by omega))
      have E5 := Lib.hid (fun d => E5.out d (by omega) (by omega))
      have E6 := Lib.hid (E6.out (by omega) (by omega))
      clear E1 E2
      go_enter Tryz.func21, Tryz.ntmps21
      go_wp2_with fail
      refine wp_forget (fun W => Blk W w.heap.size #[.slice ae ne cape, .slice ad nd capd] ∧ Below w.heap.size w W) ⟨Blk.new _ _ _, (Below.refl _ _).alloc (Nat.le_refl _) _⟩ ?_
      rintro W ⟨hb0, hbel⟩
      have J := Lib.hid hb0
      have HB := Lib.hid hbel
      clear hbel hb0
      go_loopw [27] (fun i wr => ∃ k : Nat, i = .int .i64 k ∧ k ≤ ne ∧ Blk wr w.heap.size #[.slice ae ne cape, .slice ad nd capd] ∧ Below w.heap.size w wr ∧ Hid (∀ i, i < k → CE i = 0)) (fun i _ => ne - (intOf i).toNat)
      case atStart => exact ⟨0, rfl, by omega, J.out, HB.out, fun i hi => by omega⟩
      case round =>
        obtain ⟨k, rfl, hk, K0, hbk, hsk⟩ := hrel
        have hzk := hbk.size
        have J := Lib.hid K0
        have HB := Lib.hid hbk
        have k0 : wr.cell? ⟨w.heap.size, 0, none⟩ = some (.slice ae ne cape) := K0.cell 0
        clear K0 hbk
        by_cases hlt : k < ne
        · obtain ⟨be, offe, rfl, -, -, -⟩ := HSE.out.get (by omega)
          obtain ⟨a2, cap2, a3, cap3, hge, hRC, hRA⟩ := HQE.out k hlt
          have HCK := Lib.hid (fun W (h : Below w.heap.size w W) => HCE.out k hlt _ _ W (hRC.on h) (hRA.on h))
          have HD := Lib.hid (fun j (hj : j < 5) => HSE.out.cellAt rfl HB.out (i := k) (j := j) hlt hj)
          rw [hge] at HD
          have q0 := HD.out 0 (by omega)
          rw [Nat.add_zero] at q0
          have q0' : wr.cell? ⟨be, offe + k * 5, none⟩ = some (.bool (ix g.e k).m.n) := q0
          have q1 : wr.cell? ⟨be, offe + k * 5 + 1, none⟩ = some (.string (ix g.e k).m.s) := HD.out 1 (by omega)
          have q2 : wr.cell? ⟨be, offe + k * 5 + 2, none⟩ = some (.string (ix g.e k).m.d) := HD.out 2 (by omega)
          have q3 : wr.cell? ⟨be, offe + k * 5 + 3, none⟩ = some (.slice a2 (ix g.e k).c.length cap2) := HD.out 3 (by omega)
          have q4 : wr.cell? ⟨be, offe + k * 5 + 4, none⟩ = some (.slice a3 (ix g.e k).a.length cap3) := HD.out 4 (by omega)
          have HH := Lib.hid (E3.out k hlt hsk.out)
          have HN := Lib.hid (fun h => all_next (p := fun i => CE i = 0) hsk.out h)
          have i1 : (0 : Int) ≤ (k : Int) := by omega
          have i2 : (k : Int) < (ne : Int) := by omega
          clear q0 HD hge hRC hRA hsk E3 E4 E5 E6 H1 H2 H3 HDT HCE HQE HQD
          generalize CE k = x at *
          generalize (ix g.e k).m.n = mn at *
          generalize (ix g.e k).m.s = ms at *
          generalize (ix g.e k).m.d = md at *
          generalize (ix g.e k).c.length = nc at *
          generalize (ix g.e k).a.length = na at *
          go_wp2_with fail
          refine (HCK.out _ (HB.out.alloc (by omega) _)).mono ?_; rintro e w4 ⟨rfl, hb4⟩
          obtain ⟨-, hbw⟩ := boxes1 hb4
          have J := Lib.hid (J.out.on hbw)
          have HB := Lib.hid (chain HB.out hbw (Nat.le_refl _))
          clear hb4 hbw q0' q1 q2 q3 q4 k0
          by_cases hx : x = 0
          · subst hx
            have HX := Lib.hid (HN.out rfl)
            clear HN HH
            go_wp2
            go_roundw
            case rel => exact ⟨k + 1, by go_num, by omega, J.out, HB.out, HX.out⟩
            case measure => simp [intOf]; omega
          · have HR := Lib.hid (HH.out hx)
            have hx2 : (x != 0) = true := by simp [hx]
            have hx3 : (x == 0) = false := by simp [hx]
            clear HN HH
            go_wp2
            go_ret
            exact ⟨ret_int HR.out.symm, HB.out⟩
        · obtain rfl : k = ne := by omega
          have hnl : decide ((k : Int) < (k : Int)) = false := by simp
          have E4 := Lib.hid (fun i j => E4.out i j hsk.out)
          have E5 := Lib.hid (fun d => E5.out d hsk.out)
          have E6 := Lib.hid (E6.out hsk.out)
          clear E3 hsk HCE
          go_wp2_with fail
          clear k0
          go_loopw [40] (fun i wr => ∃ t : Nat, i = .int .i64 t ∧ t ≤ k ∧ Blk wr w.heap.size #[.slice ae k cape, .slice ad nd capd] ∧ Below w.heap.size w wr ∧ Hid (∀ i, i < t → fnz (CH i) (ix g.e i).c.length = 0)) (fun i _ => k - (intOf i).toNat)
          case atStart => exact ⟨0, rfl, by omega, J.out, HB.out, fun i hi => by omega⟩
          case round =>
            obtain ⟨t, rfl, ht, K0, hbk, hst⟩ := hrel
            have hzt := hbk.size
            have J := Lib.hid K0
            have HB := Lib.hid hbk
            have k1 : wr.cell? ⟨w.heap.size, 1, none⟩ = some (.slice ad nd capd) := K0.cell 1
            clear K0 hbk
            by_cases hlt : t < k
            · obtain ⟨be, offe, rfl, -, -, -⟩ := HSE.out.get (by omega)
              obtain ⟨a2, cap2, a3, cap3, hge, hRC, -⟩ := HQE.out t hlt
              have HD := Lib.hid (fun j (hj : j < 5) => HSE.out.cellAt rfl HB.out (i := t) (j := j) hlt hj)
              rw [hge] at HD
              have q0 := HD.out 0 (by omega)
              rw [Nat.add_zero] at q0
              have q0' : wr.cell? ⟨be, offe + t * 5, none⟩ = some (.bool (ix g.e t).m.n) := q0
              have q1 : wr.cell? ⟨be, offe + t * 5 + 1, none⟩ = some (.string (ix g.e t).m.s) := HD.out 1 (by omega)
              have q2 : wr.cell? ⟨be, offe + t * 5 + 2, none⟩ = some (.string (ix g.e t).m.d) := HD.out 2 (by omega)
              have q3 : wr.cell? ⟨be, offe + t * 5 + 3, none⟩ = some (.slice a2 (ix g.e t).c.length cap2) := HD.out 3 (by omega)
              have q4 : wr.cell? ⟨be, offe + t * 5 + 4, none⟩ = some (.slice a3 (ix g.e t).a.length cap3) := HD.out 4 (by omega)
              have HP := Lib.hid hRC.plain
              have hlc := HLC.out t hlt
              have HHT := Lib.hid (fun j => E4.out t j hlt hst.out)
              have HNT := Lib.hid (fun h => all_next (p := fun i => fnz (CH i) (ix g.e i).c.length = 0) hst.out h)
              have H1 := Lib.hid (H1.out t)
              have H2 := Lib.hid (H2.out t)
              have H3 := Lib.hid (H3.out t)
              have i1 : (0 : Int) ≤ (t : Int) := by omega
              have i2 : (t : Int) < (k : Int) := by omega
              clear q0 HD hge hRC hst E4 E5 E6 HDT HQE HQD k1
              generalize (ix g.e t).m.n = mn at *
              generalize (ix g.e t).m.s = ms at *
              generalize (ix g.e t).m.d = md at *
              generalize (ix g.e t).a.length = na at *
              generalize hnc : (ix g.e t).c.length = nc at *
              generalize hct : (ix g.e t).c = ct at *
              clear hct
              generalize CH t = CT at *
              go_wp2_with fail
              refine wp_forget (fun W => Blk W w.heap.size #[.slice (some ⟨be, offe, none⟩) k cape, .slice ad nd capd] ∧ Below w.heap.size w W) ⟨J.out.alloc _, HB.out.alloc (by omega) _⟩ ?_
              rintro W5 ⟨hb0, hbel⟩
              have J := Lib.hid hb0
              have HB := Lib.hid hbel
              clear hbel hb0 q0' q1 q2 q3 q4
              go_loopw [48] (fun i wr => ∃ j : Nat, i = .int .i64 j ∧ j ≤ nc ∧ Blk wr w.heap.size #[.slice (some ⟨be, offe, none⟩) k cape, .slice ad nd capd] ∧ Below w.heap.size w wr ∧ Hid (∀ i, i < j → CT i = 0)) (fun i _ => nc - (intOf i).toNat)
              case atStart => exact ⟨0, rfl, by omega, J.out, HB.out, fun i hi => by omega⟩
              case round =>
                obtain ⟨j, rfl, hj, K0, hbk, hsj⟩ := hrel
                have hzj := hbk.size
                have hz0 := K0.lt
                have J := Lib.hid K0
                have HB := Lib.hid hbk
                have k0 : wr.cell? ⟨w.heap.size, 0, none⟩ = some (.slice (some ⟨be, offe, none⟩) k cape) := K0.cell 0
                clear K0 hbk
                by_cases hlj : j < nc
                · obtain ⟨b2, off2, rfl, -, -, -⟩ := HP.out.get (by omega)
                  have HD := Lib.hid (fun l (hl : l < 5) => HP.out.cellAt rfl HB.out (i := j) (j := l) hlj hl)
                  have d0 := HD.out 0 (by omega)
                  rw [Nat.add_zero] at d0
                  have e0 : wr.cell? ⟨b2, off2 + j * 5, none⟩ = some (Value.int .i64 (ix ct j).h) := d0
                  have e1 : wr.cell? ⟨b2, off2 + j * 5 + 1, none⟩ = some (Value.int .i64 (ix ct j).r) := HD.out 1 (by omega)
                  have e2 : wr.cell? ⟨b2, off2 + j * 5 + 2, none⟩ = some (Value.bool (ix ct j).a.n) := HD.out 2 (by omega)
                  have e3 : wr.cell? ⟨b2, off2 + j * 5 + 3, none⟩ = some (Value.string (ix ct j).a.s) := HD.out 3 (by omega)
                  have e4 : wr.cell? ⟨b2, off2 + j * 5 + 4, none⟩ = some (Value.string (ix ct j).a.d) := HD.out 4 (by omega)
                  have j1 : (0 : Int) ≤ (j : Int) := by omega
                  have j2 : (j : Int) < (nc : Int) := by omega
                  have HHJ := Lib.hid (HHT.out j hlj hsj.out)
                  have HNJ := Lib.hid (fun h => all_next (p := fun i => CT i = 0) hsj.out h)
                  have H1 := Lib.hid (H1.out j)
                  have H2 := Lib.hid (H2.out j)
                  have H3 := Lib.hid (H3.out j)
                  clear d0 HD hsj HHT HNT
                  generalize CT j = x at *
                  generalize (ix ct j).h = h at *
                  generalize (ix ct j).r = r at *
                  generalize (ix ct j).a.n = an at *
                  generalize (ix ct j).a.s = as' at *
                  generalize (ix ct j).a.d = ad' at *
                  by_cases h2 : h = (t : Int)
                  · have HR := Lib.hid ((HHJ.out (by rw [H2.out h2]; omega)).trans (H2.out h2))
                    have dh2 : (h == (t : Int)) = true := by simp [h2]
                    clear HHJ HNJ H1 H2 H3
                    go_wp2
                    go_ret
                    exact ⟨ret_int HR.out.symm, HB.out.alloc (by omega) _⟩
                  · have dh2 : (h == (t : Int)) = false := by simp [h2]
                    by_cases h1 : (k : Int) ≤ h
                    · have dh1 : decide ((k : Int) ≤ h) = true := decide_eq_true h1
                      have HR := Lib.hid ((HHJ.out (by rw [H1.out h1]; omega)).trans (H1.out h1))
                      clear HHJ HNJ H1 H2 H3
                      go_wp2
                      go_ret
                      exact ⟨ret_int HR.out.symm, HB.out.alloc (by omega) _⟩
                    · have dh1 : decide ((k : Int) ≤ h) = false := decide_eq_false h1
                      have HX := Lib.hid (HNJ.out (H3.out (by omega) (by omega)))
                      have JE := Lib.hid (J.out.alloc (.cells #[.int .i64 h, .int .i64 r, .bool an, .string as', .string ad'] 56))
                      clear HHJ HNJ H1 H2 H3
                      go_wp2
                      go_roundw
                      case rel => exact ⟨j + 1, by go_num, by omega, JE.out, HB.out.alloc (by omega) _, HX.out⟩
                      case measure => simp [intOf]; omega
                · obtain rfl : j = nc := by omega
                  have HZ := Lib.hid (HNT.out (fnz_none hsj.out))
                  have hnl : decide ((j : Int) < (j : Int)) = false := by simp
                  clear HHT
                  go_wp2
                  go_roundw
                  case rel => exact ⟨t + 1, by go_num, by omega, J.out, HB.out, HZ.out⟩
                  case measure => simp [intOf]; omega
            · obtain rfl : t = k := by omega
              have hnl : decide ((t : Int) < (t : Int)) = false := by simp
              have E5 := Lib.hid (fun d => E5.out d hst.out)
              have E6 := Lib.hid (E6.out hst.out)
              have hmbE : ∃ mb, mb = wr.heap.size := ⟨_, rfl⟩
              obtain ⟨mb, hmb⟩ := hmbE
              have hz0 := J.out.lt
              have k1 : (wr.alloc (.map #[] 0)).cell? ⟨w.heap.size, 1, none⟩ = some (.slice ad nd capd) := (J.out.alloc (.map #[] 0)).cell 1
              clear E4 hst H1 H2 H3 HQE
              go_wp2_with fail
              clear k1
              rw [← hmb]
              refine wp_forget (fun W => Blk W w.heap.size #[.slice ae t cape, .slice ad nd capd] ∧ Below w.heap.size w W ∧ MSet W mb []) ⟨J.out.alloc _, HB.out.alloc (by omega) _, by rw [hmb]; exact MSet.made wr⟩ ?_
              rintro W5 ⟨hb0, hbel, hms⟩
              have J := Lib.hid hb0
              have HB := Lib.hid hbel
              have hmb2 : w.heap.size < mb := by omega
              clear hbel hb0 hz0 hmb
              go_loopw [70] (fun i wr => ∃ d : Nat, i = .int .i64 d ∧ d ≤ nd ∧ Blk wr w.heap.size #[.slice ae t cape, .slice ad nd capd] ∧ Below w.heap.size w wr ∧ Hid (MSet wr mb (SF d)) ∧ Hid ((SF d).length ≤ 8 * d) ∧ Hid (∀ i, i < d → CD i = 0)) (fun i _ => nd - (intOf i).toNat)
              case atStart => exact ⟨0, rfl, by omega, J.out, HB.out, by rw [HL0.out]; exact hms, by rw [HL0.out]; exact Nat.le_refl _, fun i hi => by omega⟩
              case round =>
                obtain ⟨d, rfl, hd, K0, hbk, hms, hln, hsd⟩ := hrel
                have hzd := hbk.size
                have J := Lib.hid K0
                have HB := Lib.hid hbk
                have k0 : wr.cell? ⟨w.heap.size, 0, none⟩ = some (.slice ae t cape) := K0.cell 0
                have k1 : wr.cell? ⟨w.heap.size, 1, none⟩ = some (.slice ad nd capd) := K0.cell 1
                have hz0 := K0.lt
                clear K0 hbk
                by_cases hlt : d < nd
                · obtain ⟨bd, offd, rfl, -, -, -⟩ := HSD.out.get (by omega)
                  obtain ⟨a2, cap2, hge, hRL⟩ := HQD.out d hlt
                  have HDK := Lib.hid (fun W (h : Below w.heap.size w W) (h2 : Below wr.heap.size wr W) => HDT.out d hlt _ mb W (HGR.out.on h) (hRL.on h) (fun x hx => by have := HPL.out x hx; omega) (hms.out.on h2) (by have := hln.out; omega))
                  have HD := Lib.hid (fun j (hj : j < 4) => HSD.out.cellAt rfl HB.out (i := d) (j := j) hlt hj)
                  rw [hge] at HD
                  have q0 := HD.out 0 (by omega)
                  rw [Nat.add_zero] at q0
                  have q0' : wr.cell? ⟨bd, offd + d * 4, none⟩ = some (.bool (ix g.d d).w.n) := q0
                  have q1 : wr.cell? ⟨bd, offd + d * 4 + 1, none⟩ = some (.string (ix g.d d).w.s) := HD.out 1 (by omega)
                  have q2 : wr.cell? ⟨bd, offd + d * 4 + 2, none⟩ = some (.string (ix g.d d).w.d) := HD.out 2 (by omega)
                  have q3 : wr.cell? ⟨bd, offd + d * 4 + 3, none⟩ = some (.slice a2 (ix g.d d).l.length cap2) := HD.out 3 (by omega)
                  have HH := Lib.hid (E5.out d hlt hsd.out)
                  have HN := Lib.hid (fun h => all_next (p := fun i => CD i = 0) hsd.out h)
                  have HGW := Lib.hid (fun h => HGW.out d hlt h hln.out)
                  have i1 : (0 : Int) ≤ (d : Int) := by omega
                  have i2 : (d : Int) < (nd : Int) := by omega
                  clear q0 HD hge hRL hsd E5 E6 HDT HQD hms hln
                  generalize CD d = x at *
                  generalize (ix g.d d).w.n = wn at *
                  generalize (ix g.d d).w.s = ws at *
                  generalize (ix g.d d).w.d = wd at *
                  generalize (ix g.d d).l.length = nl at *
                  go_wp2_with fail
                  refine (HDK.out _ (HB.out.alloc (by omega) _) ((Below.refl _ _).alloc (Nat.le_refl _) _)).mono ?_; rintro e w4 ⟨rfl, hg4, hm4⟩
                  have hw4 : w.heap.size < (wr.alloc (.cells #[.bool wn, .string ws, .string wd, .slice a2 nl cap2] 52)).heap.size := by rw [World.size_alloc]; omega
                  have J := Lib.hid ((J.out.alloc _).block (hg4.block w.heap.size hw4 (by simp; omega)))
                  have HB := Lib.hid ((HB.out.alloc (by omega) _).trans (below_gb hg4 (by omega) (Nat.le_of_lt hw4)))
                  have HM := Lib.hid hm4
                  clear hg4 hm4 q0' q1 q2 q3 k0 k1
                  by_cases hx : x = 0
                  · subst hx
                    have HX := Lib.hid (HN.out rfl)
                    have HM2 := Lib.hid (HM.out rfl)
                    have HGW2 := Lib.hid (HGW.out rfl)
                    clear HN HH HM HGW
                    go_wp2
                    go_roundw
                    case rel => exact ⟨d + 1, by go_num, by omega, J.out, HB.out, HM2, HGW2, HX⟩
                    case measure => simp [intOf]; omega
                  · have HR := Lib.hid (HH.out hx)
                    have hx2 : (x != 0) = true := by simp [hx]
                    have hx3 : (x == 0) = false := by simp [hx]
                    clear HN HH HM
                    go_wp2
                    go_ret
                    exact ⟨ret_int HR.out.symm, HB.out⟩
                · obtain rfl : d = nd := by omega
                  have HR := Lib.hid (E6.out hsd.out)
                  have hnl : decide ((d : Int) < (d : Int)) = false := by simp
                  go_wp2
                  go_ret
                  exact ⟨ret_int HR.out.symm, HB.out⟩
end Go.Proofs.Ins

set_option linter.unusedSimpArgs false
set_option linter.unusedVariables false
namespace Go.Proofs.Ins
open Go.RowKit

/-- The settlement without anything. -/
def zero33 : Value := .agg #[.slice none 0 0, .slice none 0 0, .slice none 0 0, .slice none 0 0, .slice none 0 0, .slice none 0 0, .slice none 0 0, .slice none 0 0]
theorem slicesOf {w : World} {p : Nat → Prop} {g : Grp} {ev dv : Value} (h2 : REsts w p ev g.e) (h3 : RDbts w p dv g.d) : ∃ a1 n1 c1 a2 n2 c2, ev = .slice a1 n1 c1 ∧ dv = .slice a2 n2 c2 := by
  obtain ⟨G, hS, -⟩ := h2
  obtain ⟨x, y, h, -, -⟩ := hS.form
  obtain ⟨G', hS', -⟩ := h3
  obtain ⟨x', y', h', -, -⟩ := hS'.form
  exact ⟨x, _, y, x', _, y', h, h'⟩

set_option maxRecDepth 100000 in
set_option maxHeartbeats 6400000 in
theorem solve_bad (p : Nat → Prop) (g : Grp) (v : Value) (w : World) (hG : RGrp w p v g) (hs : SmallG 134217728 g) (hp : ∀ x, p x → x < w.heap.size) (hz : chkG g ≠ 0) :
    Calls Tryz.prog 8 #[v] w fun x w' => x = .returned (.tuple #[zero33, .int .i64 (chkG g)]) ∧ Below w.heap.size w w' := by
  have HC := Lib.hid (fun w (hG : RGrp w p v g) (hp : ∀ x, p x → x < w.heap.size) => checkgroup_any p g v w hG hs hp)
  have HG := Lib.hid hG
  have HP := Lib.hid hp
  obtain ⟨ev, dv, rfl, hE, hD⟩ := hG
  obtain ⟨a1, n1, c1, a2, n2, c2, rfl, rfl⟩ := slicesOf hE hD
  clear hE hD hs hp
  have hz1 : (chkG g == 0) = false := by simp [hz]
  have hz2 : (chkG g != 0) = true := by simp [hz]
  clear hz
  generalize chkG g = x at *
  go_enter Tryz.func8, Tryz.ntmps8
  go_wp2_with fail
  refine (HC.out _ (HG.out.on (((Below.refl _ _).alloc (Nat.le_refl _) _).alloc (by simp) _)) (fun x hx => by have := HP.out x hx; simp; omega)).mono ?_; rintro e w1 ⟨rfl, hb1⟩
  obtain ⟨K1, K2, hbw⟩ := boxes2 hb1
  have J2 := Lib.hid K2
  have HB := Lib.hid hbw
  have r0 := K2.cell 0
  have f0 := K2.frozen 0
  have r1 := K2.cell 1
  have f1 := K2.frozen 1
  have r2 := K2.cell 2
  have f2 := K2.frozen 2
  have r3 := K2.cell 3
  have f3 := K2.frozen 3
  have r4 := K2.cell 4
  have f4 := K2.frozen 4
  have r5 := K2.cell 5
  have f5 := K2.frozen 5
  have r6 := K2.cell 6
  have f6 := K2.frozen 6
  have r7 := K2.cell 7
  have f7 := K2.frozen 7
  clear hb1 K1 K2 hbw
  go_wp2
  refine bodyPost_forget (fun W => Blk W (w.heap.size + 1) #[.slice none 0 0, .slice none 0 0, .slice none 0 0, .slice none 0 0, .slice none 0 0, .slice none 0 0, .slice none 0 0, .slice none 0 0] ∧ Below w.heap.size w W)
    ⟨by exact (((((((J2.out.set 0 _).set 1 _).set 2 _).set 3 _).set 4 _).set 5 _).set 6 _).set 7 _, by exact (((((((HB.out.setCell (p := ⟨w.heap.size + 1, 0, none⟩) (by simp) _).setCell (p := ⟨w.heap.size + 1, 1, none⟩) (by simp) _).setCell (p := ⟨w.heap.size + 1, 2, none⟩) (by simp) _).setCell (p := ⟨w.heap.size + 1, 3, none⟩) (by simp) _).setCell (p := ⟨w.heap.size + 1, 4, none⟩) (by simp) _).setCell (p := ⟨w.heap.size + 1, 5, none⟩) (by simp) _).setCell (p := ⟨w.heap.size + 1, 6, none⟩) (by simp) _).setCell (p := ⟨w.heap.size + 1, 7, none⟩) (by simp) _⟩ ?_
  rintro WR ⟨hr9, hb9⟩
  have y0 : WR.cell? ⟨w.heap.size + 1, 0, none⟩ = some (.slice none 0 0) := hr9.cell 0
  have y1 : WR.cell? ⟨w.heap.size + 1, 1, none⟩ = some (.slice none 0 0) := hr9.cell 1
  have y2 : WR.cell? ⟨w.heap.size + 1, 2, none⟩ = some (.slice none 0 0) := hr9.cell 2
  have y3 : WR.cell? ⟨w.heap.size + 1, 3, none⟩ = some (.slice none 0 0) := hr9.cell 3
  have y4 : WR.cell? ⟨w.heap.size + 1, 4, none⟩ = some (.slice none 0 0) := hr9.cell 4
  have y5 : WR.cell? ⟨w.heap.size + 1, 5, none⟩ = some (.slice none 0 0) := hr9.cell 5
  have y6 : WR.cell? ⟨w.heap.size + 1, 6, none⟩ = some (.slice none 0 0) := hr9.cell 6
  have y7 : WR.cell? ⟨w.heap.size + 1, 7, none⟩ = some (.slice none 0 0) := hr9.cell 7
  exact bodyPost_ret (v := .tuple #[zero33, .int .i64 x]) (by simp [zero33, results, Tryz.results8, go_sem, y0, y1, y2, y3, y4, y5, y6, y7]) rfl ⟨rfl, hb9⟩

set_option maxRecDepth 100000 in
set_option maxHeartbeats 6400000 in
theorem least_bad (p : Nat → Prop) (g : Grp) (v : Value) (w : World) (hG : RGrp w p v g) (hs : SmallG 134217728 g) (hp : ∀ x, p x → x < w.heap.size) (hz : chkG g ≠ 0) :
    Calls Tryz.prog 9 #[v] w fun x w' => x = .returned (.tuple #[zero33, .int .i64 (chkG g)]) ∧ Below w.heap.size w w' := by
  have HC := Lib.hid (fun w (hG : RGrp w p v g) (hp : ∀ x, p x → x < w.heap.size) => checkgroup_any p g v w hG hs hp)
  have HG := Lib.hid hG
  have HP := Lib.hid hp
  obtain ⟨ev, dv, rfl, hE, hD⟩ := hG
  obtain ⟨a1, n1, c1, a2, n2, c2, rfl, rfl⟩ := slicesOf hE hD
  clear hE hD hs hp
  have hz1 : (chkG g == 0) = false := by simp [hz]
  have hz2 : (chkG g != 0) = true := by simp [hz]
  clear hz
  generalize chkG g = x at *
  go_enter Tryz.func9, Tryz.ntmps9
  go_wp2_with fail
  refine (HC.out _ (HG.out.on (((Below.refl _ _).alloc (Nat.le_refl _) _).alloc (by simp) _)) (fun x hx => by have := HP.out x hx; simp; omega)).mono ?_; rintro e w1 ⟨rfl, hb1⟩
  obtain ⟨K1, K2, hbw⟩ := boxes2 hb1
  have J2 := Lib.hid K2
  have HB := Lib.hid hbw
  have r0 := K2.cell 0
  have f0 := K2.frozen 0
  have r1 := K2.cell 1
  have f1 := K2.frozen 1
  have r2 := K2.cell 2
  have f2 := K2.frozen 2
  have r3 := K2.cell 3
  have f3 := K2.frozen 3
  have r4 := K2.cell 4
  have f4 := K2.frozen 4
  have r5 := K2.cell 5
  have f5 := K2.frozen 5
  have r6 := K2.cell 6
  have f6 := K2.frozen 6
  have r7 := K2.cell 7
  have f7 := K2.frozen 7
  clear hb1 K1 K2 hbw
  go_wp2
  refine bodyPost_forget (fun W => Blk W (w.heap.size + 1) #[.slice none 0 0, .slice none 0 0, .slice none 0 0, .slice none 0 0, .slice none 0 0, .slice none 0 0, .slice none 0 0, .slice none 0 0] ∧ Below w.heap.size w W)
    ⟨by exact (((((((J2.out.set 0 _).set 1 _).set 2 _).set 3 _).set 4 _).set 5 _).set 6 _).set 7 _, by exact (((((((HB.out.setCell (p := ⟨w.heap.size + 1, 0, none⟩) (by simp) _).setCell (p := ⟨w.heap.size + 1, 1, none⟩) (by simp) _).setCell (p := ⟨w.heap.size + 1, 2, none⟩) (by simp) _).setCell (p := ⟨w.heap.size + 1, 3, none⟩) (by simp) _).setCell (p := ⟨w.heap.size + 1, 4, none⟩) (by simp) _).setCell (p := ⟨w.heap.size + 1, 5, none⟩) (by simp) _).setCell (p := ⟨w.heap.size + 1, 6, none⟩) (by simp) _).setCell (p := ⟨w.heap.size + 1, 7, none⟩) (by simp) _⟩ ?_
  rintro WR ⟨hr9, hb9⟩
  have y0 : WR.cell? ⟨w.heap.size + 1, 0, none⟩ = some (.slice none 0 0) := hr9.cell 0
  have y1 : WR.cell? ⟨w.heap.size + 1, 1, none⟩ = some (.slice none 0 0) := hr9.cell 1
  have y2 : WR.cell? ⟨w.heap.size + 1, 2, none⟩ = some (.slice none 0 0) := hr9.cell 2
  have y3 : WR.cell? ⟨w.heap.size + 1, 3, none⟩ = some (.slice none 0 0) := hr9.cell 3
  have y4 : WR.cell? ⟨w.heap.size + 1, 4, none⟩ = some (.slice none 0 0) := hr9.cell 4
  have y5 : WR.cell? ⟨w.heap.size + 1, 5, none⟩ = some (.slice none 0 0) := hr9.cell 5
  have y6 : WR.cell? ⟨w.heap.size + 1, 6, none⟩ = some (.slice none 0 0) := hr9.cell 6
  have y7 : WR.cell? ⟨w.heap.size + 1, 7, none⟩ = some (.slice none 0 0) := hr9.cell 7
  exact bodyPost_ret (v := .tuple #[zero33, .int .i64 x]) (by simp [zero33, results, Tryz.results9, go_sem, y0, y1, y2, y3, y4, y5, y6, y7]) rfl ⟨rfl, hb9⟩

end Go.Proofs.Ins
