/- The walk of insolvencyref29.Forced (printed by fd2gen.py). -/
import Derived.Test.YtobbllakdjampaaGreatDoorZ1
import Derived.Test.YtobbllakdjampaaGreatDoorZ22
import Derived.Test.YtobbllakdjampaaGreatDoorZ16
import Derived.Test.YtobbllakdjampaaGreatDoorZ35
import Derived.Test.YtobbllakdjampaaGreatDoorZ21

set_option linter.unusedSimpArgs false
set_option linter.unusedVariables false
namespace Go.Proofs.Ins
open Go.RowKit

set_option maxRecDepth 100000 in
set_option maxHeartbeats 1600000 in
theorem rrate_any (r : R3) (w : World) (hr : r.fits 1000) :
    Calls Tryz.prog 44 #[.agg #[.bool r.n, .string r.s, .string r.d]] w fun e w' => e = .returned (.bool (inRB r.q)) ∧ Below w.heap.size w w' := by
  have hq : r.q = rq r.n r.s r.d := rfl
  obtain ⟨hr1, hr2⟩ := hr
  have HS := Lib.hid (fun w => rsign_any r.n r.s r.d w (by omega) (by omega))
  have h1s : Sm 1 (1 : Rat) := ⟨by decide, by decide⟩
  have HI := Lib.hid (fun w => rone_any w)
  have hC := fun w => rcompare_any r.n r.s r.d (rn 1) (rs 1) (rd 1) w (by omega) (by have := h1s.rs; have := h1s.rd; omega)
  rw [rq_of] at hC
  have HC := Lib.hid hC
  unfold inRB
  rw [hq]
  clear hC h1s hr1 hr2 hq
  generalize cmpR (rq r.n r.s r.d) 1 = c at *
  generalize sg (rq r.n r.s r.d) = s at *
  generalize rn 1 = o1 at *
  generalize rs 1 = o2 at *
  generalize rd 1 = o3 at *
  generalize r.n = rn' at *
  generalize r.s = rs' at *
  generalize r.d = rd' at *
  generalize hT : (decide (0 ≤ s) && decide (c ≤ 0)) = T
  have HT := Lib.hid hT
  clear hT
  go_enter Tryz.func44, Tryz.ntmps44
  go_wp2
  refine wp_forget (fun W => Blk W w.heap.size #[.bool rn', .string rs', .string rd'] ∧ Below w.heap.size w W) ⟨Blk.new w _ _, (Below.refl _ _).alloc (Nat.le_refl _) _⟩ ?_
  rintro W ⟨H1, HB⟩
  obtain ⟨k1, k2, k3⟩ := H1.later3
  have HBB := Lib.hid HB
  clear H1 HB
  by_cases h : 0 ≤ s
  · have e1 : decide (0 ≤ s) = true := decide_eq_true h
    have HE := Lib.hid (show decide (c ≤ 0) = T by rw [← HT.out, e1, Bool.true_and])
    clear h
    refine wp_region_qb (by kernel_rfl) (by kernel_rfl) ?_
    repeat (first | go_big_quiet_skip | (refine wpQuiet_step (fun K hK => ?_); go_simp; (try simp (disch := omega) only [ar9]); (first | (refine hK _ ?_; clear hK K) | (apply Exists.intro; refine ⟨fun _ => ?_, hK _ ?_⟩; (first | with_reducible exact Calls.later (HS.out _) | with_reducible exact Calls.later (HI.out _) | with_reducible exact Calls.later (HC.out _)); clear hK K))))
    clear k1 k2 k3
    refine wpQuiet_nil ?_
    intro W1 hb1
    have HB := Lib.hid (chain HBB.out hb1 (Nat.le_refl _))
    clear hb1
    go_wp2
    go_ret
    exact ⟨ret_bool HE.out, HB.out⟩
  · have e1 : decide (0 ≤ s) = false := decide_eq_false h
    have HE := Lib.hid (show false = T by rw [← HT.out, e1, Bool.false_and])
    clear h
    refine wp_region_qb (by kernel_rfl) (by kernel_rfl) ?_
    repeat (first | go_big_quiet_skip | (refine wpQuiet_step (fun K hK => ?_); go_simp; (try simp (disch := omega) only [ar9]); (first | (refine hK _ ?_; clear hK K) | (apply Exists.intro; refine ⟨fun _ => ?_, hK _ ?_⟩; (first | with_reducible exact Calls.later (HS.out _) | with_reducible exact Calls.later (HI.out _) | with_reducible exact Calls.later (HC.out _)); clear hK K))))
    clear k1 k2 k3
    refine wpQuiet_nil ?_
    intro W1 hb1
    have HB := Lib.hid (chain HBB.out hb1 (Nat.le_refl _))
    clear hb1
    go_wp2
    go_ret
    exact ⟨ret_bool HE.out, HB.out⟩

end Go.Proofs.Ins

set_option linter.unusedSimpArgs false
set_option linter.unusedVariables false
namespace Go.Proofs.Ins
open Go.RowKit

set_option maxRecDepth 100000 in
set_option maxHeartbeats 6400000 in
theorem rforced_any (p : Nat → Prop) (g : Grp) (ev dv : Value) (f : R3) (w : World) (hE : REsts w p ev g.e) (hD : RDbts w p dv g.d) (hs : SmallG 1000000 g) (hf : f.fits 1000) (hp : ∀ x, p x → x < w.heap.size) :
    Calls Tryz.prog 24 #[.agg #[ev, dv], .agg #[.bool f.n, .string f.s, .string f.d]] w (RetF w (frcG g f.q) (frcE g f.q)) := by
  have hsb : SmallG 134217728 g := hs.mono (by omega)
  have HCK := Lib.hid (fun W (h : Below w.heap.size w W) => rcheckgroup_any p g (.agg #[ev, dv]) W ⟨_, _, rfl, hE.on h, hD.on h⟩ hsb)
  have HI := Lib.hid (fun W => rrate_any f W hf)
  have hfe : ∃ a1 n1 c1 a2 n2 c2, ev = .slice a1 n1 c1 ∧ dv = .slice a2 n2 c2 := by
    obtain ⟨GE, hSE, -⟩ := hE
    obtain ⟨GD, hSD, -⟩ := hD
    obtain ⟨a1, c1, rfl, -, -⟩ := hSE.form
    obtain ⟨a2, c2, rfl, -, -⟩ := hSD.form
    exact ⟨_, _, _, _, _, _, rfl, rfl⟩
  obtain ⟨a1, n1, c1, a2, n2, c2, rfl, rfl⟩ := hfe
  by_cases hc : chkG g = 0
  · have hlim := limG_of hc
    have hce : frcE g f.q = if inRB f.q = true then 0 else 1 := by unfold frcE; rw [if_pos hc]
    by_cases hr : inRB f.q = true
    · have hcg : frcG g f.q = frG f.q g := by unfold frcG; rw [if_pos ⟨hc, hr⟩]
      rw [hce, hcg, if_pos hr]
      rw [hr] at HI
      rw [hc] at HCK
      have HCG := Lib.hid (fun W (h : Below w.heap.size w W) => rclean_any p g (.slice a1 n1 c1) (.slice a2 n2 c2) W (hE.on h) (hD.on h) hsb hlim)
      have HMU := Lib.hid (fun i (hi : i < g.e.length) W => rmultiply_any (rn (ix g.e i).m.q) (rs (ix g.e i).m.q) (rd (ix g.e i).m.q) f.n f.s f.d W (by
        have := (sm_r3 (hs.e i hi).m).mono (show 1000000 + 1000000 + 1 ≤ 2000001 by omega)
        have h1 : (rs (ix g.e i).m.q).size ≤ 2000001 := (ofQ_fits this).1
        have h2 : (rd (ix g.e i).m.q).size ≤ 2000001 := (ofQ_fits this).2
        omega) (by have := hf.1; have := hf.2; omega))
      have hle := hlim.le
      clear hE hD hs hf hsb hlim hc hr hce hcg hp
      obtain ⟨el, dl⟩ := g
      unfold frG clG at *
      dsimp only at *
      obtain ⟨fn, fs, fd⟩ := f
      dsimp only at *
      go_enter Tryz.func24, Tryz.ntmps24
      go_wp2_with fail
      refine (HCK.out _ (three_boxes w _ _ _ _ _ _).2.2.2).mono ?_; rintro x w1 ⟨rfl, hb1⟩
      obtain ⟨K0, K1, K2, hbw⟩ := boxes3 hb1
      have J0 := Lib.hid K0
      have J1 := Lib.hid K1
      have J2 := Lib.hid K2
      have HB := Lib.hid hbw
      obtain ⟨k0, k1, k2, -, -, -⟩ := K1.get3
      clear hb1 K0 K1 K2 hbw
      go_wp2_with fail
      refine (HI.out _).mono ?_; rintro x w2 ⟨rfl, hb2⟩
      have J0 := Lib.hid (J0.out.on hb2)
      have J1 := Lib.hid (J1.out.on hb2)
      have J2 := Lib.hid (J2.out.on hb2)
      have HB := Lib.hid (chain HB.out hb2 (Nat.le_refl _))
      have k0 := J0.out.cell 0
      have k1 := J0.out.cell 1
      clear hb2
      have hB2 := J2.out.lt
      go_wp2_with fail
      refine (HCG.out _ HB.out).mono ?_; rintro x w3 ⟨ev', dv', M, rfl, hMl, hno, hM, hdb, hb3⟩
      have HOL := Lib.hid hM
      generalize hne : el.length = ne at *
      obtain ⟨av9, cap9, rfl⟩ := hno.form' (n := ne) (by simp [hne])
      obtain ⟨bv9, nb9, bap9, rfl⟩ : ∃ a n c, dv' = .slice a n c := by obtain ⟨GD, hSD, -⟩ := hdb; obtain ⟨a, c, e, -, -⟩ := hSD.form; exact ⟨_, _, _, e⟩
      have HOZ := Lib.hid (fun b (hb : (Value.slice av9 ne cap9).ownBlock = some b) => (NO.own_lt hno hb).2)
      have J1 := Lib.hid (J1.out.on hb3)
      have J2 := Lib.hid (J2.out.on hb3)
      have HNO := Lib.hid hno
      have HDB := Lib.hid hdb
      have hz3 := hb3.size
      have HB := Lib.hid (chain HB.out hb3 (Nat.le_refl _))
      clear hb3 hno hM hdb k0 k1
      go_wp2_with fail
      refine wp_forget (fun W => ∃ z, z = w3.heap.size ∧ Blk W (w.heap.size + 1) #[.bool fn, .string fs, .string fd] ∧ Blk W (w.heap.size + 1 + 1) #[.slice none 0 0, .slice none 0 0] ∧ Blk W z #[.slice av9 ne cap9, .slice bv9 nb9 bap9] ∧ Hid (NO W w2.heap.size 84 5 QEst (.slice av9 ne cap9) (mixE (R3.q ⟨fn, fs, fd⟩) el 0)) ∧ Hid (RDbts W (fun b => M ≤ b ∧ b < W.heap.size) (.slice bv9 nb9 bap9) (dl.map clD)) ∧ Below w.heap.size w W)
        ⟨_, rfl, J1.out.alloc _, J2.out.alloc _, Blk.new w3 _ _, ?_, ?_, HB.out.alloc (by omega) _⟩ ?_
      · rw [mixE_zero]; exact HNO.out.on qkeep_est ((Below.refl _ _).alloc (Nat.le_refl _) _)
      · exact HDB.out.keep (.of_below ((Below.refl _ _).alloc (Nat.le_refl _) _)) fun b hb => ⟨hb.1, by have := hb.2; simp only [World.size_alloc]; omega⟩
      rintro W5 ⟨z, hz, K1, K2, K3, hno, hdb, hb5⟩
      rw [← hz]
      have HOZ := Lib.hid (show ∀ b, (Value.slice av9 ne cap9).ownBlock = some b → b < z from fun b hb => by rw [hz]; exact HOZ.out b hb)
      have J1 := Lib.hid K1
      have J2 := Lib.hid K2
      have J3 := Lib.hid K3
      have HNO := Lib.hid hno.out
      have HDB := Lib.hid hdb.out
      have HB := Lib.hid hb5
      have hzz : w2.heap.size ≤ z := by omega
      clear hz K1 K2 K3 hno hdb hb5 hz3 J0 HCK HI HCG
      go_loopw [8] (fun i wr => ∃ k, i = .int .i64 (k : Nat) ∧ k ≤ ne ∧ Blk wr (w.heap.size + 1) #[.bool fn, .string fs, .string fd] ∧ Blk wr (w.heap.size + 1 + 1) #[.slice none 0 0, .slice none 0 0] ∧ Blk wr z #[.slice av9 ne cap9, .slice bv9 nb9 bap9] ∧ Hid (NO wr w2.heap.size 84 5 QEst (.slice av9 ne cap9) (mixE (R3.q ⟨fn, fs, fd⟩) el k)) ∧ Hid (RDbts wr (fun b => M ≤ b ∧ b < wr.heap.size) (.slice bv9 nb9 bap9) (dl.map clD)) ∧ Below w.heap.size w wr) (fun i _ => ne - (intOf i).toNat)
      case atStart => exact ⟨0, rfl, by omega, J1.out, J2.out, J3.out, HNO, HDB, HB.out⟩
      case round =>
        obtain ⟨k, rfl, hk, K1, K2, K3, hno, hdb, hbw⟩ := hrel
        have hz3 := K3.lt
        have J1 := Lib.hid K1
        have J2 := Lib.hid K2
        have J3 := Lib.hid K3
        have HNO := Lib.hid hno.out
        have HDB := Lib.hid hdb.out
        have HB := Lib.hid hbw
        have hzb := hbw.size
        have k9 : wr.cell? ⟨z, 0, none⟩ = some (.slice av9 ne cap9) := K3.cell 0
        by_cases hlt : k < ne
        · obtain ⟨g, hga, hg1, hg2, e0, e1, e2, hfz⟩ := HNO.out.estCells (by rw [mixE_len]; exact hne) hlt
          subst hga
          rw [mixE_ix (by omega)] at e0 e1 e2
          have hgz : g < z := HOZ.out g rfl
          have hgM : g < M := HOL.out g rfl
          have HCA := Lib.hid (fun w' (hw : NO w' w2.heap.size 84 5 QEst (.slice (some ⟨g, 0, none⟩) ne cap9) (mixE (R3.q ⟨fn, fs, fd⟩) el k)) => hw.cash (by rw [mixE_len]; exact hne) hlt (nR ((ix el k).m.q * R3.q ⟨fn, fs, fd⟩)))
          have hmx : (mixE (R3.q ⟨fn, fs, fd⟩) el k).set k ⟨nR ((ix el k).m.q * R3.q ⟨fn, fs, fd⟩), (ix (mixE (R3.q ⟨fn, fs, fd⟩) el k) k).c, (ix (mixE (R3.q ⟨fn, fs, fd⟩) el k) k).a⟩ = mixE (R3.q ⟨fn, fs, fd⟩) el (k + 1) := mixE_set (by omega)
          rw [hmx] at HCA
          have HM := Lib.hid (fun W => HMU.out k (by omega) W)
          have hrq : rq (rn (ix el k).m.q) (rs (ix el k).m.q) (rd (ix el k).m.q) = (ix el k).m.q := rq_of _
          have hrf : rq fn fs fd = R3.q ⟨fn, fs, fd⟩ := rfl
          rw [hrq, hrf] at HM
          unfold rv at HM
          have e0' : wr.cell? ⟨g, k * 5, none⟩ = some (.bool (rn (ix el k).m.q)) := e0
          have e1' : wr.cell? ⟨g, k * 5 + 1, none⟩ = some (.string (rs (ix el k).m.q)) := e1
          have e2' : wr.cell? ⟨g, k * 5 + 2, none⟩ = some (.string (rd (ix el k).m.q)) := e2
          have HCA := Lib.hid (fun w' (hw : NO w' w2.heap.size 84 5 QEst (.slice (some ⟨g, 0, none⟩) ne cap9) (mixE (R3.q ⟨fn, fs, fd⟩) el k)) => (show NO (((w'.setCell ⟨g, k * 5, none⟩ (.bool (rn ((ix el k).m.q * R3.q ⟨fn, fs, fd⟩)))).setCell ⟨g, k * 5 + 1, none⟩ (.string (rs ((ix el k).m.q * R3.q ⟨fn, fs, fd⟩)))).setCell ⟨g, k * 5 + 2, none⟩ (.string (rd ((ix el k).m.q * R3.q ⟨fn, fs, fd⟩)))) w2.heap.size 84 5 QEst (.slice (some ⟨g, 0, none⟩) ne cap9) (mixE (R3.q ⟨fn, fs, fd⟩) el (k + 1)) from HCA.out w' hw))
          generalize hL1 : mixE (R3.q ⟨fn, fs, fd⟩) el (k + 1) = L1 at *
          have HL1 := Lib.hid hL1
          clear hL1
          have hL0 : (mixE (R3.q ⟨fn, fs, fd⟩) el k).length = ne := by rw [mixE_len]; exact hne
          generalize mixE (R3.q ⟨fn, fs, fd⟩) el k = L0 at *
          generalize (ix el k).m.q = E at *
          generalize rn (E * R3.q ⟨fn, fs, fd⟩) = x1 at *
          generalize rs (E * R3.q ⟨fn, fs, fd⟩) = x2 at *
          generalize rd (E * R3.q ⟨fn, fs, fd⟩) = x3 at *
          have c0 := exc_cell (B := wr.heap.size) (K3.cell 0) (show z < wr.heap.size from hz3)
          have c1 := exc_cell (B := wr.heap.size) e0' (show g < wr.heap.size by omega)
          have c2 := exc_cell (B := wr.heap.size) e1' (show g < wr.heap.size by omega)
          have c3 := exc_cell (B := wr.heap.size) e2' (show g < wr.heap.size by omega)
          have c4 := exc_cell (B := wr.heap.size) (K1.cell 0) (show w.heap.size + 1 < wr.heap.size by omega)
          have c5 := exc_cell (B := wr.heap.size) (K1.cell 1) (show w.heap.size + 1 < wr.heap.size by omega)
          have c6 := exc_cell (B := wr.heap.size) (K1.cell 2) (show w.heap.size + 1 < wr.heap.size by omega)
          have i1 : (0 : Int) ≤ (k : Int) := by omega
          have i2 : (k : Int) < (ne : Int) := by omega
          clear K1 K2 K3 hno hdb hbw hmx hrq hrf e0 e1 e2 e0' e1' e2' HMU
          go_wp2_with fail
          obtain ⟨S, hS⟩ : ∃ S : Nat → World → Prop, S = fun k => if k = 1 ∨ k = 4 ∨ k = 8 ∨ k = 9 then Exc wr (fromB wr.heap.size) else fun _ => True := ⟨_, rfl⟩
          have S0 : S 0 = fun _ => True := by subst hS; rfl
          have S1 : S 1 = Exc wr (fromB wr.heap.size) := by subst hS; rfl
          have S2 : S 2 = fun _ => True := by subst hS; rfl
          have S3 : S 3 = fun _ => True := by subst hS; rfl
          have S4 : S 4 = Exc wr (fromB wr.heap.size) := by subst hS; rfl
          have S5 : S 5 = fun _ => True := by subst hS; rfl
          have S6 : S 6 = fun _ => True := by subst hS; rfl
          have S7 : S 7 = fun _ => True := by subst hS; rfl
          have S8 : S 8 = Exc wr (fromB wr.heap.size) := by subst hS; rfl
          have S9 : S 9 = Exc wr (fromB wr.heap.size) := by subst hS; rfl
          have S11 : S 11 = fun _ => True := by subst hS; rfl
          have S12 : S 12 = fun _ => True := by subst hS; rfl
          have hSK : ∀ k, k ∉ [1, 4, 8, 9] → ∀ w, S k w := fun k hk w => by subst hS; simp at hk; simp [hk]
          have hSX : ∀ k W, Below wr.heap.size wr W → S k W := fun k W h => by
            subst hS
            by_cases hc : k = 1 ∨ k = 4 ∨ k = 8 ∨ k = 9
            · simp only [if_pos hc]; exact exc_below h
            · simp only [if_neg hc]
          clear hS
          have HSX := Lib.hid hSX
          refine wp_region_segsN S [10, 13] [1, 4, 8, 9] [([0, 1, 2, 3, 4, 5, 6, 7, 8, 9], 10, [1, 4]), ([11, 12], 13, [])] [] (by kernel_rfl) (by kernel_rfl) (by kernel_rfl) (by kernel_rfl) hSK (fun k => hSX k _ (Below.refl _ _).drew) ?_
          clear hSX
          refine wpSegsN_cons ?_
          repeat (refine wpQS_cons ?_; simp only [getOps, gl9]; (try simp only [S0, S1, S2, S3, S4, S5, S6, S7, S8, S9]); (first | go_big_quiet_skip | (refine wpQuiet_step (fun K hK => ?_); go_simp; (try simp (disch := omega) only [ar9]); (first | (refine hK _ ?_; clear hK K) | (simp (disch := omega) only [if_pos, dif_pos, if_neg, dif_neg, ar9]; go_simp; refine hK _ ?_; clear hK K)))); refine wpQuiet_nil ?_)
          with_reducible refine wpQS_nil ?_
          (try simp only [getOps, gl9])
          go_step
          rename_i K9 hK9
          refine (HM.out _).mono ?_
          rintro e w6 ⟨rfl, hb6⟩
          have hbW : Below wr.heap.size wr w6 := chain (Below.refl wr.heap.size wr).drew hb6 (Nat.le_refl _)
          have HW6 := Lib.hid hbW
          have hzs := hbW.size
          have M3 := J3.out.on hbW
          have HN6 := Lib.hid (HNO.out.on qkeep_est hbW)
          obtain ⟨g', hga', -, -, e0, e1, e2, hfz6⟩ := HN6.out.estCells hL0 hlt
          obtain rfl : g = g' := by simpa using hga'
          have fz0 := hfz6 (k * 5)
          have fz1 := hfz6 (k * 5 + 1)
          have fz2 := hfz6 (k * 5 + 2)
          clear hb6 hbW
          refine hK9 _ _ ?_
          clear hK9 K9
          refine segQ_normal ⟨fun k hk => HSX.out k _ HW6.out, ?_⟩
          refine wpSegsN_cons ?_
          repeat (refine wpQS_cons ?_; simp only [getOps, gl9]; (try simp only [S11, S12]); (first | go_big_quiet_skip | (refine wpQuiet_step (fun K hK => ?_); go_simp; (try simp (disch := omega) only [ar9]); (first | (refine hK _ ?_; clear hK K) | (simp (disch := omega) only [if_pos, dif_pos, if_neg, dif_neg, ar9]; go_simp; refine hK _ ?_; clear hK K)))); refine wpQuiet_nil ?_)
          with_reducible refine wpQS_nil ?_
          (try simp only [getOps, gl9])
          have P1 := Lib.hid ((((J1.out.on HW6.out).setOther ⟨g, k * 5, none⟩ (.bool x1) (by simp; omega)).setOther ⟨g, k * 5 + 1, none⟩ (.string x2) (by simp; omega)).setOther ⟨g, k * 5 + 2, none⟩ (.string x3) (by simp; omega))
          have P2 := Lib.hid ((((J2.out.on HW6.out).setOther ⟨g, k * 5, none⟩ (.bool x1) (by simp; omega)).setOther ⟨g, k * 5 + 1, none⟩ (.string x2) (by simp; omega)).setOther ⟨g, k * 5 + 2, none⟩ (.string x3) (by simp; omega))
          have P3 := Lib.hid ((((J3.out.on HW6.out).setOther ⟨g, k * 5, none⟩ (.bool x1) (by simp; omega)).setOther ⟨g, k * 5 + 1, none⟩ (.string x2) (by simp; omega)).setOther ⟨g, k * 5 + 2, none⟩ (.string x3) (by simp; omega))
          have HN9 := Lib.hid (HCA.out w6 HN6.out)
          have HB9 := Lib.hid ((((HB.out.trans (HW6.out.mono (by omega))).setCell (p := ⟨g, k * 5, none⟩) (by simp; omega) (.bool x1)).setCell (p := ⟨g, k * 5 + 1, none⟩) (by simp; omega) (.string x2)).setCell (p := ⟨g, k * 5 + 2, none⟩) (by simp; omega) (.string x3))
          have HD9 := Lib.hid (HDB.out.keep (w' := ((w6.setCell ⟨g, k * 5, none⟩ (.bool x1)).setCell ⟨g, k * 5 + 1, none⟩ (.string x2)).setCell ⟨g, k * 5 + 2, none⟩ (.string x3)) (q := fun b => M ≤ b ∧ b < (((w6.setCell ⟨g, k * 5, none⟩ (.bool x1)).setCell ⟨g, k * 5 + 1, none⟩ (.string x2)).setCell ⟨g, k * 5 + 2, none⟩ (.string x3)).heap.size) ⟨fun b hb hl => by
            have := hb.1
            rw [heap_setCell_other _ _ _ _ (by simp; omega), heap_setCell_other _ _ _ _ (by simp; omega), heap_setCell_other _ _ _ _ (by simp; omega)]
            exact HW6.out.block b hl⟩ fun b hb => ⟨hb.1, by have := hb.2; simp only [World.size_setCell]; omega⟩)
          go_step
          rename_i K9 hK9
          refine hK9 _ _ ?_
          clear hK9 K9
          refine segQ_normal ⟨fun k hk => by simp at hk, ?_⟩
          refine wpSegsN_nil ?_
          repeat (refine wpQS_cons ?_; simp only [getOps, gl9]; (first | go_big_quiet_skip | (refine wpQuiet_step (fun K hK => ?_); go_simp; (try simp (disch := omega) only [ar9]); (first | (refine hK _ ?_; clear hK K) | (simp (disch := omega) only [if_pos, dif_pos, if_neg, dif_neg, ar9]; go_simp; refine hK _ ?_; clear hK K)))); refine wpQuiet_nil ?_)
          with_reducible refine wpQS_nil ?_
          go_wp2
          go_roundw
          case rel => exact ⟨k + 1, by go_num, by omega, P1.out, P2.out, P3.out, by rw [HL1.out]; exact HN9, HD9, HB9.out⟩
          case measure => simp [intOf]; omega
        · obtain rfl : k = ne := by omega
          have hnl9 : decide ((k : Int) < (k : Int)) = false := by simp
          have hfull : mixE (R3.q ⟨fn, fs, fd⟩) el k = el.map (frE (R3.q ⟨fn, fs, fd⟩)) := by rw [← hne]; exact mixE_full _ _
          rw [hfull] at HNO
          have z0 := K3.cell 0
          have z1 := K3.cell 1
          have r0 := K2.cell 0
          have r1 := K2.cell 1
          have f0 := K2.frozen 0
          have f1 := K2.frozen 1
          have HVE := Lib.hid (show REsts wr (Fr w2.heap.size wr) (.slice av9 k cap9) (el.map (frE (R3.q ⟨fn, fs, fd⟩))) from HNO.out.toRL qkeep_est)
          clear K1 K2 K3 hno hdb hbw
          go_wp2
          refine bodyPost_forget (fun W => Blk W (w.heap.size + 1 + 1) #[.slice av9 k cap9, .slice bv9 nb9 bap9] ∧ REsts W (Fr w.heap.size W) (.slice av9 k cap9) (el.map (frE (R3.q ⟨fn, fs, fd⟩))) ∧ RDbts W (Fr w.heap.size W) (.slice bv9 nb9 bap9) (dl.map clD) ∧ Below w.heap.size w W)
            ⟨by exact (J2.out.set 0 _).set 1 _, ?_, ?_, by exact (HB.out.setCell (p := ⟨w.heap.size + 1 + 1, 0, none⟩) (by simp; omega) _).setCell (p := ⟨w.heap.size + 1 + 1, 1, none⟩) (by simp; omega) _⟩ ?_
          · refine HVE.out.keep ⟨fun b hb hl => ?_⟩ fun b hb => ⟨by have := hb.1; omega, ?_⟩
            · have := hb.1
              rw [heap_setCell_other _ _ _ _ (by simp; omega), heap_setCell_other _ _ _ _ (by simp; omega)]
            · have := hb.2; simp only [World.size_setCell]; omega
          · refine HDB.out.keep ⟨fun b hb hl => ?_⟩ fun b hb => ⟨by have := hb.1; omega, ?_⟩
            · have := hb.1
              rw [heap_setCell_other _ _ _ _ (by simp; omega), heap_setCell_other _ _ _ _ (by simp; omega)]
            · have := hb.2; simp only [World.size_setCell]; omega
          · rintro WR ⟨hr9, hn9, hd9, hb9⟩
            have y0 : WR.cell? ⟨w.heap.size + 1 + 1, 0, none⟩ = some (.slice av9 k cap9) := hr9.cell 0
            have y1 : WR.cell? ⟨w.heap.size + 1 + 1, 1, none⟩ = some (.slice bv9 nb9 bap9) := hr9.cell 1
            exact bodyPost_ret (v := .tuple #[.agg #[.slice av9 k cap9, .slice bv9 nb9 bap9], .int .i64 0]) (by simp [results, Tryz.results24, go_sem, y0, y1]) rfl ⟨_, _, rfl, hn9, hd9, hb9⟩
    · have hr' : inRB f.q = false := by simpa using hr
      have hcg : frcG g f.q = ⟨[], []⟩ := by unfold frcG; rw [if_neg (fun h => hr h.2)]
      rw [hce, hcg, if_neg hr]
      rw [hr'] at HI
      rw [hc] at HCK
      clear hE hD hs hf hsb hlim hc hr hr' hce hcg hp
      obtain ⟨fn, fs, fd⟩ := f
      dsimp only at *
      go_enter Tryz.func24, Tryz.ntmps24
      go_wp2_with fail
      refine (HCK.out _ (three_boxes w _ _ _ _ _ _).2.2.2).mono ?_; rintro x w1 ⟨rfl, hb1⟩
      obtain ⟨K0, K1, K2, hbw⟩ := boxes3 hb1
      have J2 := Lib.hid K2
      have HB := Lib.hid hbw
      obtain ⟨k0, k1, k2, -, -, -⟩ := K1.get3
      clear hb1 K0 K1 K2 hbw
      go_wp2_with fail
      refine (HI.out _).mono ?_; rintro x w2 ⟨rfl, hb2⟩
      have K2 := J2.out.on hb2
      have HB := Lib.hid (chain HB.out hb2 (Nat.le_refl _))
      have r0 := K2.cell 0
      have r1 := K2.cell 1
      have f0 := K2.frozen 0
      have f1 := K2.frozen 1
      have J2 := Lib.hid K2
      clear hb2 K2
      go_wp2
      refine bodyPost_forget (fun W => Blk W (w.heap.size + 1 + 1) #[.slice none 0 0, .slice none 0 0] ∧ Below w.heap.size w W)
        ⟨by exact (J2.out.set 0 _).set 1 _, by exact (HB.out.setCell (p := ⟨w.heap.size + 1 + 1, 0, none⟩) (by simp; omega) _).setCell (p := ⟨w.heap.size + 1 + 1, 1, none⟩) (by simp; omega) _⟩ ?_
      rintro WR ⟨hr9, hb9⟩
      have y0 : WR.cell? ⟨w.heap.size + 1 + 1, 0, none⟩ = some (.slice none 0 0) := hr9.cell 0
      have y1 : WR.cell? ⟨w.heap.size + 1 + 1, 1, none⟩ = some (.slice none 0 0) := hr9.cell 1
      exact bodyPost_ret (v := .tuple #[.agg #[.slice none 0 0, .slice none 0 0], .int .i64 1]) (by simp [results, Tryz.results24, go_sem, y0, y1]) rfl (RetF.nil hb9)
  · have hce : frcE g f.q = chkG g := by unfold frcE; rw [if_neg hc]
    have hcg : frcG g f.q = ⟨[], []⟩ := by unfold frcG; rw [if_neg (fun h => hc h.1)]
    rw [hce, hcg]
    generalize chkG g = c at *
    have hc1 : (c == 0) = false := by simp [hc]
    have hc2 : (c != 0) = true := by simp [hc]
    clear hE hD hs hf hsb hce hcg hp
    obtain ⟨fn, fs, fd⟩ := f
    dsimp only at *
    go_enter Tryz.func24, Tryz.ntmps24
    go_wp2_with fail
    refine (HCK.out _ (three_boxes w _ _ _ _ _ _).2.2.2).mono ?_; rintro x w1 ⟨rfl, hb1⟩
    obtain ⟨K0, K1, K2, hbw⟩ := boxes3 hb1
    have J2 := Lib.hid K2
    have HB := Lib.hid hbw
    have r0 := K2.cell 0
    have r1 := K2.cell 1
    have f0 := K2.frozen 0
    have f1 := K2.frozen 1
    clear hb1 K0 K1 K2 hbw
    go_wp2
    refine bodyPost_forget (fun W => Blk W (w.heap.size + 1 + 1) #[.slice none 0 0, .slice none 0 0] ∧ Below w.heap.size w W)
      ⟨by exact (J2.out.set 0 _).set 1 _, by exact (HB.out.setCell (p := ⟨w.heap.size + 1 + 1, 0, none⟩) (by simp; omega) _).setCell (p := ⟨w.heap.size + 1 + 1, 1, none⟩) (by simp; omega) _⟩ ?_
    rintro WR ⟨hr9, hb9⟩
    have y0 : WR.cell? ⟨w.heap.size + 1 + 1, 0, none⟩ = some (.slice none 0 0) := hr9.cell 0
    have y1 : WR.cell? ⟨w.heap.size + 1 + 1, 1, none⟩ = some (.slice none 0 0) := hr9.cell 1
    exact bodyPost_ret (v := .tuple #[.agg #[.slice none 0 0, .slice none 0 0], .int .i64 c]) (by simp [results, Tryz.results24, go_sem, y0, y1]) rfl (RetF.nil hb9)
end Go.Proofs.Ins
