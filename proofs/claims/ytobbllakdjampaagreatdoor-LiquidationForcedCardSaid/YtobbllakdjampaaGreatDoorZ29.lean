/- Slices of the call's own: one element's cells are stored. -/
import Derived.Test.YtobbllakdjampaaGreatDoorZ1
import Derived.Test.YtobbllakdjampaaGreatDoorZ16
import Derived.Test.YtobbllakdjampaaGreatDoorZ28

set_option linter.unusedSimpArgs false
set_option linter.unusedVariables false
namespace Go.Proofs.Ins
open Go.RowKit

theorem estInfo : (Tryz.prog.info? 84).map (fun i => (i.zero.map (fun z => z.cells.size), i.size, i.bytes)) = some (some 5, 5, 88) := by kernel_rfl
theorem dbtInfo : (Tryz.prog.info? 96).map (fun i => (i.zero.map (fun z => z.cells.size), i.size, i.bytes)) = some (some 4, 4, 64) := by kernel_rfl
/-- A group handed back: its estates in a slice of the call's own, their parts in blocks ahead of M, the debts behind. -/
def RetGC (w : World) (g : Grp) : Ending → World → Prop := fun x w' => ∃ ev dv M, x = .returned (.agg #[ev, dv]) ∧ w.heap.size ≤ M ∧ NO w' w.heap.size 84 5 QEst ev g.e ∧ (∀ b, ev.ownBlock = some b → b < M) ∧ RDbts w' (fun b => M ≤ b ∧ b < w'.heap.size) dv g.d ∧ Below w.heap.size w w'

section
variable {α : Type} [Inhabited α] {w w' : World} {B : Nat} {T : TypeId} {sz : Nat} {Q : World → (Nat → Prop) → List Value → α → Prop} {v : Value} {l : List α}
theorem NO.base (hQ : QKeep Q) (h : NO w B T sz Q v l) {B' : Nat} (hB : B' ≤ B) : NO w B' T sz Q v l := by
  obtain ⟨G, ⟨⟨h1, h2⟩, h3⟩, hq⟩ := h
  refine ⟨G, ⟨⟨h1, ?_⟩, h3⟩, fun i hi => hQ _ _ _ _ _ _ (hq i hi) ⟨fun _ _ _ => rfl⟩ fun b hb => ⟨Nat.le_trans hB hb.1, hb.2⟩⟩
  rcases h2 with h2 | ⟨g, cap, cur, e, hb, r⟩
  · exact .inl h2
  · exact .inr ⟨g, cap, cur, e, Nat.le_trans hB hb, r⟩
end
set_option maxRecDepth 100000 in
set_option maxHeartbeats 6400000 in
theorem copygroup_any (p : Nat → Prop) (g : Grp) (ev dv : Value) (w : World) (hE : REsts w p ev g.e) (hD : RDbts w p dv g.d) (hs : SmallG 134217728 g) (hl : LimG g) :
    Calls Tryz.prog 52 #[.agg #[ev, dv]] w (RetGC w (clG g)) := by
  have HCE := Lib.hid (fun i (hi : i < g.e.length) cv av W (h1 : RClaims W p cv (ix g.e i).c) (h2 : RAgrs W p av (ix g.e i).a) => copyestate_any p (ix g.e i) cv av W h1 h2 (hs.e i hi) (hl.e i hi))
  have HCW := Lib.hid (fun i (hi : i < g.d.length) w => (show Calls Tryz.prog 82 #[.agg #[.bool (ix g.d i).w.n, .string (ix g.d i).w.s, .string (ix g.d i).w.d]] w (fun x w' => x = .returned (.agg #[.bool (nR (ix g.d i).w.q).n, .string (nR (ix g.d i).w.q).s, .string (nR (ix g.d i).w.q).d]) ∧ Below w.heap.size w w') from clean31 _ _ _ w (by have := (hs.w i hi).1; have := (hs.w i hi).2; omega)))
  have HCL := Lib.hid (fun i (hi : i < g.d.length) v W (h : RLegs W p v (ix g.d i).l) => clone_legs p (ix g.d i).l v W h (by have := hl.l i hi; omega))
  have hle := hl.le
  have hld := hl.ld
  obtain ⟨GE, hSE, hQE⟩ := hE
  obtain ⟨ae, ce, rfl, -, -⟩ := hSE.form
  have HSE := Lib.hid hSE
  have HQE := Lib.hid hQE
  have HEL := Lib.hid (REsts.elem hQE)
  obtain ⟨GD, hSD, hQD⟩ := hD
  obtain ⟨ad, cd, rfl, -, -⟩ := hSD.form
  have HSD := Lib.hid hSD
  have HQD := Lib.hid hQD
  have HDL := Lib.hid (RDbts.elem hQD)
  unfold RetGC clG
  clear hs hl hSE hQE hSD hQD
  obtain ⟨el, dl⟩ := g
  dsimp only at *
  generalize hne : el.length = ne at *
  generalize hnd : dl.length = nd at *
  go_enter Tryz.func52, Tryz.ntmps52
  go_wp2_with fail
  refine wp_forget (fun W => ∃ z, z = w.heap.size + 1 + 1 ∧ Blk W w.heap.size #[.slice ae ne ce, .slice ad nd cd] ∧ Blk W (w.heap.size + 1) #[.slice none 0 0, .slice none 0 0] ∧ Blk W z #[.slice none 0 0, .slice none 0 0] ∧ Below w.heap.size w W) ⟨_, rfl, three_boxes w _ _ _ _ _ _⟩ ?_
  rintro W5 ⟨z, hz, K0, K1, K2, hb5⟩
  rw [← hz]
  have J0 := Lib.hid K0
  have J1 := Lib.hid K1
  have J2 := Lib.hid K2
  have HB := Lib.hid hb5
  have hyz : w.heap.size + 1 < z := by omega
  clear hz K0 K1 K2 hb5
  have k0 : W5.cell? ⟨w.heap.size, 0, none⟩ = some (.slice ae ne ce) := J0.out.cell 0
  go_wp2_with fail
  clear k0
  go_loopw [11] (fun i wr => ∃ k v, i = .int .i64 (k : Nat) ∧ k ≤ ne ∧ Blk wr w.heap.size #[.slice ae ne ce, .slice ad nd cd] ∧ Blk wr (w.heap.size + 1) #[.slice none 0 0, .slice none 0 0] ∧ Blk wr z #[v, .slice none 0 0] ∧ Hid (NO wr (z + 1) 84 5 QEst v ((el.take k).map clE)) ∧ Below w.heap.size w wr) (fun i _ => ne - (intOf i).toNat)
  case atStart => exact ⟨0, _, rfl, by omega, J0.out, J1.out, J2.out, NO.nil _ _ _ _ _, HB.out⟩
  case round =>
    obtain ⟨k, v, rfl, hk, K0, K1, K2, hno, hbw⟩ := hrel
    have hz2 := K2.lt
    have J0 := Lib.hid K0
    have J1 := Lib.hid K1
    have J2 := Lib.hid K2
    have HNO := Lib.hid hno.out
    have HB := Lib.hid hbw
    have hzb := hbw.size
    have hln : ((el.take k).map clE).length = k := by simp; omega
    obtain ⟨av9, cap9, rfl⟩ := HNO.out.form' hln
    by_cases hlt : k < ne
    · obtain ⟨b3, off3, rfl, -, -, -⟩ := HSE.out.get (by omega)
      obtain ⟨a2, c2, a3, c3, hge, hC, hA⟩ := HEL.out k hlt
      have d0 := HSE.out.cellAt rfl HB.out (i := k) (j := 0) hlt (by omega)
      have d1 := HSE.out.cellAt rfl HB.out (i := k) (j := 1) hlt (by omega)
      have d2 := HSE.out.cellAt rfl HB.out (i := k) (j := 2) hlt (by omega)
      have d3 := HSE.out.cellAt rfl HB.out (i := k) (j := 3) hlt (by omega)
      have d4 := HSE.out.cellAt rfl HB.out (i := k) (j := 4) hlt (by omega)
      rw [hge] at d0 d1 d2 d3 d4
      rw [Nat.add_zero] at d0
      have e0 : wr.cell? ⟨b3, off3 + k * 5, none⟩ = some (.bool (ix el k).m.n) := d0
      have e1 : wr.cell? ⟨b3, off3 + k * 5 + 1, none⟩ = some (.string (ix el k).m.s) := d1
      have e2 : wr.cell? ⟨b3, off3 + k * 5 + 2, none⟩ = some (.string (ix el k).m.d) := d2
      have e3 : wr.cell? ⟨b3, off3 + k * 5 + 3, none⟩ = some (.slice a2 (ix el k).c.length c2) := d3
      have e4 : wr.cell? ⟨b3, off3 + k * 5 + 4, none⟩ = some (.slice a3 (ix el k).a.length c3) := d4
      have HCK := Lib.hid (fun W h1 h2 => HCE.out k hlt (.slice a2 (ix el k).c.length c2) (.slice a3 (ix el k).a.length c3) W h1 h2)
      have HC := Lib.hid (hC.on HB.out)
      have HA := Lib.hid (hA.on HB.out)
      have HTK := Lib.hid (take_map_succ clE (l := el) (k := k) (by omega))
      have i1 : (0 : Int) ≤ (k : Int) := by omega
      have i2 : (k : Int) < (ne : Int) := by omega
      clear d0 d1 d2 d3 d4 hge hC hA K0 K1 K2 hno hbw HCE HCW HCL HSE HQE HEL HSD HQD
      generalize (el.take k).map clE = pre at *
      generalize ix el k = E at *
      unfold Est.v at HCK
      generalize clE E = E' at *
      generalize hmn : E.m.n = mn at *
      generalize hms : E.m.s = ms at *
      generalize hmd : E.m.d = md at *
      generalize hcl : E.c = cl at *
      generalize hal : E.a = al at *
      generalize cl.length = nc at *
      generalize al.length = na at *
      clear hmn hms hmd hcl hal
      go_wp2_with fail
      refine wp_forget (fun W => ∃ y, y = wr.heap.size ∧ W.heap.size = y + 1 ∧ Blk W y #[.bool mn, .string ms, .string md, .slice a2 nc c2, .slice a3 na c3] ∧ Blk W w.heap.size #[.slice (some ⟨b3, off3, none⟩) ne ce, .slice ad nd cd] ∧ Blk W (w.heap.size + 1) #[.slice none 0 0, .slice none 0 0] ∧ Blk W z #[.slice av9 k cap9, .slice none 0 0] ∧ Hid (NO W (z + 1) 84 5 QEst (.slice av9 k cap9) pre) ∧ Hid (RClaims W p (.slice a2 nc c2) cl) ∧ Hid (RAgrs W p (.slice a3 na c3) al) ∧ Below w.heap.size w W)
        ⟨_, rfl, by simp, Blk.new wr _ _, J0.out.alloc _, J1.out.alloc _, J2.out.alloc _, HNO.out.on qkeep_est ((Below.refl _ _).alloc (Nat.le_refl _) _), HC.out.on ((Below.refl _ _).alloc (Nat.le_refl _) _), HA.out.on ((Below.refl _ _).alloc (Nat.le_refl _) _), HB.out.alloc (by omega) _⟩ ?_
      rintro W ⟨y, hy, hyW, K5, K0, K1, K2, hno, hC, hA, hbw⟩
      rw [← hy]
      have hzy : z < y := by omega
      have J0 := Lib.hid K0
      have J1 := Lib.hid K1
      have J2 := Lib.hid K2
      have HNO := Lib.hid hno.out
      have HC := Lib.hid hC.out
      have HA := Lib.hid hA.out
      have HB := Lib.hid hbw
      have c0 := exc_but_cell (K2.cell 0) (rfl : _ = z)
      have c1 := exc_but_cell (K5.cell 0) (rfl : _ = y)
      have c2' := exc_but_cell (K5.cell 1) (rfl : _ = y)
      have c3' := exc_but_cell (K5.cell 2) (rfl : _ = y)
      have c4 := exc_but_cell (K5.cell 3) (rfl : _ = y)
      have c5 := exc_but_cell (K5.cell 4) (rfl : _ = y)
      clear hy e0 e1 e2 e3 e4 K0 K1 K2 K5 hno hC hA hbw
      obtain ⟨S, hS⟩ : ∃ S : Nat → World → Prop, S = fun k => if k = 1 then Exc W (butB z) else if k = 2 then Exc W (butB y) else fun _ => True := ⟨_, rfl⟩
      have S0 : S 0 = fun _ => True := by subst hS; rfl
      have S1 : S 1 = Exc W (butB z) := by subst hS; rfl
      have S2 : S 2 = Exc W (butB y) := by subst hS; rfl
      have S6 : S 6 = fun _ => True := by subst hS; rfl
      have hSK : ∀ k, k ∉ [1, 2] → ∀ w, S k w := fun k hk w => by subst hS; simp at hk; simp [hk]
      have hSW : ∀ k, S k W.drew := fun k => by
        by_cases h1 : k = 1
        · subst h1; rw [S1]; exact exc_but rfl rfl rfl (Nat.le_refl _) rfl
        · by_cases h2 : k = 2
          · subst h2; rw [S2]; exact exc_but rfl rfl rfl (Nat.le_refl _) rfl
          · exact hSK k (by simp [h1, h2]) _
      clear hS
      have HS1 := Lib.hid S1
      refine wp_region_segsN S [3, 4, 5, 7] [1, 2] [([0, 1, 2], 3, [1]), ([], 4, [1]), ([], 5, []), ([6], 7, [])] [] (by kernel_rfl) (by kernel_rfl) (by kernel_rfl) (by kernel_rfl) hSK hSW ?_
      refine wpSegsN_cons ?_
      repeat (refine wpQS_cons ?_; simp only [getOps, gl9]; (try simp only [S0, S1, S2]); (first | go_big_quiet_skip | (refine wpQuiet_step (fun K hK => ?_); go_simp; (try simp (disch := omega) only [ar9]); (first | (refine hK _ ?_; clear hK K) | (simp (disch := omega) only [if_pos, dif_pos, if_neg, dif_neg, ar9]; go_simp; refine hK _ ?_; clear hK K)))); refine wpQuiet_nil ?_)
      with_reducible refine wpQS_nil ?_
      (try simp only [getOps, gl9])
      go_step
      rename_i K9 hK9
      refine (HCK.out _ (HC.out.keep (w' := W.drew) ⟨fun _ _ _ => rfl⟩ fun _ h => h) (HA.out.keep (w' := W.drew) ⟨fun _ _ _ => rfl⟩ fun _ h => h)).mono ?_
      rintro e w1 ⟨cv', av', rfl, hc', ha', hb1⟩
      have hbW : Below W.heap.size W w1 := chain (Below.refl W.heap.size W).drew hb1 (Nat.le_refl _)
      obtain ⟨x1, x2, rfl, -, -⟩ := hc'.plain.form
      obtain ⟨x3, x4, rfl, -, -⟩ := (show ∃ a cap, av' = .slice a E'.a.length cap ∧ E'.a.length ≤ cap ∧ cap ≤ 9223372036854775807 from by obtain ⟨GA, hSA, -⟩ := ha'; exact hSA.form)
      have hzs := hbW.size
      obtain ⟨v9, w9, hr9, hno9, hb9⟩ := NO.app qkeep_est (w0 := W) (w := w1) (t := 56) (E := [.bool E'.m.n, .string E'.m.s, .string E'.m.d, .slice x1 E'.c.length x2, .slice x3 E'.a.length x4]) (x := E') HNO.out hbW ⟨_, _, rfl, hc', ha'⟩ Tryz.underlying56 estInfo (by omega) rfl (by simp [Value.oneCell']) (by omega) (by omega) (by omega)
      obtain ⟨a99, cap99, rfl⟩ := hno9.form
      generalize (pre ++ [E']).length = n99 at *
      have M8 := (J2.out.on hbW).below hb9 (by omega)
      have c9 : w9.cell? ⟨z, 0, none⟩ = some (.slice av9 k cap9) := M8.cell 0
      have f9 := M8.frozen 0
      have MS := Lib.hid (M8.set 0 (.slice a99 n99 cap99))
      have P0 := Lib.hid (((J0.out.on hbW).below hb9 (by omega)).setOther ⟨z, 0, none⟩ (.slice a99 n99 cap99) (by simp; omega))
      have P1 := Lib.hid (((J1.out.on hbW).below hb9 (by omega)).setOther ⟨z, 0, none⟩ (.slice a99 n99 cap99) (by simp; omega))
      have HN9 := Lib.hid (hno9.setCell qkeep_est ⟨z, 0, none⟩ (.slice a99 n99 cap99) (by simp))
      have HB9 := Lib.hid ((HB.out.trans ((hbW.mono (by omega)).trans (hb9.mono (by omega)))).setCell (p := ⟨z, 0, none⟩) (by simp; omega) (.slice a99 n99 cap99))
      have HR9 := Lib.hid hr9
      have HW1 := Lib.hid hbW
      clear hr9 hno9 hb9 hb1 hc' ha' M8 hbW
      simp only [Est.v]
      generalize E'.m.n = mn' at *
      generalize E'.m.s = ms' at *
      generalize E'.m.d = md' at *
      generalize E'.c.length = lc' at *
      generalize E'.a.length = la' at *
      refine hK9 _ _ ?_
      clear hK9 K9
      refine segQ_normal ⟨fun k hk => by (simp at hk; subst hk; rw [HS1.out]; exact exc_but HW1.out.os HW1.out.tape HW1.out.output HW1.out.size (HW1.out.block z (by omega))), ?_⟩
      refine wpSegsN_cons ?_
      repeat (refine wpQS_cons ?_; simp only [getOps, gl9]; (first | go_big_quiet_skip | (refine wpQuiet_step (fun K hK => ?_); go_simp; (try simp (disch := omega) only [ar9]); (first | (refine hK _ ?_; clear hK K) | (simp (disch := omega) only [if_pos, dif_pos, if_neg, dif_neg, ar9]; go_simp; refine hK _ ?_; clear hK K)))); refine wpQuiet_nil ?_)
      with_reducible refine wpQS_nil ?_
      (try simp only [getOps, gl9])
      go_step
      rename_i K9 hK9
      refine hK9 _ _ ?_
      clear hK9 K9
      have hwa := HW1.out.alloc hzs (.cells #[.bool mn', .string ms', .string md', .slice x1 lc' x2, .slice x3 la' x4] 84)
      refine segQ_normal ⟨fun k hk => by (simp at hk; subst hk; rw [HS1.out]; exact exc_but hwa.os hwa.tape hwa.output hwa.size (hwa.block z (by omega))), ?_⟩
      clear hwa
      refine wpSegsN_cons ?_
      repeat (refine wpQS_cons ?_; simp only [getOps, gl9]; (first | go_big_quiet_skip | (refine wpQuiet_step (fun K hK => ?_); go_simp; (try simp (disch := omega) only [ar9]); (first | (refine hK _ ?_; clear hK K) | (simp (disch := omega) only [if_pos, dif_pos, if_neg, dif_neg, ar9]; go_simp; refine hK _ ?_; clear hK K)))); refine wpQuiet_nil ?_)
      with_reducible refine wpQS_nil ?_
      (try simp only [getOps, gl9])
      refine Lib.wpList_append_run _ rfl _ _ _ _ rfl _ _ rfl rfl _ _ (HR9.out _) ?_
      refine segQ_normal ⟨fun k hk => by simp at hk, ?_⟩
      refine wpSegsN_cons ?_
      repeat (refine wpQS_cons ?_; simp only [getOps, gl9]; (try simp only [S6]); (first | go_big_quiet_skip | (refine wpQuiet_step (fun K hK => ?_); go_simp; (try simp (disch := omega) only [ar9]); (first | (refine hK _ ?_; clear hK K) | (simp (disch := omega) only [if_pos, dif_pos, if_neg, dif_neg, ar9]; go_simp; refine hK _ ?_; clear hK K)))); refine wpQuiet_nil ?_)
      with_reducible refine wpQS_nil ?_
      (try simp only [getOps, gl9])
      go_step
      rename_i K9 hK9
      refine hK9 _ _ ?_
      clear hK9 K9
      refine segQ_normal ⟨fun k hk => by simp at hk, ?_⟩
      refine wpSegsN_nil ?_
      repeat (refine wpQS_cons ?_; simp only [getOps, gl9]; (first | go_big_quiet_skip | (refine wpQuiet_step (fun K hK => ?_); go_simp; (try simp (disch := omega) only [ar9]); (first | (refine hK _ ?_; clear hK K) | (simp (disch := omega) only [if_pos, dif_pos, if_neg, dif_neg, ar9]; go_simp; refine hK _ ?_; clear hK K)))); refine wpQuiet_nil ?_)
      with_reducible refine wpQS_nil ?_
      go_wp2
      go_roundw
      case rel => exact ⟨k + 1, .slice a99 n99 cap99, by go_num, by omega, P0.out, P1.out, MS.out, by rw [HTK.out]; exact HN9, HB9.out⟩
      case measure => simp [intOf]; omega
    · obtain rfl : k = ne := by omega
      have hnl9 : decide ((k : Int) < (k : Int)) = false := by simp
      have hfull : (el.take k).map clE = el.map clE := by rw [← hne, List.take_length]
      rw [hfull] at HNO
      have k0 : wr.cell? ⟨w.heap.size, 1, none⟩ = some (.slice ad nd cd) := K0.cell 1
      obtain ⟨w2, rfl⟩ : ∃ w2, w2 = wr := ⟨wr, rfl⟩
      have HB2 := Lib.hid HB.out
      have HOL := Lib.hid (fun b (hb : (Value.slice av9 k cap9).ownBlock = some b) => (NO.own_lt HNO.out hb).2)
      clear K0 K1 K2 hno hbw HCE HSE HQE HEL hln hfull HB
      go_wp2_with fail
      clear k0
      go_loopw [26] (fun i wr => ∃ j v, i = .int .i64 (j : Nat) ∧ j ≤ nd ∧ Blk wr w.heap.size #[.slice ae k ce, .slice ad nd cd] ∧ Blk wr (w.heap.size + 1) #[.slice none 0 0, .slice none 0 0] ∧ Blk wr z #[.slice av9 k cap9, v] ∧ Hid (NO wr w2.heap.size 96 4 QDbt v ((dl.take j).map clD)) ∧ Hid (∀ b, z + 1 ≤ b → b < w2.heap.size → wr.heap[b]? = w2.heap[b]?) ∧ Below w.heap.size w wr ∧ w2.heap.size ≤ wr.heap.size) (fun i _ => nd - (intOf i).toNat)
      case atStart => exact ⟨0, _, rfl, by omega, J0.out, J1.out, J2.out, NO.nil _ _ _ _ _, fun _ _ _ => rfl, HB2.out, Nat.le_refl _⟩
      case round =>
        obtain ⟨j, v, rfl, hj, K0, K1, K2, hno, hkk, hbw, hwz⟩ := hrel
        have hz3 := K2.lt
        have J0 := Lib.hid K0
        have J1 := Lib.hid K1
        have J2 := Lib.hid K2
        have HND := Lib.hid hno.out
        have HKK := Lib.hid hkk.out
        have HB := Lib.hid hbw
        have hzb3 := hbw.size
        have hln : ((dl.take j).map clD).length = j := by simp; omega
        obtain ⟨bv9, bap9, rfl⟩ := HND.out.form' hln
        by_cases hlt : j < nd
        · obtain ⟨b3, off3, rfl, -, -, -⟩ := HSD.out.get (by omega)
          obtain ⟨a2, c2, hge, hL⟩ := HDL.out j hlt
          have d0 := HSD.out.cellAt rfl HB.out (i := j) (j := 0) hlt (by omega)
          have d1 := HSD.out.cellAt rfl HB.out (i := j) (j := 1) hlt (by omega)
          have d2 := HSD.out.cellAt rfl HB.out (i := j) (j := 2) hlt (by omega)
          have d3 := HSD.out.cellAt rfl HB.out (i := j) (j := 3) hlt (by omega)
          rw [hge] at d0 d1 d2 d3
          rw [Nat.add_zero] at d0
          have e0 : wr.cell? ⟨b3, off3 + j * 4, none⟩ = some (.bool (ix dl j).w.n) := d0
          have e1 : wr.cell? ⟨b3, off3 + j * 4 + 1, none⟩ = some (.string (ix dl j).w.s) := d1
          have e2 : wr.cell? ⟨b3, off3 + j * 4 + 2, none⟩ = some (.string (ix dl j).w.d) := d2
          have e3 : wr.cell? ⟨b3, off3 + j * 4 + 3, none⟩ = some (.slice a2 (ix dl j).l.length c2) := d3
          have HCK := Lib.hid (fun W => HCW.out j hlt W)
          have HLK := Lib.hid (fun W h => HCL.out j hlt (.slice a2 (ix dl j).l.length c2) W h)
          have HL := Lib.hid (hL.on HB.out)
          have HTK := Lib.hid (show (dl.take (j + 1)).map clD = (dl.take j).map clD ++ [⟨nR (ix dl j).w.q, (ix dl j).l⟩] from take_map_succ clD (l := dl) (k := j) (by omega))
          have i1 : (0 : Int) ≤ (j : Int) := by omega
          have i2 : (j : Int) < (nd : Int) := by omega
          clear d0 d1 d2 d3 hge hL K0 K1 K2 hno hbw hkk HCW HCL HSD HQD HDL HNO HOL
          generalize (dl.take j).map clD = pre at *
          generalize ix dl j = D at *
          obtain ⟨⟨mn, ms, md⟩, ll⟩ := D
          dsimp only at e0 e1 e2 e3 HCK HLK HL HTK
          generalize nR (R3.q ⟨mn, ms, md⟩) = m' at *
          obtain ⟨n', s', d'⟩ := m'
          dsimp only at HCK
          generalize hnl : ll.length = nl at *
          go_wp2_with fail
          refine wp_forget (fun W => ∃ y, y = wr.heap.size ∧ W.heap.size = y + 1 ∧ Blk W y #[.bool mn, .string ms, .string md, .slice a2 nl c2] ∧ Blk W w.heap.size #[.slice ae k ce, .slice (some ⟨b3, off3, none⟩) nd cd] ∧ Blk W (w.heap.size + 1) #[.slice none 0 0, .slice none 0 0] ∧ Blk W z #[.slice av9 k cap9, .slice bv9 j bap9] ∧ Hid (NO W w2.heap.size 96 4 QDbt (.slice bv9 j bap9) pre) ∧ Hid (RLegs W p (.slice a2 nl c2) ll) ∧ Hid (∀ b, z + 1 ≤ b → b < w2.heap.size → W.heap[b]? = w2.heap[b]?) ∧ Below w.heap.size w W)
            ⟨_, rfl, by simp, Blk.new wr _ _, J0.out.alloc _, J1.out.alloc _, J2.out.alloc _, HND.out.on qkeep_dbt ((Below.refl _ _).alloc (Nat.le_refl _) _), HL.out.on ((Below.refl _ _).alloc (Nat.le_refl _) _), fun b hb hb2 => (Below.heap_alloc wr _ b (by omega)).trans (HKK.out b hb hb2), HB.out.alloc (by omega) _⟩ ?_
          rintro W ⟨y, hy, hyW, K5, K0, K1, K2, hno, hL, hkk, hbw⟩
          rw [← hy]
          have hwy : w2.heap.size ≤ y := by omega
          have hzy : z < y := by omega
          have J0 := Lib.hid K0
          have J1 := Lib.hid K1
          have J2 := Lib.hid K2
          have HND := Lib.hid hno.out
          have HKK := Lib.hid hkk.out
          have HL := Lib.hid hL.out
          have HB := Lib.hid hbw
          have c0 := exc_but_cell (K2.cell 1) (rfl : _ = z)
          have c1 := exc_but_cell (K5.cell 0) (rfl : _ = y)
          have c2' := exc_but_cell (K5.cell 1) (rfl : _ = y)
          have c3' := exc_but_cell (K5.cell 2) (rfl : _ = y)
          have c4 := exc_but_cell (K5.cell 3) (rfl : _ = y)
          clear hy e0 e1 e2 e3 K0 K1 K2 K5 hno hL hbw hkk
          obtain ⟨S, hS⟩ : ∃ S : Nat → World → Prop, S = fun k => if k = 1 then Exc W (butB z) else if k = 3 ∨ k = 6 then Exc W (butB y) else fun _ => True := ⟨_, rfl⟩
          have S0 : S 0 = fun _ => True := by subst hS; rfl
          have S1 : S 1 = Exc W (butB z) := by subst hS; rfl
          have S2 : S 2 = fun _ => True := by subst hS; rfl
          have S3 : S 3 = Exc W (butB y) := by subst hS; rfl
          have S5 : S 5 = fun _ => True := by subst hS; rfl
          have S6 : S 6 = Exc W (butB y) := by subst hS; rfl
          have S8 : S 8 = fun _ => True := by subst hS; rfl
          have S11 : S 11 = fun _ => True := by subst hS; rfl
          have hSK : ∀ k, k ∉ [1, 3, 6] → ∀ w, S k w := fun k hk w => by subst hS; simp at hk; simp [hk]
          have hSW : ∀ k, S k W.drew := fun k => by
            by_cases h1 : k = 1
            · subst h1; rw [S1]; exact exc_but rfl rfl rfl (Nat.le_refl _) rfl
            · by_cases h2 : k = 3
              · subst h2; rw [S3]; exact exc_but rfl rfl rfl (Nat.le_refl _) rfl
              · by_cases h3 : k = 6
                · subst h3; rw [S6]; exact exc_but rfl rfl rfl (Nat.le_refl _) rfl
                · exact hSK k (by simp [h1, h2, h3]) _
          clear hS
          have HS1 := Lib.hid S1
          have HS6 := Lib.hid S6
          refine wp_region_segsN S [4, 7, 9, 10, 12] [1, 3, 6] [([0, 1, 2, 3, 5, 6], 4, [1, 6]), ([], 7, [1]), ([8], 9, [1]), ([], 10, []), ([11], 12, [])] [] (by kernel_rfl) (by kernel_rfl) (by kernel_rfl) (by kernel_rfl) hSK hSW ?_
          refine wpSegsN_cons ?_
          repeat (refine wpQS_cons ?_; simp only [getOps, gl9]; (try simp only [S0, S1, S2, S3, S5, S6]); (first | go_big_quiet_skip | (refine wpQuiet_step (fun K hK => ?_); go_simp; (try simp (disch := omega) only [ar9]); (first | (refine hK _ ?_; clear hK K) | (simp (disch := omega) only [if_pos, dif_pos, if_neg, dif_neg, ar9]; go_simp; refine hK _ ?_; clear hK K)))); refine wpQuiet_nil ?_)
          with_reducible refine wpQS_nil ?_
          (try simp only [getOps, gl9])
          go_step
          rename_i K9 hK9
          refine (HCK.out _).mono ?_
          rintro e w1 ⟨rfl, hb1⟩
          have hbW : Below W.heap.size W w1 := chain (Below.refl W.heap.size W).drew hb1 (Nat.le_refl _)
          have HW1 := Lib.hid hbW
          have hzs := hbW.size
          clear hb1 hbW
          refine hK9 _ _ ?_
          clear hK9 K9
          refine segQ_normal ⟨fun k hk => by
            simp at hk
            rcases hk with hk | hk
            · subst hk; rw [HS1.out]; exact exc_but HW1.out.os HW1.out.tape HW1.out.output HW1.out.size (HW1.out.block z (by omega))
            · subst hk; rw [HS6.out]; exact exc_but HW1.out.os HW1.out.tape HW1.out.output HW1.out.size (HW1.out.block y (by omega)), ?_⟩
          refine wpSegsN_cons ?_
          repeat (refine wpQS_cons ?_; simp only [getOps, gl9]; (first | go_big_quiet_skip | (refine wpQuiet_step (fun K hK => ?_); go_simp; (try simp (disch := omega) only [ar9]); (first | (refine hK _ ?_; clear hK K) | (simp (disch := omega) only [if_pos, dif_pos, if_neg, dif_neg, ar9]; go_simp; refine hK _ ?_; clear hK K)))); refine wpQuiet_nil ?_)
          with_reducible refine wpQS_nil ?_
          (try simp only [getOps, gl9])
          go_step
          rename_i K9 hK9
          refine (HLK.out _ (HL.out.on HW1.out)).mono ?_
          rintro e w3 ⟨lv', rfl, hl', hb3⟩
          have hbW : Below W.heap.size W w3 := HW1.out.trans (hb3.mono (by omega))
          have hzs3 := hb3.size
          obtain ⟨x1, x2, rfl, -, -⟩ := hl'.plain.form
          have hl'' : RLegs w3 (Fr W.heap.size w3) (.slice x1 ll.length x2) ll := hl'.keep ⟨fun _ _ _ => rfl⟩ fun b hb => ⟨Nat.le_trans hzs hb.1, hb.2⟩
          obtain ⟨v9, w9, hr9, hno9, hb9⟩ := NO.app qkeep_dbt (w0 := W) (w := w3) (t := 57) (E := [.bool n', .string s', .string d', .slice x1 ll.length x2]) (x := ⟨⟨n', s', d'⟩, ll⟩) HND.out hbW ⟨_, rfl, hl''⟩ Tryz.underlying57 dbtInfo (by omega) rfl (by simp [Value.oneCell']) (by omega) (by omega) (by omega)
          rw [hnl] at hr9
          obtain ⟨a99, cap99, rfl⟩ := hno9.form
          generalize (pre ++ [(⟨⟨n', s', d'⟩, ll⟩ : Dbt)]).length = n99 at *
          have M8 := (J2.out.on hbW).below hb9 (by omega)
          have c9 : w9.cell? ⟨z, 1, none⟩ = some (.slice bv9 j bap9) := M8.cell 1
          have f9 := M8.frozen 1
          have MS := Lib.hid (M8.set 1 (.slice a99 n99 cap99))
          have P0 := Lib.hid (((J0.out.on hbW).below hb9 (by omega)).setOther ⟨z, 1, none⟩ (.slice a99 n99 cap99) (by simp; omega))
          have P1 := Lib.hid (((J1.out.on hbW).below hb9 (by omega)).setOther ⟨z, 1, none⟩ (.slice a99 n99 cap99) (by simp; omega))
          have HN9 := Lib.hid (hno9.setCell qkeep_dbt ⟨z, 1, none⟩ (.slice a99 n99 cap99) (by simp; omega))
          have HB9 := Lib.hid ((HB.out.trans ((hbW.mono (by omega)).trans (hb9.mono (by omega)))).setCell (p := ⟨z, 1, none⟩) (by simp; omega) (.slice a99 n99 cap99))
          have HK9 := Lib.hid (show ∀ b, z + 1 ≤ b → b < w2.heap.size → (w9.setCell ⟨z, 1, none⟩ (.slice a99 n99 cap99)).heap[b]? = w2.heap[b]? from fun b hb hb2 => by
            rw [heap_setCell_other _ _ _ _ (by simp; omega), hb9.block b hb2, hbW.block b (by omega)]; exact HKK.out b hb hb2)
          have hz9 := hb9.size
          have HR9 := Lib.hid hr9
          have HW3 := Lib.hid hbW
          have hzw3 := hbW.size
          clear hr9 hno9 hb9 hl' hl'' M8 hbW hb3
          rw [hnl]
          refine hK9 _ _ ?_
          clear hK9 K9
          refine segQ_normal ⟨fun k hk => by (simp at hk; subst hk; rw [HS1.out]; exact exc_but HW3.out.os HW3.out.tape HW3.out.output HW3.out.size (HW3.out.block z (by omega))), ?_⟩
          refine wpSegsN_cons ?_
          repeat (refine wpQS_cons ?_; simp only [getOps, gl9]; (try simp only [S8]); (first | go_big_quiet_skip | (refine wpQuiet_step (fun K hK => ?_); go_simp; (try simp (disch := omega) only [ar9]); (first | (refine hK _ ?_; clear hK K) | (simp (disch := omega) only [if_pos, dif_pos, if_neg, dif_neg, ar9]; go_simp; refine hK _ ?_; clear hK K)))); refine wpQuiet_nil ?_)
          with_reducible refine wpQS_nil ?_
          (try simp only [getOps, gl9])
          go_step
          rename_i K9 hK9
          refine hK9 _ _ ?_
          clear hK9 K9
          have hwa := HW3.out.alloc hzw3 (.cells #[.bool n', .string s', .string d', .slice x1 nl x2] 96)
          refine segQ_normal ⟨fun k hk => by (simp at hk; subst hk; rw [HS1.out]; exact exc_but hwa.os hwa.tape hwa.output hwa.size (hwa.block z (by omega))), ?_⟩
          clear hwa
          refine wpSegsN_cons ?_
          repeat (refine wpQS_cons ?_; simp only [getOps, gl9]; (first | go_big_quiet_skip | (refine wpQuiet_step (fun K hK => ?_); go_simp; (try simp (disch := omega) only [ar9]); (first | (refine hK _ ?_; clear hK K) | (simp (disch := omega) only [if_pos, dif_pos, if_neg, dif_neg, ar9]; go_simp; refine hK _ ?_; clear hK K)))); refine wpQuiet_nil ?_)
          with_reducible refine wpQS_nil ?_
          (try simp only [getOps, gl9])
          refine Lib.wpList_append_run _ rfl _ _ _ _ rfl _ _ rfl rfl _ _ (HR9.out _) ?_
          refine segQ_normal ⟨fun k hk => by simp at hk, ?_⟩
          refine wpSegsN_cons ?_
          repeat (refine wpQS_cons ?_; simp only [getOps, gl9]; (try simp only [S11]); (first | go_big_quiet_skip | (refine wpQuiet_step (fun K hK => ?_); go_simp; (try simp (disch := omega) only [ar9]); (first | (refine hK _ ?_; clear hK K) | (simp (disch := omega) only [if_pos, dif_pos, if_neg, dif_neg, ar9]; go_simp; refine hK _ ?_; clear hK K)))); refine wpQuiet_nil ?_)
          with_reducible refine wpQS_nil ?_
          (try simp only [getOps, gl9])
          go_step
          rename_i K9 hK9
          refine hK9 _ _ ?_
          clear hK9 K9
          refine segQ_normal ⟨fun k hk => by simp at hk, ?_⟩
          refine wpSegsN_nil ?_
          repeat (refine wpQS_cons ?_; simp only [getOps, gl9]; (first | go_big_quiet_skip | (refine wpQuiet_step (fun K hK => ?_); go_simp; (try simp (disch := omega) only [ar9]); (first | (refine hK _ ?_; clear hK K) | (simp (disch := omega) only [if_pos, dif_pos, if_neg, dif_neg, ar9]; go_simp; refine hK _ ?_; clear hK K)))); refine wpQuiet_nil ?_)
          with_reducible refine wpQS_nil ?_
          go_wp2
          go_roundw
          case rel => exact ⟨j + 1, .slice a99 n99 cap99, by go_num, by omega, P0.out, P1.out, MS.out, by rw [HTK.out]; exact HN9, HK9, HB9.out, by simp only [World.size_setCell]; omega⟩
          case measure => simp [intOf]; omega
        · obtain rfl : j = nd := by omega
          have hnl9 : decide ((j : Int) < (j : Int)) = false := by simp
          have hfull : (dl.take j).map clD = dl.map clD := by rw [← hnd, List.take_length]
          rw [hfull] at HND
          have z0 : wr.cell? ⟨z, 0, none⟩ = some (.slice av9 k cap9) := K2.cell 0
          have z1 : wr.cell? ⟨z, 1, none⟩ = some (.slice bv9 j bap9) := K2.cell 1
          have r0 : wr.cell? ⟨w.heap.size + 1, 0, none⟩ = some (.slice none 0 0) := K1.cell 0
          have r1 : wr.cell? ⟨w.heap.size + 1, 1, none⟩ = some (.slice none 0 0) := K1.cell 1
          have f0 := K1.frozen 0
          have f1 := K1.frozen 1
          have HVE := Lib.hid (HNO.out.keepFrom qkeep_est HKK.out hwz)
          have HVD := Lib.hid (show RDbts wr (Fr w2.heap.size wr) (.slice bv9 j bap9) (dl.map clD) from HND.out.toRL qkeep_dbt)
          clear K0 K1 K2 hno hkk hbw
          go_wp2
          refine bodyPost_forget (fun W => Blk W (w.heap.size + 1) #[.slice av9 k cap9, .slice bv9 j bap9] ∧ NO W (z + 1) 84 5 QEst (.slice av9 k cap9) (el.map clE) ∧ RDbts W (fun b => w2.heap.size ≤ b ∧ b < W.heap.size) (.slice bv9 j bap9) (dl.map clD) ∧ Below w.heap.size w W)
            ⟨by exact (J1.out.set 0 _).set 1 _, ?_, ?_, by exact (HB.out.setCell (p := ⟨w.heap.size + 1, 0, none⟩) (by simp) _).setCell (p := ⟨w.heap.size + 1, 1, none⟩) (by simp) _⟩ ?_
          · exact (HVE.out.setCell qkeep_est ⟨w.heap.size + 1, 0, none⟩ _ (by simp; omega)).setCell qkeep_est ⟨w.heap.size + 1, 1, none⟩ _ (by simp; omega)
          · refine HVD.out.keep ⟨fun b hb hl => ?_⟩ fun b hb => ⟨hb.1, ?_⟩
            · have := hb.1
              rw [heap_setCell_other _ _ _ _ (by simp; omega), heap_setCell_other _ _ _ _ (by simp; omega)]
            · have := hb.2; simp only [World.size_setCell]; omega
          · rintro WR ⟨hr9, hn9, hd9, hb9⟩
            have y0 : WR.cell? ⟨w.heap.size + 1, 0, none⟩ = some (.slice av9 k cap9) := hr9.cell 0
            have y1 : WR.cell? ⟨w.heap.size + 1, 1, none⟩ = some (.slice bv9 j bap9) := hr9.cell 1
            exact bodyPost_ret (v := .agg #[.slice av9 k cap9, .slice bv9 j bap9]) (by simp [results, Tryz.results52, go_sem, y0, y1]) rfl ⟨_, _, w2.heap.size, rfl, HB2.out.size, hn9.base qkeep_est (by omega), HOL.out, hd9, hb9⟩
end Go.Proofs.Ins

set_option linter.unusedSimpArgs false
set_option linter.unusedVariables false
namespace Go.Proofs.Ins
open Go.RowKit

theorem flatMap_len {F : Nat → List Value} {sz : Nat} : ∀ (n : Nat), (∀ i, i < n → (F i).length = sz) → ((List.range n).flatMap F).length = n * sz
  | 0, _ => by simp
  | n + 1, hF => by
    rw [List.range_succ, List.flatMap_append, List.length_append, flatMap_len n (fun i hi => hF i (by omega))]
    simp [hF n (by omega), Nat.succ_mul]
theorem flatMap_set {F : Nat → List Value} {sz n i j : Nat} (hF : ∀ i, i < n → (F i).length = sz) (hi : i < n) (hj : j < sz) (v : Value) :
    ((List.range n).flatMap F).set (i * sz + j) v = (List.range n).flatMap (updF F i ((F i).set j v)) := by
  have hF' : ∀ k, k < n → (updF F i ((F i).set j v) k).length = sz := fun k hk => by
    unfold updF; split
    · rw [List.length_set]; exact hF i hi
    · exact hF k hk
  refine List.ext_getElem? fun m => ?_
  by_cases hm : m < n * sz
  · have hsz : 0 < sz := by omega
    have h1 : m / sz < n := Nat.div_lt_of_lt_mul (by rw [Nat.mul_comm]; exact hm)
    have h2 : m % sz < sz := Nat.mod_lt _ hsz
    have h3 : m = m / sz * sz + m % sz := by rw [Nat.mul_comm]; exact (Nat.div_add_mod m sz).symm
    generalize m / sz = i' at *
    generalize m % sz = j' at *
    subst h3
    rw [flatMap_get n hF' i' j' h1 h2, List.getElem?_set, flatMap_len n hF, flatMap_get n hF i' j' h1 h2]
    by_cases e : i * sz + j = i' * sz + j'
    · have e1 : i = i' := by
        have h1 : (i * sz + j) / sz = i := by rw [Nat.mul_comm, Nat.mul_add_div (by omega), Nat.div_eq_of_lt hj, Nat.add_zero]
        have h2 : (i' * sz + j') / sz = i' := by rw [Nat.mul_comm, Nat.mul_add_div (by omega), Nat.div_eq_of_lt h2, Nat.add_zero]
        rw [← h1, ← h2, e]
      subst e1
      obtain rfl : j = j' := by omega
      rw [if_pos rfl, if_pos hm, updF_same, List.getElem?_set, if_pos rfl, if_pos (by rw [hF i hi]; exact hj)]
    · rw [if_neg e]
      by_cases e1 : i' = i
      · subst e1
        rw [updF_same, List.getElem?_set, if_neg (by omega)]
      · rw [updF_other e1]
  · rw [List.getElem?_eq_none (by rw [List.length_set, flatMap_len n hF]; omega), List.getElem?_eq_none (by rw [flatMap_len n hF']; omega)]

theorem SOwn.setAt {w : World} {base g : Nat} {T : TypeId} {sz n cap : Nat} {F : Nat → List Value} (h : SOwn w base T sz (.slice (some ⟨g, 0, none⟩) n cap) n F) (i j : Nat) (v : Value) (hi : i < n) (hj : j < sz) :
    SOwn (w.setCell ⟨g, i * sz + j, none⟩ v) base T sz (.slice (some ⟨g, 0, none⟩) n cap) n (updF F i ((F i).set j v)) := by
  obtain ⟨⟨h1, h2⟩, h3⟩ := h
  rcases h2 with ⟨h2, -⟩ | ⟨g', cap', cur, e, hb, hg, hn, hm, hs, ht⟩
  · simp at h2
  · simp only [Value.slice.injEq, Option.some.injEq, Addr.mk.injEq, true_and, and_true] at e
    obtain ⟨rfl, rfl⟩ := e
    have hF' : ∀ k, k < n → (updF F i ((F i).set j v) k).length = sz := fun k hk => by
      unfold updF; split
      · rw [List.length_set]; exact h3 i hi
      · exact h3 k hk
    refine ⟨⟨flatMap_len n hF', .inr ⟨g, cap, cur.setIfInBounds (i * sz + j) v, rfl, hb, ?_, hn, hm, by simpa using hs, ?_⟩⟩, hF'⟩
    · rw [World.setCell]
      simp only [Array.getElem?_modify]
      simp [hg]
    · rw [Array.toList_setIfInBounds, List.take_set, ht, flatMap_set h3 hi hj]
theorem SOwn.frozen {w : World} {base g : Nat} {T : TypeId} {sz n cap : Nat} {F : Nat → List Value} (h : SOwn w base T sz (.slice (some ⟨g, 0, none⟩) n cap) n F) (j : Nat) : w.frozen? ⟨g, j, none⟩ = false := by
  obtain ⟨⟨h1, h2⟩, h3⟩ := h
  rcases h2 with ⟨h2, -⟩ | ⟨g', cap', cur, e, hb, hg, hn, hm, hs, ht⟩
  · simp at h2
  · simp only [Value.slice.injEq, Option.some.injEq, Addr.mk.injEq, true_and, and_true] at e
    obtain ⟨rfl, rfl⟩ := e
    exact frozen_of_row w g j cur T hg

/-- The cash of estate i is stored. -/
theorem NO.cash {w : World} {B g n cap : Nat} {T : TypeId} {l : List Est} (h : NO w B T 5 QEst (.slice (some ⟨g, 0, none⟩) n cap) l) (hn : l.length = n) {i : Nat} (hi : i < n) (q : R3) :
    NO (((w.setCell ⟨g, i * 5, none⟩ (.bool q.n)).setCell ⟨g, i * 5 + 1, none⟩ (.string q.s)).setCell ⟨g, i * 5 + 2, none⟩ (.string q.d)) B T 5 QEst (.slice (some ⟨g, 0, none⟩) n cap) (l.set i ⟨q, (ix l i).c, (ix l i).a⟩) := by
  obtain ⟨G, hS, hq⟩ := h
  rw [hn] at hS hq
  obtain ⟨cv, av, hg, hC, hA⟩ := hq i hi
  have h1 := hS.setAt i 0 (.bool q.n) hi (by omega)
  have h2 := h1.setAt i 1 (.string q.s) hi (by omega)
  have h3 := h2.setAt i 2 (.string q.d) hi (by omega)
  rw [Nat.add_zero] at h1 h2 h3
  generalize hw' : ((w.setCell ⟨g, i * 5, none⟩ (.bool q.n)).setCell ⟨g, i * 5 + 1, none⟩ (.string q.s)).setCell ⟨g, i * 5 + 2, none⟩ (.string q.d) = w' at h3
  have hkeep : ∀ b, b ≠ g → w'.heap[b]? = w.heap[b]? := fun b hb => by
    subst hw'
    rw [heap_setCell_other _ _ _ _ hb, heap_setCell_other _ _ _ _ hb, heap_setCell_other _ _ _ _ hb]
  have hsz : w'.heap.size = w.heap.size := by subst hw'; simp only [World.size_setCell]
  have hel : ∀ b, El B w (.slice (some ⟨g, 0, none⟩) n cap) b → b ≠ g := fun b hb e => hb.2.2 (by subst e; rfl)
  have hK : Keeps (El B w (.slice (some ⟨g, 0, none⟩) n cap)) w w' := ⟨fun b hb _ => hkeep b (hel b hb)⟩
  have hM : ∀ b, El B w (.slice (some ⟨g, 0, none⟩) n cap) b → El B w' (.slice (some ⟨g, 0, none⟩) n cap) b := fun b hb => ⟨hb.1, by rw [hsz]; exact hb.2.1, hb.2.2⟩
  refine ⟨updF G i [.bool q.n, .string q.s, .string q.d, cv, av], ?_, fun k hk => ?_⟩
  · rw [List.length_set, hn]
    refine h3.congr fun k hk => ?_
    by_cases e : k = i
    · subst e; simp [updF, hg]
    · simp [updF, e]
  · rw [List.length_set, hn] at hk
    by_cases e : k = i
    · subst e
      rw [updF_same, show ix (l.set k ⟨q, (ix l k).c, (ix l k).a⟩) k = ⟨q, (ix l k).c, (ix l k).a⟩ from by unfold ix; simp [List.getD, hn, hk]]
      exact ⟨cv, av, rfl, hC.keep hK hM, hA.keep hK hM⟩
    · rw [updF_other e, show ix (l.set i ⟨q, (ix l i).c, (ix l i).a⟩) k = ix l k from by unfold ix; simp [List.getD, List.getElem?_set, Ne.symm e]]
      exact (hq k hk).keep hK hM
theorem SmallE.mono {k l : Nat} {e : Est} (h : SmallE k e) (hk : k ≤ l) : SmallE l e :=
  ⟨⟨Nat.le_trans h.m.1 hk, Nat.le_trans h.m.2 hk⟩, fun i hi => ⟨Nat.le_trans (h.c i hi).1 hk, Nat.le_trans (h.c i hi).2 hk⟩, fun i j l hi hj hl => ⟨Nat.le_trans (h.a i j l hi hj hl).1 hk, Nat.le_trans (h.a i j l hi hj hl).2 hk⟩, h.lc, h.la, h.lt, h.lp⟩
theorem SmallG.mono {k l : Nat} {g : Grp} (h : SmallG k g) (hk : k ≤ l) : SmallG l g :=
  ⟨fun i hi => (h.e i hi).mono hk, fun i hi => ⟨Nat.le_trans (h.w i hi).1 hk, Nat.le_trans (h.w i hi).2 hk⟩, h.le, h.ld, h.ll⟩
end Go.Proofs.Ins
