/- The walk of insolvencyref21.cleanAgreement. -/
import Derived.Test.YtobbllakdjampaaGreatDoorZ21
import Derived.Test.YtobbllakdjampaaGreatDoorZ25
import Derived.Test.YtobbllakdjampaaGreatDoorZ26
import Derived.Test.YtobbllakdjampaaGreatDoorZ12

set_option linter.unusedSimpArgs false
set_option linter.unusedVariables false
namespace Go.Proofs.Ins
open Go.RowKit

section
variable {α : Type} [Inhabited α] {w w' : World} {B : Nat} {T : TypeId} {sz : Nat} {Q : World → (Nat → Prop) → List Value → α → Prop} {v : Value} {l : List α}
theorem NO.form (h : NO w B T sz Q v l) : ∃ a cap, v = .slice a l.length cap := by
  obtain ⟨G, hS, hq⟩ := h
  rcases hS.form with ⟨rfl, hn⟩ | ⟨g, cap, rfl, -⟩
  · exact ⟨none, 0, by rw [hn]⟩
  · exact ⟨_, cap, rfl⟩
theorem NO.form' (h : NO w B T sz Q v l) {n : Nat} (hn : l.length = n) : ∃ a cap, v = .slice a n cap := by subst hn; exact h.form
theorem NO.keepFrom (hQ : QKeep Q) (h : NO w B T sz Q v l) (hb : ∀ b, B ≤ b → b < w.heap.size → w'.heap[b]? = w.heap[b]?) (hs : w.heap.size ≤ w'.heap.size) : NO w' B T sz Q v l := by
  obtain ⟨G, hS, hq⟩ := h
  refine ⟨G, ?_, fun i hi => hQ _ _ _ _ _ _ (hq i hi) ⟨fun b hb2 hl => hb b hb2.1 hl⟩ fun b hb2 => ⟨hb2.1, ?_, hb2.2.2⟩⟩
  · obtain ⟨⟨h1, h2⟩, h3⟩ := hS
    refine ⟨⟨h1, ?_⟩, h3⟩
    rcases h2 with h2 | ⟨g, cap, cur, rfl, hb2, hg, hn, hm, hs, ht⟩
    · exact .inl h2
    · exact .inr ⟨g, cap, cur, rfl, hb2, (hb g hb2 (Array.getElem?_eq_some_iff.mp hg).1).trans hg, hn, hm, hs, ht⟩
  · have := hb2.2.1; omega
theorem NO.setCell (hQ : QKeep Q) (h : NO w B T sz Q v l) (a : Addr) (u : Value) (ha : a.block < B) : NO (w.setCell a u) B T sz Q v l :=
  h.keepFrom hQ (fun b hb _ => heap_setCell_other w a b u (by omega)) (by simp [World.setCell])
end
theorem c5_one (x : C5) : ∀ u ∈ x.c, u.oneCell' = true := by unfold C5.c; simp [Value.oneCell']
theorem qkeep_c5 : QKeep (fun (_ : World) (_ : Nat → Prop) => QV C5.c) := qkeep_plain _
theorem qkeep_prt : QKeep (fun (_ : World) (_ : Nat → Prop) => QV Prt.c) := qkeep_plain _
theorem claimInfo : (Tryz.prog.info? 86).map (fun i => (i.zero.map (fun z => z.cells.size), i.size, i.bytes)) = some (some 5, 5, 56) := by kernel_rfl
theorem tierInfo : (Tryz.prog.info? 113).map (fun i => (i.zero.map (fun z => z.cells.size), i.size, i.bytes)) = some (some 1, 1, 24) := by kernel_rfl
theorem agrInfo : (Tryz.prog.info? 115).map (fun i => (i.zero.map (fun z => z.cells.size), i.size, i.bytes)) = some (some 1, 1, 24) := by kernel_rfl

/-- The lengths of a valid estate. -/
structure LimE (e : Est) : Prop where
  c : e.c.length ≤ 24
  a : e.a.length ≤ 12
  t : ∀ i, i < e.a.length → (ix e.a i).length ≤ 24
  l : ∀ i j, i < e.a.length → j < (ix e.a i).length → (ix (ix e.a i) j).length ≤ 24
def RetEst (w : World) (e : Est) : Ending → World → Prop := fun x w' => ∃ cv' av', x = .returned (e.v cv' av') ∧ RClaims w' (Fr w.heap.size w') cv' e.c ∧ RAgrs w' (Fr w.heap.size w') av' e.a ∧ Below w.heap.size w w'

set_option maxRecDepth 100000 in
set_option maxHeartbeats 6400000 in
theorem copyestate_any (p : Nat → Prop) (e : Est) (cv av : Value) (w : World) (hC : RClaims w p cv e.c) (hA : RAgrs w p av e.a) (hs : SmallE 134217728 e) (hl : LimE e) :
    Calls Tryz.prog 81 #[e.v cv av] w (RetEst w (clE e)) := by
  obtain ⟨a1, c1, rfl, -, -⟩ := hC.plain.form
  have HC := Lib.hid hC.plain
  have HCM := Lib.hid (fun w => (show Calls Tryz.prog 82 #[.agg #[.bool e.m.n, .string e.m.s, .string e.m.d]] w (fun x w' => x = .returned (.agg #[.bool (nR e.m.q).n, .string (nR e.m.q).s, .string (nR e.m.q).d]) ∧ Below w.heap.size w w') from clean31 e.m.n e.m.s e.m.d w (by have := hs.m.1; have := hs.m.2; omega)))
  have HCC := Lib.hid (fun i (hi : i < e.c.length) w => (show Calls Tryz.prog 82 #[.agg #[.bool (ix e.c i).a.n, .string (ix e.c i).a.s, .string (ix e.c i).a.d]] w (fun x w' => x = .returned (.agg #[.bool (nR (ix e.c i).a.q).n, .string (nR (ix e.c i).a.q).s, .string (nR (ix e.c i).a.q).d]) ∧ Below w.heap.size w w') from clean31 _ _ _ w (by have := (hs.c i hi).1; have := (hs.c i hi).2; omega)))
  have HCP := Lib.hid (fun i j l (hi : i < e.a.length) (hj : j < (ix e.a i).length) (hl : l < (ix (ix e.a i) j).length) w => (show Calls Tryz.prog 82 #[.agg #[.bool (ix (ix (ix e.a i) j) l).a.n, .string (ix (ix (ix e.a i) j) l).a.s, .string (ix (ix (ix e.a i) j) l).a.d]] w (fun x w' => x = .returned (.agg #[.bool (nR (ix (ix (ix e.a i) j) l).a.q).n, .string (nR (ix (ix (ix e.a i) j) l).a.q).s, .string (nR (ix (ix (ix e.a i) j) l).a.q).d]) ∧ Below w.heap.size w w') from clean31 _ _ _ w (by have := (hs.a i j l hi hj hl).1; have := (hs.a i j l hi hj hl).2; omega)))
  obtain ⟨lc, la, lt, lp⟩ := hl
  have HLT := Lib.hid lt
  have HLP := Lib.hid lp
  obtain ⟨GA, hSA, hQA⟩ := hA
  obtain ⟨aa, ca, rfl, -, -⟩ := hSA.form
  have HSA := Lib.hid hSA
  have HQA := Lib.hid hQA
  unfold RetEst clE Est.v
  clear hs hC hSA hQA lt lp
  generalize hcl : e.c = cl at *
  generalize hal : e.a = al at *
  generalize e.m = m at *
  clear hcl hal
  dsimp only
  generalize nR m.q = m' at *
  generalize m.n = mn at *
  generalize m.s = ms at *
  generalize m.d = md at *
  generalize hnc : cl.length = nc at *
  generalize hna : al.length = na at *
  go_enter Tryz.func81, Tryz.ntmps81
  go_wp2_with fail
  refine (HCM.out _).mono ?_; rintro x w1 ⟨rfl, hb1⟩
  obtain ⟨K0, K1, hbw⟩ := boxes2 hb1
  have k3 : (w1.alloc (.cells #[.bool m'.n, .string m'.s, .string m'.d, .slice none 0 0, .slice none 0 0] 84)).cell? ⟨w.heap.size, 3, none⟩ = some (.slice a1 nc c1) := (K0.alloc _).cell 3
  have J0 := Lib.hid K0
  have J1 := Lib.hid K1
  have HB := Lib.hid hbw
  have hz1 := K1.lt
  clear hb1 K0 K1 hbw
  go_wp2_with fail
  clear k3
  refine wp_forget (fun W => ∃ z, z = w1.heap.size ∧ Blk W w.heap.size #[.bool mn, .string ms, .string md, .slice a1 nc c1, .slice aa na ca] ∧ Blk W (w.heap.size + 1) #[.bool false, .string ⟨#[]⟩, .string ⟨#[]⟩, .slice none 0 0, .slice none 0 0] ∧ Blk W z #[.bool m'.n, .string m'.s, .string m'.d, .slice none 0 0, .slice none 0 0] ∧ Below w.heap.size w W ∧ z < W.heap.size ∧ w.heap.size + 1 < z) ⟨_, rfl, J0.out.alloc _, J1.out.alloc _, Blk.new w1 _ _, HB.out.alloc (by omega) _, by simp, hz1⟩ ?_
  rintro W ⟨z, hz, K0, K1, K2, hbw, hzW, hzz⟩
  have J0 := Lib.hid K0
  have J1 := Lib.hid K1
  have J2 := Lib.hid K2
  have HB := Lib.hid hbw
  rw [← hz]
  clear hz K0 K1 K2 hbw hz1
  go_loopw [21] (fun i wr => ∃ k v, i = .int .i64 (k : Nat) ∧ k ≤ nc ∧ Blk wr w.heap.size #[.bool mn, .string ms, .string md, .slice a1 nc c1, .slice aa na ca] ∧ Blk wr (w.heap.size + 1) #[.bool false, .string ⟨#[]⟩, .string ⟨#[]⟩, .slice none 0 0, .slice none 0 0] ∧ Blk wr z #[.bool m'.n, .string m'.s, .string m'.d, v, .slice none 0 0] ∧ Hid (NO wr (z + 1) 86 5 (fun _ _ => QV C5.c) v ((cl.take k).map clC)) ∧ Below w.heap.size w wr) (fun i _ => nc - (intOf i).toNat)
  case atStart => exact ⟨0, _, rfl, by omega, J0.out, J1.out, J2.out, NO.nil _ _ _ _ _, HB.out⟩
  case round =>
    obtain ⟨k, v, rfl, hk, K0, K1, K2, hno, hbw⟩ := hrel
    have hz0 := K1.lt
    have hz2 := K2.lt
    have J0 := Lib.hid K0
    have J1 := Lib.hid K1
    have J2 := Lib.hid K2
    have HNO := Lib.hid hno.out
    have HB := Lib.hid hbw
    have hzb := hbw.size
    by_cases hlt : k < nc
    · obtain ⟨b3, off3, rfl, -, -, -⟩ := HC.out.get (by omega)
      obtain ⟨av9, cap9, rfl⟩ := HNO.out.form
      have e0 := HC.out.cellAt rfl HB.out (i := k) (j := 0) hlt (by omega)
      have e1 : wr.cell? ⟨b3, off3 + k * 5 + 1, none⟩ = some (.int .i64 (ix cl k).r) := HC.out.cellAt rfl HB.out (i := k) (j := 1) hlt (by omega)
      have e2 : wr.cell? ⟨b3, off3 + k * 5 + 2, none⟩ = some (.bool (ix cl k).a.n) := HC.out.cellAt rfl HB.out (i := k) (j := 2) hlt (by omega)
      have e3 : wr.cell? ⟨b3, off3 + k * 5 + 3, none⟩ = some (.string (ix cl k).a.s) := HC.out.cellAt rfl HB.out (i := k) (j := 3) hlt (by omega)
      have e4 : wr.cell? ⟨b3, off3 + k * 5 + 4, none⟩ = some (.string (ix cl k).a.d) := HC.out.cellAt rfl HB.out (i := k) (j := 4) hlt (by omega)
      rw [Nat.add_zero] at e0
      have e0' : wr.cell? ⟨b3, off3 + k * 5, none⟩ = some (.int .i64 (ix cl k).h) := e0
      have HCK := Lib.hid (HCC.out k hlt)
      have hcx : clC (ix cl k) = ⟨(ix cl k).h, (ix cl k).r, nR (ix cl k).a.q⟩ := rfl
      have htk := take_map_succ clC (l := cl) (k := k) (by omega)
      have hlen : ((cl.take k).map clC).length = k := by simp; omega
      rw [hcx] at htk
      have HTK := Lib.hid htk
      have i1 : (0 : Int) ≤ (k : Int) := by omega
      have i2 : (k : Int) < (nc : Int) := by omega
      clear e0 hcx htk K0 K1 K2 hno hbw HCC HCP HSA HQA HLT HLP
      generalize (cl.take k).map clC = pre at *
      generalize ix cl k = P at *
      obtain ⟨h, r, a⟩ := P
      dsimp only at e0' e1 e2 e3 e4 HCK HTK
      generalize nR a.q = a' at *
      obtain ⟨n', s', d'⟩ := a'
      generalize a.n = an at *
      generalize a.s = as' at *
      generalize a.d = ad at *
      dsimp only at HCK
      go_wp2_with fail
      refine (HCK.out _).mono ?_; rintro x w3 ⟨rfl, hb3⟩
      obtain ⟨K5, hbw⟩ := boxes1 hb3
      have h5 : wr.heap.size < w3.heap.size := K5.lt
      have J0 := Lib.hid (J0.out.on hbw)
      have J1 := Lib.hid (J1.out.on hbw)
      have J2 := Lib.hid (J2.out.on hbw)
      obtain ⟨v9, w9, hr9, hno9, hb9⟩ := NO.app qkeep_c5 (w := ((w3.setCell ⟨wr.heap.size, 2, none⟩ (.bool n')).setCell ⟨wr.heap.size, 3, none⟩ (.string s')).setCell ⟨wr.heap.size, 4, none⟩ (.string d')) (t := 81) (E := [.int .i64 h, .int .i64 r, .bool n', .string s', .string d']) (x := ⟨h, r, ⟨n', s', d'⟩⟩) HNO.out
        (((hbw.setCell (Nat.le_refl _) _).setCell (Nat.le_refl _) _).setCell (Nat.le_refl _) _) rfl Tryz.underlying81 claimInfo (by omega) rfl (c5_one ⟨h, r, ⟨n', s', d'⟩⟩) (by omega) (by omega) (by omega)
      obtain ⟨a99, cap99, rfl⟩ := hno9.form
      generalize (pre ++ [(⟨h, r, ⟨n', s', d'⟩⟩ : C5)]).length = n99 at *
      rw [hlen] at hr9
      simp only [World.size_setCell] at hr9
      have HR9 := Lib.hid hr9
      clear hr9
      have HB5 := Lib.hid (((hbw.setCell (Nat.le_refl _) (p := ⟨wr.heap.size, 2, none⟩) (.bool n')).setCell (Nat.le_refl _) (p := ⟨wr.heap.size, 3, none⟩) (.string s')).setCell (Nat.le_refl _) (p := ⟨wr.heap.size, 4, none⟩) (.string d'))
      have HB9 := Lib.hid (HB.out.trans ((HB5.out.mono hzb).trans (hb9.mono (by omega))))
      have M0 := Lib.hid ((J0.out.setOther ⟨wr.heap.size, 2, none⟩ (.bool n') (by simp; omega)).setOther ⟨wr.heap.size, 3, none⟩ (.string s') (by simp; omega) |>.setOther ⟨wr.heap.size, 4, none⟩ (.string d') (by simp; omega) |>.below hb9 (by omega))
      have M1 := Lib.hid ((J1.out.setOther ⟨wr.heap.size, 2, none⟩ (.bool n') (by simp; omega)).setOther ⟨wr.heap.size, 3, none⟩ (.string s') (by simp; omega) |>.setOther ⟨wr.heap.size, 4, none⟩ (.string d') (by simp; omega) |>.below hb9 (by omega))
      have M2 := (J2.out.setOther ⟨wr.heap.size, 2, none⟩ (.bool n') (by simp; omega)).setOther ⟨wr.heap.size, 3, none⟩ (.string s') (by simp; omega) |>.setOther ⟨wr.heap.size, 4, none⟩ (.string d') (by simp; omega) |>.below hb9 (by omega)
      have f9 := M2.frozen 3
      have MS := Lib.hid (M2.set 3 (.slice a99 n99 cap99))
      have HN9 := Lib.hid (hno9.setCell qkeep_c5 ⟨z, 3, none⟩ (.slice a99 n99 cap99) (by simp))
      have n0 : w3.cell? ⟨wr.heap.size, 0, none⟩ = some (.int .i64 h) := K5.cell 0
      have n1 : w3.cell? ⟨wr.heap.size, 1, none⟩ = some (.int .i64 r) := K5.cell 1
      have n2 := K5.frozen 2
      have n3 := K5.frozen 3
      have n4 := K5.frozen 4
      have n5 : w3.cell? ⟨wr.heap.size, 2, none⟩ = some (.bool an) := K5.cell 2
      have n6 : w3.cell? ⟨wr.heap.size, 3, none⟩ = some (.string as') := K5.cell 3
      have n7 : w3.cell? ⟨wr.heap.size, 4, none⟩ = some (.string ad) := K5.cell 4
      have n8 : w3.cell? ⟨z, 3, none⟩ = some (.slice av9 k cap9) := by rw [← hlen]; exact J2.out.cell 3
      have n9 : w9.cell? ⟨z, 3, none⟩ = some (.slice av9 k cap9) := by rw [← hlen]; exact M2.cell 3
      clear hb3 hbw hno9 hb9 K5 M2 e0' e1 e2 e3 e4
      go_wp2_with (at_builtin; refine Lib.wpList_append_run _ rfl _ _ _ _ rfl _ _ rfl rfl _ _ (HR9.out _) ?_)
      go_roundw
      case rel => exact ⟨k + 1, .slice a99 n99 cap99, by go_num, by omega, M0.out.setOther _ _ (by simp; omega), M1.out.setOther _ _ (by simp; omega), MS.out, by rw [HTK.out]; exact HN9.out, HB9.out.setCell (by simp; omega) _⟩
      case measure => simp [intOf]; omega
    · obtain rfl : k = nc := by omega
      have hnl : decide ((k : Int) < (k : Int)) = false := by simp
      have hln9 : ((cl.take k).map clC).length = k := by simp; omega
      obtain ⟨av9, cap9, rfl⟩ := HNO.out.form' hln9
      have hfull : (cl.take k).map clC = cl.map clC := by rw [← hnc, List.take_length]
      rw [hfull] at HNO
      have HV := Lib.hid (show RClaims wr (Fr (z + 1) wr) _ (cl.map clC) from HNO.out.toRL qkeep_c5)
      have k4 : wr.cell? ⟨w.heap.size, 4, none⟩ = some (.slice aa na ca) := J0.out.cell 4
      obtain ⟨M, hM⟩ : ∃ M, M = wr.heap.size := ⟨_, rfl⟩
      have hMz : z < M := by omega
      have HV2 := Lib.hid (show RClaims wr (fun b => z + 1 ≤ b ∧ b < M) (.slice av9 k cap9) (cl.map clC) from by rw [hM]; exact HV.out)
      clear HV HNO K0 K1 K2 hno hbw HCC HC hfull hln9 hlt
      go_wp2_with fail
      clear k4
      go_loopw [39] (fun i wr => ∃ q v2, i = .int .i64 (q : Nat) ∧ q ≤ na ∧ Blk wr w.heap.size #[.bool mn, .string ms, .string md, .slice a1 k c1, .slice aa na ca] ∧ Blk wr (w.heap.size + 1) #[.bool false, .string ⟨#[]⟩, .string ⟨#[]⟩, .slice none 0 0, .slice none 0 0] ∧ Blk wr z #[.bool m'.n, .string m'.s, .string m'.d, .slice av9 k cap9, v2] ∧ Hid (NO wr M 115 1 QAgr v2 ((al.take q).map clA)) ∧ Hid (RClaims wr (fun b => z + 1 ≤ b ∧ b < M) (.slice av9 k cap9) (cl.map clC)) ∧ Below w.heap.size w wr ∧ M ≤ wr.heap.size) (fun i _ => na - (intOf i).toNat)
      case atStart => exact ⟨0, _, rfl, by omega, J0.out, J1.out, J2.out, NO.nil _ _ _ _ _, HV2, HB.out, by omega⟩
      case round =>
        obtain ⟨q, v2, rfl, hq, K0, K1, K2, hno, hv, hbw, hMw⟩ := hrel
        have hz0 := K1.lt
        have hz2 := K2.lt
        have J0 := Lib.hid K0
        have J1 := Lib.hid K1
        have J2 := Lib.hid K2
        have HNO := Lib.hid hno.out
        have HV := Lib.hid hv.out
        have HB := Lib.hid hbw
        have hzb := hbw.size
        clear hM HV2
        by_cases hlq : q < na
        · obtain ⟨ba, offa, rfl, -, -, -⟩ := HSA.out.get (by omega)
          obtain ⟨tv0, hga, hRT⟩ := HQA.out q hlq
          obtain ⟨at2, ct2, rfl, -, -⟩ := (show ∃ aa ca, tv0 = .slice aa (ix al q).length ca ∧ True ∧ True from by obtain ⟨G, hS, -⟩ := hRT; obtain ⟨x, y, h, -, -⟩ := hS.form; exact ⟨x, y, h, trivial, trivial⟩)
          have hln2 : ((al.take q).map clA).length = q := by simp; omega
          obtain ⟨av8, cap8, rfl⟩ := HNO.out.form' hln2
          have c0 := HSA.out.cellAt rfl HB.out (i := q) (j := 0) hlq (by omega)
          rw [hga, Nat.mul_one, Nat.add_zero] at c0
          have c0' : wr.cell? ⟨ba, offa + q, none⟩ = some (Value.slice at2 (ix al q).length ct2) := c0
          have lt9 := HLT.out q hlq
          have HLP9 := Lib.hid (fun j hj => HLP.out q j hlq hj)
          have HCP9 := Lib.hid (fun j l hj hl w => HCP.out q j l hlq hj hl w)
          have htk := take_map_succ clA (l := al) (k := q) (by omega)
          have HTK := Lib.hid (show (al.take (q + 1)).map clA = (al.take q).map clA ++ [(ix al q).map clT] from htk)
          obtain ⟨GT, hST, hQT⟩ := hRT.on HB.out
          have HST := Lib.hid hST
          have HQT := Lib.hid hQT
          have i1 : (0 : Int) ≤ (q : Int) := by omega
          have i2 : (q : Int) < (na : Int) := by omega
          clear c0 hga hRT htk hST hQT K0 K1 K2 hno hv hbw HLT HLP HCP HCM HSA HQA
          generalize (al.take q).map clA = pre2 at *
          generalize hnt : (ix al q).length = nt at *
          generalize hal : ix al q = tl at *
          clear hal
          go_wp2_with fail
          refine wp_forget (fun W => ∃ y, y = wr.heap.size + 1 ∧ Blk W y #[.slice none 0 0] ∧ Below wr.heap.size wr W ∧ y < W.heap.size) ⟨_, rfl, (duo wr _ _ _ _).2.1, (duo wr _ _ _ _).2.2, by simp⟩ ?_
          rintro W5 ⟨y, hy, K8, hb5, hyW⟩
          rw [← hy]
          have J8 := Lib.hid K8
          have HB5 := Lib.hid hb5
          have hyz : wr.heap.size < y := by omega
          obtain ⟨w2, rfl⟩ : ∃ w2, w2 = wr := ⟨wr, rfl⟩
          clear hy K8 hb5 c0'
          go_loopw [46] (fun i wr => ∃ j tv, i = .int .i64 (j : Nat) ∧ j ≤ nt ∧ Blk wr y #[tv] ∧ Hid (NO wr (y + 1) 113 1 QTier tv ((tl.take j).map clT)) ∧ Below w2.heap.size w2 wr) (fun i _ => nt - (intOf i).toNat)
          case atStart => exact ⟨0, _, rfl, by omega, J8.out, NO.nil _ _ _ _ _, HB5.out⟩
          case round =>
            obtain ⟨j, tv, rfl, hj, K8, hno3, hb3⟩ := hrel
            have hy3 := K8.lt
            have J8 := Lib.hid K8
            have HN3 := Lib.hid hno3.out
            have HB3 := Lib.hid hb3
            have hz3 := hb3.size
            have hln3 : ((tl.take j).map clT).length = j := by simp; omega
            obtain ⟨av7, cap7, rfl⟩ := HN3.out.form' hln3
            clear HB5
            by_cases hlj : j < nt
            · obtain ⟨bt, offt, rfl, -, -, -⟩ := HST.out.get (by omega)
              obtain ⟨pv, hgt, hRP⟩ := HQT.out j hlj
              obtain ⟨ap, cp, rfl, -, -⟩ := hRP.plain.form
              have d0 := HST.out.cellAt rfl HB3.out (i := j) (j := 0) hlj (by omega)
              rw [hgt, Nat.mul_one, Nat.add_zero] at d0
              have d0' : wr.cell? ⟨bt, offt + j, none⟩ = some (Value.slice ap (ix tl j).length cp) := d0
              have lp9 := HLP9.out j (by omega)
              have HCP8 := Lib.hid (fun l hl w => HCP9.out j l (by omega) hl w)
              have HTK3 := Lib.hid (show (tl.take (j + 1)).map clT = (tl.take j).map clT ++ [(ix tl j).map clP] from take_map_succ clT (l := tl) (k := j) (by omega))
              have HPL := Lib.hid (hRP.on HB3.out).plain
              have i3 : (0 : Int) ≤ (j : Int) := by omega
              have i4 : (j : Int) < (nt : Int) := by omega
              clear d0 hgt hRP K8 hno3 hb3 HLP9 HCP9 HST HQT
              generalize (tl.take j).map clT = pre3 at *
              generalize hnp : (ix tl j).length = np at *
              generalize hpl : ix tl j = pl at *
              clear hpl
              go_wp2_with fail
              obtain ⟨w3, rfl⟩ : ∃ w3, w3 = wr := ⟨wr, rfl⟩
              clear d0'
              go_loopw [11, 52] (fun s i wr => ∃ l : Nat, i = .int .i64 (l : Nat) ∧ l ≤ np ∧ Hid (NO wr w3.heap.size 112 5 (fun _ _ => QV Prt.c) s ((pl.take l).map clP)) ∧ Below w3.heap.size w3 wr) (fun _ i _ => np - (intOf i).toNat)
              case atStart => exact ⟨0, rfl, by omega, NO.nil _ _ _ _ _, Below.refl _ _⟩
              case round =>
                obtain ⟨l, rfl, hl, hno4, hb4⟩ := hrel
                have HN4 := Lib.hid hno4.out
                have HB4 := Lib.hid hb4
                have hz4 := hb4.size
                have hln4 : ((pl.take l).map clP).length = l := by simp; omega
                obtain ⟨av6, cap6, hs6⟩ := HN4.out.form' hln4
                subst hs6
                clear hno4 hb4
                by_cases hll : l < np
                · obtain ⟨b6, off6, rfl, -, -, -⟩ := HPL.out.get (by omega)
                  have e0 := HPL.out.cellAt rfl HB4.out (i := l) (j := 0) hll (by omega)
                  have e1 : wr.cell? ⟨b6, off6 + l * 5 + 1, none⟩ = some (.bool (ix pl l).b) := HPL.out.cellAt rfl HB4.out (i := l) (j := 1) hll (by omega)
                  have e2 : wr.cell? ⟨b6, off6 + l * 5 + 2, none⟩ = some (.bool (ix pl l).a.n) := HPL.out.cellAt rfl HB4.out (i := l) (j := 2) hll (by omega)
                  have e3 : wr.cell? ⟨b6, off6 + l * 5 + 3, none⟩ = some (.string (ix pl l).a.s) := HPL.out.cellAt rfl HB4.out (i := l) (j := 3) hll (by omega)
                  have e4 : wr.cell? ⟨b6, off6 + l * 5 + 4, none⟩ = some (.string (ix pl l).a.d) := HPL.out.cellAt rfl HB4.out (i := l) (j := 4) hll (by omega)
                  rw [Nat.add_zero] at e0
                  have e0' : wr.cell? ⟨b6, off6 + l * 5, none⟩ = some (.int .i64 (ix pl l).k) := e0
                  have HCK := Lib.hid (HCP8.out l (by omega))
                  have HTK4 := Lib.hid (show (pl.take (l + 1)).map clP = (pl.take l).map clP ++ [⟨(ix pl l).k, (ix pl l).b, nR (ix pl l).a.q⟩] from take_map_succ clP (l := pl) (k := l) (by omega))
                  have i5 : (0 : Int) ≤ (l : Int) := by omega
                  have i6 : (l : Int) < (np : Int) := by omega
                  clear e0 HCP8
                  generalize (pl.take l).map clP = pre4 at *
                  generalize ix pl l = P at *
                  obtain ⟨kk, bb, a⟩ := P
                  dsimp only at e0' e1 e2 e3 e4 HCK HTK4
                  generalize nR a.q = a' at *
                  obtain ⟨n', s', d'⟩ := a'
                  generalize a.n = an at *
                  generalize a.s = as' at *
                  generalize a.d = ad at *
                  dsimp only at HCK
                  go_wp2_with fail
                  refine (HCK.out _).mono ?_; rintro x w6 ⟨rfl, hb6⟩
                  obtain ⟨K5, hbw⟩ := boxes1 hb6
                  have h5 : wr.heap.size < w6.heap.size := K5.lt
                  obtain ⟨v9, w9, hr9, hno9, hb9⟩ := NO.app qkeep_prt (w := ((w6.setCell ⟨wr.heap.size, 2, none⟩ (.bool n')).setCell ⟨wr.heap.size, 3, none⟩ (.string s')).setCell ⟨wr.heap.size, 4, none⟩ (.string d')) (t := 113) (E := [.int .i64 kk, .bool bb, .bool n', .string s', .string d']) (x := ⟨kk, bb, ⟨n', s', d'⟩⟩) HN4.out
                    (((hbw.setCell (Nat.le_refl _) _).setCell (Nat.le_refl _) _).setCell (Nat.le_refl _) _) rfl Tryz.underlying113 partInfo (by omega) rfl (prt_one ⟨kk, bb, ⟨n', s', d'⟩⟩) (by omega) (by omega) (by omega)
                  simp only [World.size_setCell] at hr9
                  have HR9 := Lib.hid hr9
                  have HN9 := Lib.hid hno9
                  have HB6 := Lib.hid (((hbw.setCell (Nat.le_refl _) (p := ⟨wr.heap.size, 2, none⟩) (.bool n')).setCell (Nat.le_refl _) (p := ⟨wr.heap.size, 3, none⟩) (.string s')).setCell (Nat.le_refl _) (p := ⟨wr.heap.size, 4, none⟩) (.string d'))
                  have HB9 := Lib.hid (HB4.out.trans ((HB6.out.mono hz4).trans hb9))
                  have n0 : w6.cell? ⟨wr.heap.size, 0, none⟩ = some (.int .i64 kk) := K5.cell 0
                  have n1 : w6.cell? ⟨wr.heap.size, 1, none⟩ = some (.bool bb) := K5.cell 1
                  have n2 := K5.frozen 2
                  have n3 := K5.frozen 3
                  have n4 := K5.frozen 4
                  have n5 : w6.cell? ⟨wr.heap.size, 2, none⟩ = some (.bool an) := K5.cell 2
                  have n6 : w6.cell? ⟨wr.heap.size, 3, none⟩ = some (.string as') := K5.cell 3
                  have n7 : w6.cell? ⟨wr.heap.size, 4, none⟩ = some (.string ad) := K5.cell 4
                  clear hb6 hbw hno9 hb9 hr9 K5 e0' e1 e2 e3 e4
                  go_wp2_with (at_builtin; refine Lib.wpList_append_run _ rfl _ _ _ _ rfl _ _ rfl rfl _ _ (HR9.out _) ?_)
                  go_roundw
                  case rel => exact ⟨l + 1, by go_num, by omega, by rw [HTK4.out]; exact HN9, HB9.out⟩
                  case measure => simp [intOf]; omega
                · obtain rfl : l = np := by omega
                  have hnl9 : decide ((l : Int) < (l : Int)) = false := by simp
                  have hfull : (pl.take l).map clP = pl.map clP := by rw [← hnp, List.take_length]
                  rw [hfull] at HN4
                  have hpv : RParts wr (Fr w3.heap.size wr) (.slice av6 l cap6) (pl.map clP) := HN4.out.toRL qkeep_prt
                  have K8 := J8.out.on HB4.out
                  have c8 : wr.cell? ⟨y, 0, none⟩ = some (.slice av7 j cap7) := K8.cell 0
                  obtain ⟨v9, w9, hr9, hno9, hb9⟩ := NO.app qkeep_tier (w := wr) (t := 108) (E := [.slice av6 l cap6]) (x := pl.map clP) HN3.out
                    HB4.out ⟨_, rfl, hpv⟩ Tryz.underlying108 tierInfo (by omega) rfl (by simp [Value.oneCell']) (by omega) (by omega) (by omega)
                  obtain ⟨a99, cap99, rfl⟩ := hno9.form
                  generalize (pre3 ++ [pl.map clP]).length = n99 at *
                  have M8 := K8.below hb9 (by omega)
                  have c9 : w9.cell? ⟨y, 0, none⟩ = some (.slice av7 j cap7) := M8.cell 0
                  have f9 := M8.frozen 0
                  have MS := Lib.hid (M8.set 0 (.slice a99 n99 cap99))
                  have HN9 := Lib.hid (hno9.setCell qkeep_tier ⟨y, 0, none⟩ (.slice a99 n99 cap99) (by simp))
                  have HB9 := Lib.hid ((HB3.out.trans ((HB4.out.mono hz3).trans (hb9.mono (by omega)))).setCell (p := ⟨y, 0, none⟩) (by simp; omega) (.slice a99 n99 cap99))
                  have HR9 := Lib.hid hr9
                  clear hr9 hno9 hb9 M8 K8 hpv
                  go_wp2_with (at_builtin; refine Lib.wpList_append_run _ rfl _ _ _ _ rfl _ _ rfl rfl _ _ (HR9.out _) ?_)
                  go_roundw
                  case rel => exact ⟨j + 1, .slice a99 n99 cap99, by go_num, by omega, MS.out, by rw [HTK3.out]; exact HN9, HB9.out⟩
                  case measure => simp [intOf]; omega
            · obtain rfl : j = nt := by omega
              have hnl9 : decide ((j : Int) < (j : Int)) = false := by simp
              have hfull : (tl.take j).map clT = tl.map clT := by rw [← hnt, List.take_length]
              rw [hfull] at HN3
              have htv : RTiers wr (Fr w2.heap.size wr) (.slice av7 j cap7) (tl.map clT) := (show RTiers wr (Fr (y + 1) wr) (.slice av7 j cap7) (tl.map clT) from HN3.out.toRL qkeep_tier).keep ⟨fun _ _ _ => rfl⟩ fun b hb => ⟨by have := hb.1; omega, hb.2⟩
              have c8 : wr.cell? ⟨y, 0, none⟩ = some (.slice av7 j cap7) := J8.out.cell 0
              have N2 := J2.out.on HB3.out
              have c2 : wr.cell? ⟨z, 4, none⟩ = some (.slice av8 q cap8) := N2.cell 4
              obtain ⟨v9, w9, hr9, hno9, hb9⟩ := NO.app qkeep_agr (w := wr) (t := 82) (E := [.slice av7 j cap7]) (x := tl.map clT) HNO.out
                HB3.out ⟨_, rfl, htv⟩ Tryz.underlying82 agrInfo (by omega) rfl (by simp [Value.oneCell']) (by omega) (by omega) (by omega)
              obtain ⟨a99, cap99, rfl⟩ := hno9.form
              generalize (pre2 ++ [tl.map clT]).length = n99 at *
              have M2 := N2.below hb9 (by omega)
              have c9 : w9.cell? ⟨z, 4, none⟩ = some (.slice av8 q cap8) := M2.cell 4
              have f9 := M2.frozen 4
              have MS := Lib.hid (M2.set 4 (.slice a99 n99 cap99))
              have HN9 := Lib.hid (hno9.setCell qkeep_agr ⟨z, 4, none⟩ (.slice a99 n99 cap99) (by simp; omega))
              have P0 := Lib.hid (((J0.out.on HB3.out).below hb9 (by omega)).setOther ⟨z, 4, none⟩ (.slice a99 n99 cap99) (by simp; omega))
              have P1 := Lib.hid (((J1.out.on HB3.out).below hb9 (by omega)).setOther ⟨z, 4, none⟩ (.slice a99 n99 cap99) (by simp; omega))
              have hs9 := hb9.size
              have HB9 := Lib.hid ((HB.out.trans ((HB3.out.mono hzb).trans (hb9.mono (by omega)))).setCell (p := ⟨z, 4, none⟩) (by simp; omega) (.slice a99 n99 cap99))
              have HVE := Lib.hid (((HV.out.on HB3.out).keep (q := fun b => z + 1 ≤ b ∧ b < M) (Keeps.of_below' hb9 fun b hb => hb.2) fun _ h => h).keep (w' := w9.setCell ⟨z, 4, none⟩ (.slice a99 n99 cap99)) (q := fun b => z + 1 ≤ b ∧ b < M) ⟨fun b hb _ => heap_setCell_other w9 ⟨z, 4, none⟩ b _ (by simp; omega)⟩ fun _ h => h)
              have HR9 := Lib.hid hr9
              clear hr9 hno9 hb9 M2 N2 htv K8 hno3 hb3
              go_wp2_with (at_builtin; refine Lib.wpList_append_run _ rfl _ _ _ _ rfl _ _ rfl rfl _ _ (HR9.out _) ?_)
              go_roundw
              case rel => exact ⟨q + 1, .slice a99 n99 cap99, by go_num, by omega, P0.out, P1.out, MS.out, by rw [HTK.out]; exact HN9, HVE, HB9.out, by simp only [World.size_setCell]; omega⟩
              case measure => simp [intOf]; omega
        · obtain rfl : q = na := by omega
          have hnl9 : decide ((q : Int) < (q : Int)) = false := by simp
          have hln9 : ((al.take q).map clA).length = q := by simp; omega
          obtain ⟨av8, cap8, rfl⟩ := HNO.out.form' hln9
          have hfull : (al.take q).map clA = al.map clA := by rw [← hna, List.take_length]
          rw [hfull] at HNO
          have HVA := Lib.hid (show RAgrs wr (Fr M wr) _ (al.map clA) from HNO.out.toRL qkeep_agr)
          obtain ⟨z0, z1, z2, z3, z4⟩ := K2.c5
          have r0 : wr.cell? ⟨w.heap.size + 1, 0, none⟩ = some (.bool false) := K1.cell 0
          have r1 : wr.cell? ⟨w.heap.size + 1, 1, none⟩ = some (.string ⟨#[]⟩) := K1.cell 1
          have r2 : wr.cell? ⟨w.heap.size + 1, 2, none⟩ = some (.string ⟨#[]⟩) := K1.cell 2
          have r3 : wr.cell? ⟨w.heap.size + 1, 3, none⟩ = some (.slice none 0 0) := K1.cell 3
          have r4 : wr.cell? ⟨w.heap.size + 1, 4, none⟩ = some (.slice none 0 0) := K1.cell 4
          have f0 := K1.frozen 0
          have f1 := K1.frozen 1
          have f2 := K1.frozen 2
          have f3 := K1.frozen 3
          have f4 := K1.frozen 4
          clear K0 K1 K2 hno hv hbw HNO
          go_wp2
          refine bodyPost_forget (fun W => Blk W (w.heap.size + 1) #[.bool m'.n, .string m'.s, .string m'.d, .slice av9 k cap9, .slice av8 q cap8] ∧ RClaims W (Fr w.heap.size W) (.slice av9 k cap9) (cl.map clC) ∧ RAgrs W (Fr w.heap.size W) (.slice av8 q cap8) (al.map clA) ∧ Below w.heap.size w W)
            ⟨by exact ((((J1.out.set 0 _).set 1 _).set 2 _).set 3 _).set 4 _, ?_, ?_, by exact ((((HB.out.setCell (p := ⟨w.heap.size + 1, 0, none⟩) (by simp) _).setCell (p := ⟨w.heap.size + 1, 1, none⟩) (by simp) _).setCell (p := ⟨w.heap.size + 1, 2, none⟩) (by simp) _).setCell (p := ⟨w.heap.size + 1, 3, none⟩) (by simp) _).setCell (p := ⟨w.heap.size + 1, 4, none⟩) (by simp) _⟩ ?_
          · refine HV.out.keep ⟨fun b hb hl => ?_⟩ fun b hb => ⟨by omega, ?_⟩
            · rw [heap_setCell_other _ _ _ _ (by simp; omega), heap_setCell_other _ _ _ _ (by simp; omega), heap_setCell_other _ _ _ _ (by simp; omega), heap_setCell_other _ _ _ _ (by simp; omega), heap_setCell_other _ _ _ _ (by simp; omega)]
            · simp only [World.size_setCell]; omega
          · refine HVA.out.keep ⟨fun b hb hl => ?_⟩ fun b hb => ⟨by have := hb.1; omega, ?_⟩
            · have := hb.1
              rw [heap_setCell_other _ _ _ _ (by simp; omega), heap_setCell_other _ _ _ _ (by simp; omega), heap_setCell_other _ _ _ _ (by simp; omega), heap_setCell_other _ _ _ _ (by simp; omega), heap_setCell_other _ _ _ _ (by simp; omega)]
            · have := hb.2; simp only [World.size_setCell]; omega
          · rintro WR ⟨hr9, hc9, ha9, hb9⟩
            obtain ⟨y0, y1, y2, y3, y4⟩ := hr9.c5
            exact bodyPost_ret (v := .agg #[.bool m'.n, .string m'.s, .string m'.d, .slice av9 k cap9, .slice av8 q cap8]) (by simp [results, Tryz.results81, go_sem, y0, y1, y2, y3, y4]) rfl ⟨_, _, rfl, hc9, ha9, hb9⟩
end Go.Proofs.Ins

set_option linter.unusedSimpArgs false
set_option linter.unusedVariables false
namespace Go.Proofs.Ins
open Go.RowKit

/-- An agreement handed back, its numbers valid, in blocks of the call's own. -/
def RetAgr (w : World) (a : Agr) : Ending → World → Prop := fun x w' => ∃ v', x = .returned (.agg #[v']) ∧ RTiers w' (Fr w.heap.size w') v' a ∧ Below w.heap.size w w'

set_option maxRecDepth 100000 in
set_option maxHeartbeats 2400000 in
theorem cleanagr_any (p : Nat → Prop) (tl : Agr) (v : Value) (w : World) (hA : RTiers w p v tl) (ha : ∀ j l, j < tl.length → l < (ix tl j).length → (ix (ix tl j) l).a.fits 134217728) (lt9 : tl.length ≤ 24) (lp : ∀ j, j < tl.length → (ix tl j).length ≤ 24) :
    Calls Tryz.prog 88 #[.agg #[v]] w (RetAgr w (clA tl)) := by
  have HCP9 := Lib.hid (fun j l (hj : j < tl.length) (hl : l < (ix tl j).length) w => (show Calls Tryz.prog 35 #[.agg #[.bool (ix (ix tl j) l).a.n, .string (ix (ix tl j) l).a.s, .string (ix (ix tl j) l).a.d]] w (fun x w' => x = .returned (.agg #[.bool (nR (ix (ix tl j) l).a.q).n, .string (nR (ix (ix tl j) l).a.q).s, .string (nR (ix (ix tl j) l).a.q).d]) ∧ Below w.heap.size w w') from fix_agg _ _ _ w (by have := (ha j l hj hl).1; omega) (by have := (ha j l hj hl).2; omega)))
  have HLP9 := Lib.hid lp
  obtain ⟨GT, hST, hQT⟩ := hA
  obtain ⟨at2, ct2, rfl, -, -⟩ := hST.form
  have HST := Lib.hid hST
  have HQT := Lib.hid hQT
  unfold RetAgr clA
  clear ha lp hST hQT
  generalize hnt : tl.length = nt at *
  go_enter Tryz.func88, Tryz.ntmps88
  go_wp2_with fail
  refine wp_forget (fun W => ∃ y, y = w.heap.size + 1 + 1 ∧ Blk W w.heap.size #[.slice at2 nt ct2] ∧ Blk W (w.heap.size + 1) #[.slice none 0 0] ∧ Blk W y #[.slice none 0 0] ∧ Below w.heap.size w W) ⟨_, rfl, three_boxes w _ _ _ _ _ _⟩ ?_
  rintro W5 ⟨y, hy, K0, K1, K8, hb5⟩
  rw [← hy]
  have J0 := Lib.hid K0
  have J1 := Lib.hid K1
  have J8 := Lib.hid K8
  have HB5 := Lib.hid hb5
  have hyz : w.heap.size + 1 < y := by omega
  clear hy K0 K1 K8 hb5
  go_loopw [4] (fun i wr => ∃ j tv, i = .int .i64 (j : Nat) ∧ j ≤ nt ∧ Blk wr w.heap.size #[.slice at2 nt ct2] ∧ Blk wr (w.heap.size + 1) #[.slice none 0 0] ∧ Blk wr y #[tv] ∧ Hid (NO wr (y + 1) 113 1 QTier tv ((tl.take j).map clT)) ∧ Below w.heap.size w wr) (fun i _ => nt - (intOf i).toNat)
  case atStart => exact ⟨0, _, rfl, by omega, J0.out, J1.out, J8.out, NO.nil _ _ _ _ _, HB5.out⟩
  case round =>
    obtain ⟨j, tv, rfl, hj, K0, K1, K8, hno3, hb3⟩ := hrel
    have hy3 := K8.lt
    have J0 := Lib.hid K0
    have J1 := Lib.hid K1
    have J8 := Lib.hid K8
    have HN3 := Lib.hid hno3.out
    have HB3 := Lib.hid hb3
    have hz3 := hb3.size
    have hln3 : ((tl.take j).map clT).length = j := by simp; omega
    obtain ⟨av7, cap7, rfl⟩ := HN3.out.form' hln3
    have k0 : wr.cell? ⟨w.heap.size, 0, none⟩ = some (.slice at2 nt ct2) := K0.cell 0
    clear HB5
    by_cases hlj : j < nt
    · obtain ⟨bt, offt, rfl, -, -, -⟩ := HST.out.get (by omega)
      obtain ⟨pv, hgt, hRP⟩ := HQT.out j hlj
      obtain ⟨ap, cp, rfl, -, -⟩ := hRP.plain.form
      have d0 := HST.out.cellAt rfl HB3.out (i := j) (j := 0) hlj (by omega)
      rw [hgt, Nat.mul_one, Nat.add_zero] at d0
      have d0' : wr.cell? ⟨bt, offt + j, none⟩ = some (Value.slice ap (ix tl j).length cp) := d0
      have hbt : bt < wr.heap.size := block_lt_of_cell d0'
      have lp9 := HLP9.out j (by omega)
      have HCP8 := Lib.hid (fun l hl w => HCP9.out j l (by omega) hl w)
      have HTK3 := Lib.hid (show (tl.take (j + 1)).map clT = (tl.take j).map clT ++ [(ix tl j).map clP] from take_map_succ clT (l := tl) (k := j) (by omega))
      have HPL := Lib.hid (hRP.on HB3.out).plain
      have i3 : (0 : Int) ≤ (j : Int) := by omega
      have i4 : (j : Int) < (nt : Int) := by omega
      clear d0 hgt hRP K8 K0 K1 hno3 hb3 HLP9 HCP9 HST HQT
      generalize (tl.take j).map clT = pre3 at *
      generalize hnp : (ix tl j).length = np at *
      generalize hpl : ix tl j = pl at *
      clear hpl
      have HD0 := Lib.hid d0'
      go_wp2_with fail
      obtain ⟨w3, rfl⟩ : ∃ w3, w3 = wr := ⟨wr, rfl⟩
      clear d0' k0
      go_loopw [5, 6] (fun s i wr => ∃ l : Nat, i = .int .i64 (l : Nat) ∧ l ≤ np ∧ Hid (NO wr w3.heap.size 112 5 (fun _ _ => QV Prt.c) s ((pl.take l).map clP)) ∧ Below w3.heap.size w3 wr) (fun _ i _ => np - (intOf i).toNat)
      case atStart => exact ⟨0, rfl, by omega, NO.nil _ _ _ _ _, Below.refl _ _⟩
      case round =>
        obtain ⟨l, rfl, hl, hno4, hb4⟩ := hrel
        have HN4 := Lib.hid hno4.out
        have HB4 := Lib.hid hb4
        have hz4 := hb4.size
        have hln4 : ((pl.take l).map clP).length = l := by simp; omega
        obtain ⟨av6, cap6, hs6⟩ := HN4.out.form' hln4
        subst hs6
        have k0 : wr.cell? ⟨w.heap.size, 0, none⟩ = some (.slice (some ⟨bt, offt, none⟩) nt ct2) := (J0.out.on hb4).cell 0
        have d0' : wr.cell? ⟨bt, offt + j, none⟩ = some (Value.slice ap np cp) := by rw [World.cell?_of_block (w := w3) (a := ⟨bt, offt + j, none⟩) (hb4.block bt hbt)]; exact HD0.out
        clear hno4 hb4
        by_cases hll : l < np
        · obtain ⟨b6, off6, rfl, -, -, -⟩ := HPL.out.get (by omega)
          have e0 := HPL.out.cellAt rfl HB4.out (i := l) (j := 0) hll (by omega)
          have e1 : wr.cell? ⟨b6, off6 + l * 5 + 1, none⟩ = some (.bool (ix pl l).b) := HPL.out.cellAt rfl HB4.out (i := l) (j := 1) hll (by omega)
          have e2 : wr.cell? ⟨b6, off6 + l * 5 + 2, none⟩ = some (.bool (ix pl l).a.n) := HPL.out.cellAt rfl HB4.out (i := l) (j := 2) hll (by omega)
          have e3 : wr.cell? ⟨b6, off6 + l * 5 + 3, none⟩ = some (.string (ix pl l).a.s) := HPL.out.cellAt rfl HB4.out (i := l) (j := 3) hll (by omega)
          have e4 : wr.cell? ⟨b6, off6 + l * 5 + 4, none⟩ = some (.string (ix pl l).a.d) := HPL.out.cellAt rfl HB4.out (i := l) (j := 4) hll (by omega)
          rw [Nat.add_zero] at e0
          have e0' : wr.cell? ⟨b6, off6 + l * 5, none⟩ = some (.int .i64 (ix pl l).k) := e0
          have HCK := Lib.hid (HCP8.out l (by omega))
          have HTK4 := Lib.hid (show (pl.take (l + 1)).map clP = (pl.take l).map clP ++ [⟨(ix pl l).k, (ix pl l).b, nR (ix pl l).a.q⟩] from take_map_succ clP (l := pl) (k := l) (by omega))
          have i5 : (0 : Int) ≤ (l : Int) := by omega
          have i6 : (l : Int) < (np : Int) := by omega
          clear e0 HCP8
          generalize (pl.take l).map clP = pre4 at *
          generalize ix pl l = P at *
          obtain ⟨kk, bb, a⟩ := P
          dsimp only at e0' e1 e2 e3 e4 HCK HTK4
          generalize nR a.q = a' at *
          obtain ⟨n', s', d'⟩ := a'
          generalize a.n = an at *
          generalize a.s = as' at *
          generalize a.d = ad at *
          dsimp only at HCK
          go_wp2_with fail
          refine (HCK.out _).mono ?_; rintro x w6 ⟨rfl, hb6⟩
          obtain ⟨K5, hbw⟩ := boxes1 hb6
          have h5 : wr.heap.size < w6.heap.size := K5.lt
          obtain ⟨v9, w9, hr9, hno9, hb9⟩ := NO.app qkeep_prt (w := ((w6.setCell ⟨wr.heap.size, 2, none⟩ (.bool n')).setCell ⟨wr.heap.size, 3, none⟩ (.string s')).setCell ⟨wr.heap.size, 4, none⟩ (.string d')) (t := 113) (E := [.int .i64 kk, .bool bb, .bool n', .string s', .string d']) (x := ⟨kk, bb, ⟨n', s', d'⟩⟩) HN4.out
            (((hbw.setCell (Nat.le_refl _) _).setCell (Nat.le_refl _) _).setCell (Nat.le_refl _) _) rfl Tryz.underlying113 partInfo (by omega) rfl (prt_one ⟨kk, bb, ⟨n', s', d'⟩⟩) (by omega) (by omega) (by omega)
          simp only [World.size_setCell] at hr9
          have HR9 := Lib.hid hr9
          have HN9 := Lib.hid hno9
          have HB6 := Lib.hid (((hbw.setCell (Nat.le_refl _) (p := ⟨wr.heap.size, 2, none⟩) (.bool n')).setCell (Nat.le_refl _) (p := ⟨wr.heap.size, 3, none⟩) (.string s')).setCell (Nat.le_refl _) (p := ⟨wr.heap.size, 4, none⟩) (.string d'))
          have HB9 := Lib.hid (HB4.out.trans ((HB6.out.mono hz4).trans hb9))
          have n0 : w6.cell? ⟨wr.heap.size, 0, none⟩ = some (.int .i64 kk) := K5.cell 0
          have n1 : w6.cell? ⟨wr.heap.size, 1, none⟩ = some (.bool bb) := K5.cell 1
          have n2 := K5.frozen 2
          have n3 := K5.frozen 3
          have n4 := K5.frozen 4
          have n5 : w6.cell? ⟨wr.heap.size, 2, none⟩ = some (.bool an) := K5.cell 2
          have n6 : w6.cell? ⟨wr.heap.size, 3, none⟩ = some (.string as') := K5.cell 3
          have n7 : w6.cell? ⟨wr.heap.size, 4, none⟩ = some (.string ad) := K5.cell 4
          clear hb6 hbw hno9 hb9 hr9 K5 e0' e1 e2 e3 e4 k0 d0'
          go_wp2_with (at_builtin; refine Lib.wpList_append_run _ rfl _ _ _ _ rfl _ _ rfl rfl _ _ (HR9.out _) ?_)
          go_roundw
          case rel => exact ⟨l + 1, by go_num, by omega, by rw [HTK4.out]; exact HN9, HB9.out⟩
          case measure => simp [intOf]; omega
        · obtain rfl : l = np := by omega
          have hnl9 : decide ((l : Int) < (l : Int)) = false := by simp
          have hfull : (pl.take l).map clP = pl.map clP := by rw [← hnp, List.take_length]
          rw [hfull] at HN4
          have hpv : RParts wr (Fr w3.heap.size wr) (.slice av6 l cap6) (pl.map clP) := HN4.out.toRL qkeep_prt
          have K8 := J8.out.on HB4.out
          have c8 : wr.cell? ⟨y, 0, none⟩ = some (.slice av7 j cap7) := K8.cell 0
          obtain ⟨v9, w9, hr9, hno9, hb9⟩ := NO.app qkeep_tier (w := wr) (t := 108) (E := [.slice av6 l cap6]) (x := pl.map clP) HN3.out
            HB4.out ⟨_, rfl, hpv⟩ Tryz.underlying108 tierInfo (by omega) rfl (by simp [Value.oneCell']) (by omega) (by omega) (by omega)
          obtain ⟨a99, cap99, rfl⟩ := hno9.form
          generalize (pre3 ++ [pl.map clP]).length = n99 at *
          have M8 := K8.below hb9 (by omega)
          have c9 : w9.cell? ⟨y, 0, none⟩ = some (.slice av7 j cap7) := M8.cell 0
          have f9 := M8.frozen 0
          have MS := Lib.hid (M8.set 0 (.slice a99 n99 cap99))
          have P0 := Lib.hid (((J0.out.on HB4.out).below hb9 (by omega)).setOther ⟨y, 0, none⟩ (.slice a99 n99 cap99) (by simp; omega))
          have P1 := Lib.hid (((J1.out.on HB4.out).below hb9 (by omega)).setOther ⟨y, 0, none⟩ (.slice a99 n99 cap99) (by simp; omega))
          have HN9 := Lib.hid (hno9.setCell qkeep_tier ⟨y, 0, none⟩ (.slice a99 n99 cap99) (by simp))
          have HB9 := Lib.hid ((HB3.out.trans ((HB4.out.mono hz3).trans (hb9.mono (by omega)))).setCell (p := ⟨y, 0, none⟩) (by simp; omega) (.slice a99 n99 cap99))
          have HR9 := Lib.hid hr9
          clear hr9 hno9 hb9 M8 K8 hpv
          go_wp2_with (at_builtin; refine Lib.wpList_append_run _ rfl _ _ _ _ rfl _ _ rfl rfl _ _ (HR9.out _) ?_)
          go_roundw
          case rel => exact ⟨j + 1, .slice a99 n99 cap99, by go_num, by omega, P0.out, P1.out, MS.out, by rw [HTK3.out]; exact HN9, HB9.out⟩
          case measure => simp [intOf]; omega
    · obtain rfl : j = nt := by omega
      have hnl9 : decide ((j : Int) < (j : Int)) = false := by simp
      have hfull : (tl.take j).map clT = tl.map clT := by rw [← hnt, List.take_length]
      rw [hfull] at HN3
      have HV := Lib.hid (show RTiers wr (Fr (y + 1) wr) (.slice av7 j cap7) (tl.map clT) from HN3.out.toRL qkeep_tier)
      have c8 : wr.cell? ⟨y, 0, none⟩ = some (.slice av7 j cap7) := K8.cell 0
      have c1 : wr.cell? ⟨w.heap.size + 1, 0, none⟩ = some (.slice none 0 0) := K1.cell 0
      have f1 := K1.frozen 0
      clear K0 K1 K8 hno3 hb3
      go_wp2
      refine bodyPost_forget (fun W => Blk W (w.heap.size + 1) #[.slice av7 j cap7] ∧ RTiers W (Fr w.heap.size W) (.slice av7 j cap7) (tl.map clT) ∧ Below w.heap.size w W)
        ⟨by exact J1.out.set 0 _, ?_, by exact HB3.out.setCell (p := ⟨w.heap.size + 1, 0, none⟩) (by simp) _⟩ ?_
      · refine HV.out.keep ⟨fun b hb hl => ?_⟩ fun b hb => ⟨by have := hb.1; omega, ?_⟩
        · have := hb.1
          rw [heap_setCell_other _ _ _ _ (by simp; omega)]
        · have := hb.2; simp only [World.size_setCell]; omega
      · rintro WR ⟨hr9, hc9, hb9⟩
        have y0 : WR.cell? ⟨w.heap.size + 1, 0, none⟩ = some (.slice av7 j cap7) := hr9.cell 0
        exact bodyPost_ret (v := .agg #[.slice av7 j cap7]) (by simp [results, Tryz.results88, go_sem, y0]) rfl ⟨_, rfl, hc9, hb9⟩
end Go.Proofs.Ins
