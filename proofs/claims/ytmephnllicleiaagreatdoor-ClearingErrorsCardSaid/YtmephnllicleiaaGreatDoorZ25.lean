/- The walk of insolvencylaw18.Few: where it answers true, the group's numbers and lists are short. -/
import Derived.Test.YtmephnllicleiaaGreatDoorZ17

set_option linter.unusedSimpArgs false
set_option linter.unusedVariables false
namespace Go.Proofs.Ins
open Go.RowKit

def TierOk (t : Tier) : Prop := t.length ≤ 30 ∧ ∀ l, l < t.length → (ix t l).a.fits 24
def AgrOk (a : Agr) : Prop := a.length ≤ 30 ∧ ∀ j, j < a.length → TierOk (ix a j)
/-- Short enough for a law. -/
structure Few17 (e : Est) : Prop where
  m : e.m.fits 24
  lc : e.c.length ≤ 8
  la : e.a.length ≤ 4
  c : ∀ i, i < e.c.length → (ix e.c i).a.fits 24
  a : ∀ i, i < e.a.length → AgrOk (ix e.a i)
def RetB (w : World) (F : Prop) (x : Ending) (w' : World) : Prop := ∃ b : Bool, x = .returned (.bool b) ∧ (b = true → F) ∧ Below w.heap.size w w'
theorem RetB.no {w w' : World} {F : Prop} (h : Below w.heap.size w w') : RetB w F (.returned (.bool false)) w' := ⟨false, rfl, fun h => (by cases h), h⟩
theorem RetB.yes {w w' : World} {F : Prop} (hF : F) (h : Below w.heap.size w w') : RetB w F (.returned (.bool true)) w' := ⟨true, rfl, fun _ => hF, h⟩
theorem smallB_fits {r : R3} (h : smallB r = true) : r.fits 24 := by
  have := of_decide_eq_true (p := r.s.size ≤ 24 ∧ r.d.size ≤ 24) h
  exact this


set_option maxRecDepth 100000 in
set_option maxHeartbeats 6400000 in
theorem few17_any (p : Nat → Prop) (e : Est) (cv av : Value) (w : World) (hC : RClaims w p cv e.c) (hA : RAgrs w p av e.a) (hs : SmallE 140737488351232 e) :
    Calls Tryz.prog 15 #[e.v cv av] w (RetB w (Few17 e)) := by
  obtain ⟨a1, c1, rfl, -, -⟩ := hC.plain.form
  have HC := Lib.hid hC.plain
  have HA0 := Lib.hid hA
  have HM := Lib.hid (fun w => few_r3 e.m w hs.m)
  have HFC := Lib.hid hs.c
  have HFA := Lib.hid hs.a
  have HLT := Lib.hid hs.lt
  have HLP := Lib.hid hs.lp
  have lc := hs.lc
  have la := hs.la
  obtain ⟨G, hS, hQ⟩ := hA
  obtain ⟨aa, ca, rfl, -, -⟩ := hS.form
  have HS := Lib.hid hS
  have HQ := Lib.hid hQ
  have HMF := Lib.hid (fun h => smallB_fits (r := e.m) h)
  have HFIN := Lib.hid (fun h1 h2 h3 h4 h5 => Few17.mk (e := e) h1 h2 h3 h4 h5)
  unfold Est.v
  clear hs hC hS hQ
  generalize hcl : e.c = cl at *
  generalize hal : e.a = al at *
  generalize e.m = m at *
  clear hcl hal
  generalize smallB m = sm at *
  generalize m.n = mn at *
  generalize m.s = ms at *
  generalize m.d = md at *
  generalize hnc : cl.length = nc at *
  generalize hna : al.length = na at *
  generalize hF : Few17 e = F at *
  clear hF
  by_cases g1 : 8 < nc
  · have d1 : decide (8 < nc) = true := decide_eq_true g1
    have d1' : decide ((8 : Int) < (nc : Int)) = true := by simp; omega
    clear HFIN
    go_enter Tryz.func15, Tryz.ntmps15
    go_wp2
    go_ret
    exact RetB.no ((Below.refl _ _).alloc (Nat.le_refl _) _)
  · have d1 : decide (8 < nc) = false := decide_eq_false g1
    have d1' : decide ((8 : Int) < (nc : Int)) = false := by simp; omega
    by_cases g2 : 4 < na
    · have d2 : decide (4 < na) = true := decide_eq_true g2
      have d2' : decide ((4 : Int) < (na : Int)) = true := by simp; omega
      clear HFIN
      go_enter Tryz.func15, Tryz.ntmps15
      go_wp2
      go_ret
      exact RetB.no ((Below.refl _ _).alloc (Nat.le_refl _) _)
    · have d2 : decide (4 < na) = false := decide_eq_false g2
      have d2' : decide ((4 : Int) < (na : Int)) = false := by simp; omega
      go_enter Tryz.func15, Tryz.ntmps15
      go_wp2_with fail
      refine (HM.out _).mono ?_; rintro x w1 ⟨rfl, hb1⟩
      obtain ⟨J0, HB⟩ := boxes1 hb1
      have J0 := Lib.hid J0
      have HB := Lib.hid HB
      clear hb1
      cases sm
      · clear HFIN
        go_wp2
        go_ret
        exact RetB.no HB.out
      · have HFIN := Lib.hid (HFIN.out (HMF.out rfl) (by omega) (by omega))
        clear HMF HM
        have k3 : w1.cell? ⟨w.heap.size, 3, none⟩ = some (.slice a1 nc c1) := J0.out.cell 3
        go_wp2_with fail
        go_loopw [30] (fun i wr => ∃ t : Nat, i = .int .i64 t ∧ t ≤ nc ∧ Blk wr w.heap.size #[.bool mn, .string ms, .string md, .slice a1 nc c1, .slice aa na ca] ∧ Below w.heap.size w wr ∧ Hid (∀ i, i < t → (ix cl i).a.fits 24)) (fun i _ => nc - (intOf i).toNat)
        case atStart => exact ⟨0, rfl, by omega, J0.out, HB.out, fun i hi => by omega⟩
        case round =>
          obtain ⟨t, rfl, ht, K0, hbt, hst⟩ := hrel
          have J0 := Lib.hid K0
          have HB := Lib.hid hbt
          have k3 : wr.cell? ⟨w.heap.size, 3, none⟩ = some (.slice a1 nc c1) := K0.cell 3
          have k4 : wr.cell? ⟨w.heap.size, 4, none⟩ = some (.slice aa na ca) := K0.cell 4
          have hz := hbt.size
          clear K0 hbt
          by_cases hlt : t < nc
          · obtain ⟨b3, off3, rfl, -, -, -⟩ := HC.out.get (by omega)
            have e0 := HC.out.cellAt rfl HB.out (i := t) (j := 0) hlt (by omega)
            have e1 : wr.cell? ⟨b3, off3 + t * 5 + 1, none⟩ = some (.int .i64 (ix cl t).r) := HC.out.cellAt rfl HB.out (i := t) (j := 1) hlt (by omega)
            have e2 : wr.cell? ⟨b3, off3 + t * 5 + 2, none⟩ = some (.bool (ix cl t).a.n) := HC.out.cellAt rfl HB.out (i := t) (j := 2) hlt (by omega)
            have e3 : wr.cell? ⟨b3, off3 + t * 5 + 3, none⟩ = some (.string (ix cl t).a.s) := HC.out.cellAt rfl HB.out (i := t) (j := 3) hlt (by omega)
            have e4 : wr.cell? ⟨b3, off3 + t * 5 + 4, none⟩ = some (.string (ix cl t).a.d) := HC.out.cellAt rfl HB.out (i := t) (j := 4) hlt (by omega)
            rw [Nat.add_zero] at e0
            have e0' : wr.cell? ⟨b3, off3 + t * 5, none⟩ = some (.int .i64 (ix cl t).h) := e0
            have HN := Lib.hid (fun h => all_next (p := fun i => (ix cl i).a.fits 24) hst.out h)
            have ht1 : (0 : Int) ≤ (t : Int) := by omega
            have ht2 : (t : Int) < (nc : Int) := by omega
            have fr := HFC.out t hlt
            clear e0 hst HFC HFIN HS HQ HA0 HFA HLT HLP
            generalize ix cl t = P at *
            obtain ⟨h, r, a⟩ := P
            simp only at e0' e1 e2 e3 e4 HN fr
            have HW := Lib.hid (fun w => few_r3 a w fr)
            have HSB := Lib.hid (fun h => smallB_fits (r := a) h)
            generalize smallB a = sb at *
            generalize a.n = an at *
            generalize a.s = as' at *
            generalize a.d = ad at *
            obtain ⟨z0, z1, z2, z3, z4⟩ := (J0.out.alloc (.cells #[.int .i64 h, .int .i64 r, .bool an, .string as', .string ad] 56)).c5
            go_wp2_with fail
            refine (HW.out _).mono ?_; rintro x w3 ⟨rfl, hb3⟩
            obtain ⟨K2, hbw⟩ := boxes1 hb3
            have J0 := Lib.hid (J0.out.on hbw)
            have HB := Lib.hid (chain HB.out hbw (Nat.le_refl _))
            clear hb3 hbw z0 z1 z2 z3 z4 e0' e1 e2 e3 e4 K2
            cases sb
            · go_wp2
              go_ret
              exact RetB.no HB.out
            · have HX := Lib.hid (HN.out (HSB.out rfl))
              go_wp2
              go_roundw
              case rel => exact ⟨t + 1, by go_num, by omega, J0.out, HB.out, HX.out⟩
              case measure => simp [intOf]; omega
          · obtain rfl : t = nc := by omega
            have hnl : decide ((t : Int) < (t : Int)) = false := by simp
            have HFIN := Lib.hid (HFIN.out hst.out)
            clear hst HFC HC
            go_wp2_with fail
            go_loopw [42] (fun i wr' => ∃ q : Nat, i = .int .i64 q ∧ q ≤ na ∧ Blk wr' w.heap.size #[.bool mn, .string ms, .string md, .slice a1 t c1, .slice aa na ca] ∧ Below w.heap.size w wr' ∧ Hid (∀ i, i < q → AgrOk (ix al i))) (fun i _ => na - (intOf i).toNat)
            case atStart => exact ⟨0, rfl, by omega, J0.out, HB.out, fun i hi => by omega⟩
            clear k3 k4 hz J0 HB
            case round =>
              obtain ⟨q, rfl, hq, K0, hbq, hsq⟩ := hrel
              have J0 := Lib.hid K0
              have HB := Lib.hid hbq
              have hz := hbq.size
              by_cases hlq : q < na
              · obtain ⟨b2, off2, rfl, -, -, -⟩ := HS.out.get (by omega)
                obtain ⟨v2, hG3, hR3⟩ := HQ.out q hlq
                have HT := Lib.hid hR3
                obtain ⟨G3, hS3, hQ3⟩ := hR3
                obtain ⟨a3, cap3, rfl, -, -⟩ := hS3.form
                have d0 := HS.out.cellAt rfl hbq (i := q) (j := 0) hlq (by omega)
                rw [hG3, Nat.mul_one, Nat.add_zero] at d0
                have d1 : wr.cell? ⟨b2, off2 + q, none⟩ = some (.slice a3 (ix al q).length cap3) := d0
                have l2 := HLT.out q hlq
                have HP := Lib.hid (HLP.out q · hlq)
                have HFQ := Lib.hid (HFA.out q · · hlq)
                have i1 : (0 : Int) ≤ (q : Int) := by omega
                have i2 : (q : Int) < (na : Int) := by omega
                have HN := Lib.hid (fun h => all_next (p := fun i => AgrOk (ix al i)) hsq.out h)
                have HOK := Lib.hid (fun h1 h2 => (⟨h1, h2⟩ : AgrOk (ix al q)))
                have HN := Lib.hid (fun h1 h2 => HN.out (HOK.out h1 h2))
                have HS3 := Lib.hid hS3
                have HQ3 := Lib.hid hQ3
                clear d0 hS3 hQ3 hG3 hsq HOK hbq K0 HLT HLP HFA HFIN HT
                generalize ix al q = aq at *
                generalize hn2 : aq.length = n2 at *
                by_cases h30 : 30 < n2
                · have f30 : decide (30 < n2) = true := decide_eq_true h30
                  have f30' : decide ((30 : Int) < (n2 : Int)) = true := by simp; omega
                  go_wp2
                  go_ret
                  exact RetB.no (HB.out.alloc (by omega) _)
                · have f30 : decide (30 < n2) = false := decide_eq_false h30
                  have f30' : decide ((30 : Int) < (n2 : Int)) = false := by simp; omega
                  have HN := Lib.hid (HN.out (by omega))
                  go_wp2_with fail
                  go_loopw [53] (fun i wr' => ∃ j : Nat, i = .int .i64 j ∧ j ≤ n2 ∧ Blk wr' w.heap.size #[.bool mn, .string ms, .string md, .slice a1 t c1, .slice (some ⟨b2, off2, none⟩) na ca] ∧ Below w.heap.size w wr' ∧ Hid (∀ i, i < j → TierOk (ix aq i))) (fun i _ => n2 - (intOf i).toNat)
                  case atStart => exact ⟨0, rfl, by omega, J0.out.alloc _, HB.out.alloc (by omega) _, fun i hi => by omega⟩
                  clear d1 hz J0 HB
                  case round =>
                    obtain ⟨j, rfl, hj, K0, hbj, hsj⟩ := hrel
                    have J0 := Lib.hid K0
                    have HB := Lib.hid hbj
                    have hz := hbj.size
                    by_cases hlj : j < n2
                    · obtain ⟨b4, off4, rfl, -, -, -⟩ := HS3.out.get (by omega)
                      obtain ⟨v4, hG4, hR4⟩ := HQ3.out j hlj
                      have HPS := Lib.hid hR4.plain
                      obtain ⟨a5, cap5, rfl, -, -⟩ := hR4.plain.form
                      have d0 := HS3.out.cellAt rfl hbj (i := j) (j := 0) hlj (by omega)
                      rw [hG4, Nat.mul_one, Nat.add_zero] at d0
                      have d1 : wr.cell? ⟨b4, off4 + j, none⟩ = some (.slice a5 (ix aq j).length cap5) := d0
                      have l4 := HP.out j hlj
                      have HFJ := Lib.hid (HFQ.out j · hlj)
                      have i1 : (0 : Int) ≤ (j : Int) := by omega
                      have i2 : (j : Int) < (n2 : Int) := by omega
                      have HNJ := Lib.hid (fun h => all_next (p := fun i => TierOk (ix aq i)) hsj.out h)
                      have HOK := Lib.hid (fun h1 h2 => (⟨h1, h2⟩ : TierOk (ix aq j)))
                      have HNJ := Lib.hid (fun h1 h2 => HNJ.out (HOK.out h1 h2))
                      clear d0 hR4 hG4 hsj HOK hbj K0 HP HFQ HN
                      generalize ix aq j = aj at *
                      generalize hn5 : aj.length = n5 at *
                      by_cases h30 : 30 < n5
                      · have f30 : decide (30 < n5) = true := decide_eq_true h30
                        have f30' : decide ((30 : Int) < (n5 : Int)) = true := by simp; omega
                        go_wp2
                        go_ret
                        exact RetB.no HB.out
                      · have f30 : decide (30 < n5) = false := decide_eq_false h30
                        have f30' : decide ((30 : Int) < (n5 : Int)) = false := by simp; omega
                        have HNJ := Lib.hid (HNJ.out (by omega))
                        go_wp2_with fail
                        go_loopw [62] (fun i wr' => ∃ l : Nat, i = .int .i64 l ∧ l ≤ n5 ∧ Blk wr' w.heap.size #[.bool mn, .string ms, .string md, .slice a1 t c1, .slice (some ⟨b2, off2, none⟩) na ca] ∧ Below w.heap.size w wr' ∧ Hid (∀ i, i < l → (ix aj i).a.fits 24)) (fun i _ => n5 - (intOf i).toNat)
                        case atStart => exact ⟨0, rfl, by omega, J0.out, HB.out, fun i hi => by omega⟩
                        clear d1 hz J0 HB
                        case round =>
                          obtain ⟨l, rfl, hl, K0, hbl, hsl⟩ := hrel
                          have J0 := Lib.hid K0
                          have HB := Lib.hid hbl
                          have hz := hbl.size
                          clear K0 hbl
                          by_cases hll : l < n5
                          · obtain ⟨b3, off3, rfl, -, -, -⟩ := HPS.out.get (by omega)
                            have e0 := HPS.out.cellAt rfl HB.out (i := l) (j := 0) hll (by omega)
                            have e1 : wr.cell? ⟨b3, off3 + l * 5 + 1, none⟩ = some (Value.bool (ix aj l).b) := HPS.out.cellAt rfl HB.out (i := l) (j := 1) hll (by omega)
                            have e2 : wr.cell? ⟨b3, off3 + l * 5 + 2, none⟩ = some (Value.bool (ix aj l).a.n) := HPS.out.cellAt rfl HB.out (i := l) (j := 2) hll (by omega)
                            have e3 : wr.cell? ⟨b3, off3 + l * 5 + 3, none⟩ = some (Value.string (ix aj l).a.s) := HPS.out.cellAt rfl HB.out (i := l) (j := 3) hll (by omega)
                            have e4 : wr.cell? ⟨b3, off3 + l * 5 + 4, none⟩ = some (Value.string (ix aj l).a.d) := HPS.out.cellAt rfl HB.out (i := l) (j := 4) hll (by omega)
                            rw [Nat.add_zero] at e0
                            have e0' : wr.cell? ⟨b3, off3 + l * 5, none⟩ = some (Value.int .i64 (ix aj l).k) := e0
                            have HN := Lib.hid (fun h => all_next (p := fun i => (ix aj i).a.fits 24) hsl.out h)
                            have ht1 : (0 : Int) ≤ (l : Int) := by omega
                            have ht2 : (l : Int) < (n5 : Int) := by omega
                            have fr := HFJ.out l hll
                            clear e0 hsl HFJ HNJ HS HQ HS3 HQ3
                            generalize ix aj l = P at *
                            obtain ⟨x, pb, a⟩ := P
                            simp only at e0' e1 e2 e3 e4 HN fr
                            have HW := Lib.hid (fun w => few_r3 a w fr)
                            have HSB := Lib.hid (fun h => smallB_fits (r := a) h)
                            generalize smallB a = sb at *
                            generalize a.n = an at *
                            generalize a.s = as' at *
                            generalize a.d = ad at *
                            obtain ⟨z0, z1, z2, z3, z4⟩ := (J0.out.alloc (.cells #[.int .i64 x, .bool pb, .bool an, .string as', .string ad] 82)).c5
                            go_wp2_with fail
                            refine (HW.out _).mono ?_; rintro y w3 ⟨rfl, hb3⟩
                            obtain ⟨K2, hbw⟩ := boxes1 hb3
                            have J0 := Lib.hid (J0.out.on hbw)
                            have HB := Lib.hid (chain HB.out hbw (Nat.le_refl _))
                            clear hb3 hbw z0 z1 z2 z3 z4 e0' e1 e2 e3 e4 K2
                            cases sb
                            · go_wp2
                              go_ret
                              exact RetB.no HB.out
                            · have HX := Lib.hid (HN.out (HSB.out rfl))
                              go_wp2
                              go_roundw
                              case rel => exact ⟨l + 1, by go_num, by omega, J0.out, HB.out, HX.out⟩
                              case measure => simp [intOf]; omega
                          · obtain rfl : l = n5 := by omega
                            have HX := Lib.hid (HNJ.out hsl.out)
                            have hnl : decide ((l : Int) < (l : Int)) = false := by simp
                            go_wp2
                            go_roundw
                            case rel => exact ⟨j + 1, by go_num, by omega, J0.out, HB.out, HX.out⟩
                            case measure => simp [intOf]; omega
                    · obtain rfl : j = n2 := by omega
                      have HX := Lib.hid (HN.out hsj.out)
                      have hnl : decide ((j : Int) < (j : Int)) = false := by simp
                      clear hbj K0
                      go_wp2
                      go_roundw
                      case rel => exact ⟨q + 1, by go_num, by omega, J0.out, HB.out, HX.out⟩
                      case measure => simp [intOf]; omega
              · obtain rfl : q = na := by omega
                have HX := Lib.hid (HFIN.out hsq.out)
                have hnl : decide ((q : Int) < (q : Int)) = false := by simp
                clear hbq K0
                go_wp2
                go_ret
                exact RetB.yes HX.out HB.out
end Go.Proofs.Ins

set_option linter.unusedSimpArgs false
set_option linter.unusedVariables false
namespace Go.Proofs.Ins
open Go.RowKit

def DbtOk (d : Dbt) : Prop := d.l.length ≤ 12 ∧ d.w.fits 24
/-- Short enough for a law. -/
structure Few18 (g : Grp) : Prop where
  le : g.e.length ≤ 4
  ld : g.d.length ≤ 5
  e : ∀ i, i < g.e.length → Few17 (ix g.e i)
  d : ∀ i, i < g.d.length → DbtOk (ix g.d i)
theorem fits_mono {r : R3} {k m : Nat} (h : r.fits k) (hk : k ≤ m) : r.fits m := ⟨by have := h.1; omega, by have := h.2; omega⟩
theorem Few17.small {e : Est} {k : Nat} (h : Few17 e) (hk : 24 ≤ k) : SmallE k e where
  m := fits_mono h.m hk
  c := fun i hi => fits_mono (h.c i hi) hk
  a := fun i j l hi hj hl => fits_mono (((h.a i hi).2 j hj).2 l hl) hk
  lc := by have := h.lc; omega
  la := by have := h.la; omega
  lt := fun i hi => by have := (h.a i hi).1; omega
  lp := fun i j hi hj => by have := ((h.a i hi).2 j hj).1; omega
theorem Few18.small {g : Grp} {k : Nat} (h : Few18 g) (hk : 24 ≤ k) : SmallG k g where
  e := fun i hi => (h.e i hi).small hk
  w := fun i hi => fits_mono (h.d i hi).2 hk
  le := by have := h.le; omega
  ld := by have := h.ld; omega
  ll := fun i hi => by have := (h.d i hi).1; omega

set_option maxRecDepth 100000 in
set_option maxHeartbeats 6400000 in
theorem few18_any (p : Nat → Prop) (g : Grp) (v : Value) (w : World) (hG : RGrp w p v g) (hs : SmallG 140737488351232 g) :
    Calls Tryz.prog 5 #[v] w (RetB w (Few18 g)) := by
  obtain ⟨ev, dv, rfl, hE, hD⟩ := hG
  have HCE := Lib.hid (fun i (hi : i < g.e.length) cv av w (h1 : RClaims w p cv (ix g.e i).c) (h2 : RAgrs w p av (ix g.e i).a) => (show Calls Tryz.prog 15 #[.agg #[.bool (ix g.e i).m.n, .string (ix g.e i).m.s, .string (ix g.e i).m.d, cv, av]] w (RetB w (Few17 (ix g.e i))) from few17_any p (ix g.e i) cv av w h1 h2 (hs.e i hi)))
  have HW := Lib.hid (fun i (hi : i < g.d.length) w => few_r3 (ix g.d i).w w (hs.w i hi))
  have HLL := Lib.hid hs.ll
  have HSB := Lib.hid (fun i h => smallB_fits (r := (ix g.d i).w) h)
  have le := hs.le
  have ld := hs.ld
  obtain ⟨GE, hSE, hQE⟩ := hE
  obtain ⟨ae, cape, rfl, -, -⟩ := hSE.form
  obtain ⟨GD, hSD, hQD⟩ := hD
  obtain ⟨ad, capd, rfl, -, -⟩ := hSD.form
  have HSE := Lib.hid hSE
  have HQE := Lib.hid hQE
  have HSD := Lib.hid hSD
  have HQD := Lib.hid hQD
  have HFIN := Lib.hid (fun h1 h2 h3 h4 => Few18.mk (g := g) h1 h2 h3 h4)
  have HDN := Lib.hid (fun d h1 h2 => (show DbtOk (ix g.d d) from ⟨h1, h2⟩))
  clear hs hSE hQE hSD hQD
  generalize hF : Few18 g = F at *
  clear hF
  generalize hfe : (fun i => Few17 (ix g.e i)) = FE at *
  have hfe' : ∀ i, Few17 (ix g.e i) = FE i := fun i => by rw [← hfe]
  generalize hfd : (fun i => DbtOk (ix g.d i)) = FD at *
  have hfd' : ∀ i, DbtOk (ix g.d i) = FD i := fun i => by rw [← hfd]
  simp only [hfe', hfd'] at HCE HFIN HDN
  clear hfe hfe' hfd hfd'
  generalize hne : g.e.length = ne at *
  generalize hnd : g.d.length = nd at *
  by_cases g1 : 4 < ne
  · have c1 : decide (4 < ne) = true := decide_eq_true g1
    have c1' : decide ((4 : Int) < (ne : Int)) = true := by simp; omega
    clear HFIN
    go_enter Tryz.func5, Tryz.ntmps5
    go_wp2
    go_ret
    exact RetB.no ((Below.refl _ _).alloc (Nat.le_refl _) _)
  · have c1 : decide (4 < ne) = false := decide_eq_false g1
    have c1' : decide ((4 : Int) < (ne : Int)) = false := by simp; omega
    by_cases g2 : 5 < nd
    · have c2 : decide (5 < nd) = true := decide_eq_true g2
      have c2' : decide ((5 : Int) < (nd : Int)) = true := by simp; omega
      clear HFIN
      go_enter Tryz.func5, Tryz.ntmps5
      go_wp2
      go_ret
      exact RetB.no ((Below.refl _ _).alloc (Nat.le_refl _) _)
    · have c2 : decide (5 < nd) = false := decide_eq_false g2
      have c2' : decide ((5 : Int) < (nd : Int)) = false := by simp; omega
      have HFIN := Lib.hid (HFIN.out (by omega) (by omega))
      go_enter Tryz.func5, Tryz.ntmps5
      go_wp2_with fail
      refine wp_forget (fun W => Blk W w.heap.size #[.slice ae ne cape, .slice ad nd capd] ∧ Below w.heap.size w W) ⟨Blk.new _ _ _, (Below.refl _ _).alloc (Nat.le_refl _) _⟩ ?_
      rintro W ⟨hb0, hbel⟩
      have J := Lib.hid hb0
      have HB := Lib.hid hbel
      clear hbel hb0
      go_loopw [20] (fun i wr => ∃ k : Nat, i = .int .i64 k ∧ k ≤ ne ∧ Blk wr w.heap.size #[.slice ae ne cape, .slice ad nd capd] ∧ Below w.heap.size w wr ∧ Hid (∀ i, i < k → FE i)) (fun i _ => ne - (intOf i).toNat)
      case atStart => exact ⟨0, rfl, by omega, J.out, HB.out, fun i hi => by omega⟩
      clear J HB
      case round =>
        obtain ⟨k, rfl, hk, K0, hbk, hsk⟩ := hrel
        have J := Lib.hid K0
        have HB := Lib.hid hbk
        have hz := hbk.size
        have k0 : wr.cell? ⟨w.heap.size, 0, none⟩ = some (.slice ae ne cape) := K0.cell 0
        have k1 : wr.cell? ⟨w.heap.size, 1, none⟩ = some (.slice ad nd capd) := K0.cell 1
        clear K0 hbk
        by_cases hlt : k < ne
        · obtain ⟨be, offe, rfl, -, -, -⟩ := HSE.out.get (by omega)
          obtain ⟨cv, av, hge, hRC, hRA⟩ := HQE.out k hlt
          obtain ⟨ac, cc, rfl, -, -⟩ := hRC.plain.form
          obtain ⟨aa, ca, rfl, -⟩ := (show ∃ aa ca, av = .slice aa (ix g.e k).a.length ca ∧ True from by obtain ⟨G, hS, -⟩ := hRA; obtain ⟨x, y, h, -, -⟩ := hS.form; exact ⟨x, y, h, trivial⟩)
          have HD := Lib.hid (fun j (hj : j < 5) => HSE.out.cellAt rfl HB.out (i := k) (j := j) hlt hj)
          rw [hge] at HD
          have q0 := HD.out 0 (by omega)
          rw [Nat.add_zero] at q0
          have q0' : wr.cell? ⟨be, offe + k * 5, none⟩ = some (.bool (ix g.e k).m.n) := q0
          have q1 : wr.cell? ⟨be, offe + k * 5 + 1, none⟩ = some (.string (ix g.e k).m.s) := HD.out 1 (by omega)
          have q2 : wr.cell? ⟨be, offe + k * 5 + 2, none⟩ = some (.string (ix g.e k).m.d) := HD.out 2 (by omega)
          have q3 : wr.cell? ⟨be, offe + k * 5 + 3, none⟩ = some (.slice ac (ix g.e k).c.length cc) := HD.out 3 (by omega)
          have q4 : wr.cell? ⟨be, offe + k * 5 + 4, none⟩ = some (.slice aa (ix g.e k).a.length ca) := HD.out 4 (by omega)
          have HCK := Lib.hid (fun w' (h : Below w.heap.size w w') => HCE.out k hlt _ _ w' (hRC.on h) (hRA.on h))
          have HN := Lib.hid (fun h => all_next (p := fun i => FE i) hsk.out h)
          have i1 : (0 : Int) ≤ (k : Int) := by omega
          have i2 : (k : Int) < (ne : Int) := by omega
          clear hsk q0 HD hge hRC hRA HCE HFIN
          generalize FE k = Fk at *
          generalize (ix g.e k).m.n = mn at *
          generalize (ix g.e k).m.s = ms at *
          generalize (ix g.e k).m.d = md at *
          generalize (ix g.e k).c.length = ncl at *
          generalize (ix g.e k).a.length = nal at *
          go_wp2_with fail
          refine (HCK.out _ (HB.out.alloc (by omega) _)).mono ?_; rintro x w3 ⟨sb, rfl, hsb, hb3⟩
          obtain ⟨K2, hbw⟩ := boxes1 hb3
          have J := Lib.hid (J.out.on hbw)
          have HB := Lib.hid (chain HB.out hbw (Nat.le_refl _))
          have HSK := Lib.hid hsb
          clear hb3 hbw q0' q1 q2 q3 q4 K2 k0 k1 hsb
          cases sb
          · go_wp2
            go_ret
            exact RetB.no HB.out
          · have HX := Lib.hid (HN.out (HSK.out rfl))
            go_wp2
            go_roundw
            case rel => exact ⟨k + 1, by go_num, by omega, J.out, HB.out, HX.out⟩
            case measure => simp [intOf]; omega
        · obtain rfl : k = ne := by omega
          have hnl : decide ((k : Int) < (k : Int)) = false := by simp
          have HFIN := Lib.hid (HFIN.out hsk.out)
          clear hsk HCE
          go_wp2_with fail
          go_loopw [31] (fun i wr' => ∃ d : Nat, i = .int .i64 d ∧ d ≤ nd ∧ Blk wr' w.heap.size #[.slice ae k cape, .slice ad nd capd] ∧ Below w.heap.size w wr' ∧ Hid (∀ i, i < d → FD i)) (fun i _ => nd - (intOf i).toNat)
          case atStart => exact ⟨0, rfl, by omega, J.out, HB.out, fun i hi => by omega⟩
          clear J HB k0 k1 hz
          case round =>
            obtain ⟨d, rfl, hd, K0, hbd, hsd⟩ := hrel
            have J := Lib.hid K0
            have HB := Lib.hid hbd
            have hz := hbd.size
            clear K0 hbd
            by_cases hlt : d < nd
            · obtain ⟨bd, offd, rfl, -, -, -⟩ := HSD.out.get (by omega)
              obtain ⟨lv, hgd, hRL⟩ := HQD.out d hlt
              have HLF := Lib.hid (show ∃ a cap, lv = .slice a (ix g.d d).l.length cap from by obtain ⟨G, hS, -⟩ := hRL; obtain ⟨x, y, h, -, -⟩ := hS.form; exact ⟨x, y, h⟩)
              have HD := Lib.hid (fun j (hj : j < 4) => HSD.out.cellAt rfl HB.out (i := d) (j := j) hlt hj)
              rw [hgd] at HD
              have q0 := HD.out 0 (by omega)
              rw [Nat.add_zero] at q0
              have q0' : wr.cell? ⟨bd, offd + d * 4, none⟩ = some (.bool (ix g.d d).w.n) := q0
              have q1 : wr.cell? ⟨bd, offd + d * 4 + 1, none⟩ = some (.string (ix g.d d).w.s) := HD.out 1 (by omega)
              have q2 : wr.cell? ⟨bd, offd + d * 4 + 2, none⟩ = some (.string (ix g.d d).w.d) := HD.out 2 (by omega)
              have q3 : wr.cell? ⟨bd, offd + d * 4 + 3, none⟩ = some lv := HD.out 3 (by omega)
              have HWD := Lib.hid (HW.out d hlt)
              have HSD' := Lib.hid (HSB.out d)
              have HL := HLL.out d hlt
              have HN := Lib.hid (fun h => all_next (p := fun i => FD i) hsd.out h)
              have HND := Lib.hid (fun h1 h2 => HN.out (HDN.out d h1 h2))
              have i1 : (0 : Int) ≤ (d : Int) := by omega
              have i2 : (d : Int) < (nd : Int) := by omega
              obtain ⟨al, cl, rfl⟩ := HLF.out
              clear hsd q0 HD hgd hRL HFIN HN HW HSB HLL HDN HLF HSD HQD HSE HQE
              generalize (ix g.d d).l.length = nl at *
              generalize smallB (ix g.d d).w = sb at *
              generalize (ix g.d d).w = r at *
              generalize r.n = mn at *
              generalize r.s = ms at *
              generalize r.d = md at *
              by_cases h12 : 12 < nl
              · have f12 : decide (12 < nl) = true := decide_eq_true h12
                have f12' : decide ((12 : Int) < (nl : Int)) = true := by simp; omega
                go_wp2
                go_ret
                exact RetB.no (HB.out.alloc (by omega) _)
              · have f12 : decide (12 < nl) = false := decide_eq_false h12
                have f12' : decide ((12 : Int) < (nl : Int)) = false := by simp; omega
                have HND := Lib.hid (HND.out (by omega))
                go_wp2_with fail
                refine (HWD.out _).mono ?_; rintro x w3 ⟨rfl, hb3⟩
                obtain ⟨K2, hbw⟩ := boxes1 hb3
                have J := Lib.hid (J.out.on hbw)
                have HB := Lib.hid (chain HB.out hbw (Nat.le_refl _))
                clear hb3 hbw q0' q1 q2 q3 K2
                cases sb
                · go_wp2
                  go_ret
                  exact RetB.no HB.out
                · have HX := Lib.hid (HND.out (HSD'.out rfl))
                  go_wp2
                  go_roundw
                  case rel => exact ⟨d + 1, by go_num, by omega, J.out, HB.out, HX.out⟩
                  case measure => simp [intOf]; omega
            · obtain rfl : d = nd := by omega
              have hnl : decide ((d : Int) < (d : Int)) = false := by simp
              have HX := Lib.hid (HFIN.out hsd.out)
              go_wp2
              go_ret
              exact RetB.yes HX.out HB.out
end Go.Proofs.Ins
