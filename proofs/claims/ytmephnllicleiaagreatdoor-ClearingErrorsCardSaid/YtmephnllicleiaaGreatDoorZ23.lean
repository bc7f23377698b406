/- The walk of guarantee.checkDebt. -/
import Derived.Test.YtmephnllicleiaaGreatDoorZ3
import Derived.Test.YtmephnllicleiaaGreatDoorZ22
import Derived.Maps.OwnSet
import Derived.Maps.AppendAt
import Derived.DeepKeys4
import Derived.MapViews
import Derived.Maps.Views

set_option linter.unusedSimpArgs false
set_option linter.unusedVariables false
namespace Go.Proofs.Ins
open Go.RowKit

theorem laidOutM : laidOutB Tryz.prog = true := by kernel_rfl
theorem rowLeg : (67 : TypeId) < Tryz.prog.types.size := of_decide_eq_true (by kernel_rfl)
theorem wideLeg : (match Tryz.prog.underlying 67 with | some (.array _ _) | some (.struct _) => true | _ => false) = true := by kernel_rfl
set_option maxRecDepth 100000 in
theorem lawLeg : WideMaps.KeyLaw Tryz.prog 67 := deep_law_laid laidOutM (m := 3) (by omega) rowLeg (by kernel_rfl) wideLeg
theorem keyedLeg : Maps.Keyed Tryz.prog 67 := Maps.Keyed.of_law lawLeg
theorem keyOf_leg (a b : Int) (ha : (Lit.int .i64 a).wf = true) (hb : (Lit.int .i64 b).wf = true) : ∃ l, keyOf Tryz.prog 67 (.agg #[.int .i64 a, .int .i64 b]) = some l := by
  have h1 : Tryz.prog.keyType 67 = true := by kernel_rfl
  have h2 : (Value.agg #[.int .i64 a, .int .i64 b]).formed Tryz.prog 67 = true := by kernel_rfl
  have c118 : Tryz.prog.cellsOf 67 = 2 := by kernel_rfl
  have c3 : Tryz.prog.cellsOf 3 = 1 := by kernel_rfl
  have hpos : 0 < Tryz.prog.types.size := of_decide_eq_true (by kernel_rfl)
  obtain ⟨m, hm⟩ : ∃ m, Tryz.prog.types.size = m + 1 := ⟨Tryz.prog.types.size - 1, by omega⟩
  unfold keyOf
  rw [Tryz.underlying67]
  simp only [h1, h2, Value.cells, Bool.and_self, if_true, hm]
  simp [Program.keyLits, Tryz.underlying67, Tryz.underlying3, c118, c3, ha, hb]

def Lg.v (x : Lg) : Value := .agg #[.int .i64 x.e, .int .i64 x.k]
/-- Block b is a map that says of each leg whether it is in S. -/
def MSet (w : World) (b : Nat) (S : List Lg) : Prop :=
  ∃ n D, n ≤ S.length ∧ w.ownsMap (H := Unit) Tryz.prog 67 (plainElem Tryz.prog 4) b n D ∧ ∀ (x : Lg) (l : Lit), keyOf Tryz.prog 67 x.v = some l → D.atKey l (.lit (.bool false)) = .lit (.bool (hasLg S x))

theorem plainElem_bool_inv {P : Program} {e : TypeId} (he : P.underlying e = some .bool) {v : Value} {z : DataW Unit × List MemPlace} {b : Bool} (h : plainElem P e v = some z) (hz : z.1 = .lit (.bool b)) : v = .bool b := by
  unfold plainElem at h
  rw [he] at h
  cases v with
  | bool x =>
    have h2 := Option.some.inj h
    rw [← h2] at hz
    have h3 := Lit.bool.inj (DataW.lit.inj hz)
    rw [h3]
  | _ => cases h
theorem MSet.made (w : World) : MSet (w.alloc (.map #[] 0)) w.heap.size [] :=
  ⟨0, .map [], Nat.le_refl _, World.ownsMap_made _ _ _ _, fun x l _ => by simp [DataW.atKey, hasLg]⟩
theorem MSet.lt {w : World} {b : Nat} {S : List Lg} (h : MSet w b S) : b < w.heap.size := by obtain ⟨n, D, _, h, _⟩ := h; exact h.lt
theorem gb_of_below {w w' : World} {row : Option Nat} (h : Below w.heap.size w w') : w.grownBy w' row := ⟨h.os, h.tape, h.output, h.size, fun k hk _ => h.block k hk⟩
theorem MSet.kept {w w' : World} {b : Nat} {S : List Lg} {row : Option Nat} (h : MSet w b S) (hg : w.grownBy w' row) (hne : some b ≠ row) : MSet w' b S := by
  obtain ⟨n, D, h1, h2, h3⟩ := h
  exact ⟨n, D, h1, h2.kept hg hne, h3⟩
theorem MSet.on {w w' : World} {b : Nat} {S : List Lg} (h : MSet w b S) (hb : Below w.heap.size w w') : MSet w' b S := h.kept (row := none) (gb_of_below hb) (by simp)
theorem boolZero (w : World) : (zeroValue 4).run Tryz.prog w = .ok (.bool false) w := by kernel_rfl
/-- 'taken[l]'. -/
theorem MSet.look {w : World} {b : Nat} {S : List Lg} (h : MSet w b S) (x : Lg) (he : (Lit.int .i64 x.e).wf = true) (hk : (Lit.int .i64 x.k).wf = true) :
    (Instr.lookup 90 (.map (some b)) (.agg #[.int .i64 x.e, .int .i64 x.k]) false).run Tryz.prog w = .ok (.bool (hasLg S x)) w := by
  obtain ⟨n, D, h1, h2, h3⟩ := h
  obtain ⟨l, hl⟩ := keyOf_leg x.e x.k he hk
  obtain ⟨v, ps, hr, hv⟩ := h2.lookup keyedLeg Tryz.underlying90 (boolZero w) (plainElem_bool Tryz.underlying4 false) hl
  rw [hr, plainElem_bool_inv Tryz.underlying4 hv (h3 x l hl)]
theorem hasLg_snoc (S : List Lg) (x y : Lg) : hasLg (S ++ [x]) y = (hasLg S y || lgEq x y) := by
  unfold hasLg lgEq; rw [List.any_append]; simp
/-- 'taken[l] = true'. -/
theorem MSet.store {w : World} {b : Nat} {S : List Lg} (h : MSet w b S) (x : Lg) (he : (Lit.int .i64 x.e).wf = true) (hk : (Lit.int .i64 x.k).wf = true) (hS : S.length ≤ 1000000) :
    ∃ w', (Instr.mapUpdate 90 (.map (some b)) (.agg #[.int .i64 x.e, .int .i64 x.k]) (.bool true)).run Tryz.prog w = .ok () w' ∧ MSet w' b (S ++ [x]) ∧ w.grownBy w' (some b) := by
  obtain ⟨n, D, h1, h2, h3⟩ := h
  obtain ⟨l, hl⟩ := keyOf_leg x.e x.k he hk
  obtain ⟨w', hr, ho, hg⟩ := h2.update keyedLeg Tryz.underlying90 (by unfold maxLen; omega) hl (plainElem_bool Tryz.underlying4 true)
  refine ⟨w', hr, ⟨n + 1, _, by simp; omega, ho, fun y l' hl' => ?_⟩, hg⟩
  rw [hasLg_snoc]
  by_cases e : l' = l
  · subst e
    have e2 := keyedLeg.inj hl hl'
    have e3 : lgEq x y = true := by
      unfold Lg.v at e2
      simp at e2
      unfold lgEq; simp [e2]
    rw [e3, Bool.or_true, Maps.atKey_put_same h2.isMap (keyedLeg.key hl)]
  · rw [Maps.atKey_put_other e, h3 y l' hl']
    have e3 : lgEq x y = false := by
      cases e4 : lgEq x y
      · rfl
      · exfalso
        unfold lgEq at e4
        simp at e4
        have : x.v = y.v := by unfold Lg.v; rw [e4.1, e4.2]
        have h5 : keyOf Tryz.prog 67 x.v = some l := hl
        rw [this, hl'] at h5
        exact e (Option.some.inj h5)
    rw [e3, Bool.or_false]

set_option maxRecDepth 100000 in
set_option maxHeartbeats 3200000 in
theorem holder_any (p : Nat → Prop) (g : Grp) (i j : Nat) (v : Value) (w : World) (hG : RGrp w p v g) (hi : i < g.e.length) (hj : j < (ix g.e i).c.length) (le : g.e.length ≤ 140737488351232) (lc : (ix g.e i).c.length ≤ 140737488351232) :
    Calls Tryz.prog 74 #[v, .agg #[.int .i64 (i : Int), .int .i64 (j : Int)]] w fun e w' => e = .returned (.int .i64 (ix (ix g.e i).c j).h) ∧ Below w.heap.size w w' := by
  obtain ⟨ev, dv, rfl, hE, -⟩ := hG
  obtain ⟨G, hS, hQ⟩ := hE
  obtain ⟨aa, cap, rfl, -, -⟩ := hS.form
  obtain ⟨b, off, rfl, -, -, -⟩ := hS.get (by omega)
  obtain ⟨cv, av, hg, hC, -⟩ := hQ i hi
  obtain ⟨a2, cap2, rfl, -, -⟩ := hC.plain.form
  obtain ⟨b2, off2, rfl, -, -, -⟩ := hC.plain.get (by omega)
  have HE := Lib.hid (fun W (h : Below w.heap.size w W) => hS.cellAt rfl h (i := i) (j := 3) hi (by omega))
  have HC := Lib.hid (fun W (h : Below w.heap.size w W) k (hk : k < 5) => hC.plain.cellAt rfl h (i := j) (j := k) hj hk)
  rw [hg] at HE
  have i1 : (0 : Int) ≤ (i : Int) := by omega
  have i2 : (i : Int) < (g.e.length : Int) := by omega
  have j1 : (0 : Int) ≤ (j : Int) := by omega
  have j2 : (j : Int) < ((ix g.e i).c.length : Int) := by omega
  unfold C5.c at HC
  clear hS hQ hC hg
  generalize hn : g.e.length = n at *
  generalize hm : (ix g.e i).c.length = m at *
  generalize ix (ix g.e i).c j = P at *
  generalize P.h = x0 at *
  go_enter Tryz.func74, Tryz.ntmps74
  go_wp2_with fail
  refine wp_forget (fun W => Blk W w.heap.size #[.slice (some ⟨b, off, none⟩) n cap, dv] ∧ Blk W (w.heap.size + 1) #[.int .i64 (i : Int), .int .i64 (j : Int)] ∧ Below w.heap.size w W) (duo w _ _ _ _) ?_
  rintro W ⟨h0, h1, hbel⟩
  have k0 := cell_regrown (show W.cell? ⟨w.heap.size, 0, none⟩ = some (Value.slice (some ⟨b, off, none⟩) n cap) from h0.cell 0)
  have k1 := cell_regrown (show W.cell? ⟨w.heap.size + 1, 0, none⟩ = some (Value.int .i64 (i : Int)) from h1.cell 0)
  have k2 := cell_regrown (show W.cell? ⟨w.heap.size + 1, 1, none⟩ = some (Value.int .i64 (j : Int)) from h1.cell 1)
  have k3 := cell_regrown (show W.cell? ⟨b, off + i * 5 + 3, none⟩ = some (Value.slice (some ⟨b2, off2, none⟩) m cap2) from HE.out W hbel)
  have k4 := cell_regrown (show W.cell? ⟨b2, off2 + j * 5, none⟩ = some (Value.int .i64 x0) from HC.out W hbel 0 (by omega))
  have HB := Lib.hid hbel
  clear h0 h1 hbel HE HC
  refine wp_region_qb (by kernel_rfl) (by kernel_rfl) ?_
  repeat (first | go_big_quiet_skip | (refine wpQuiet_step (fun K hK => ?_); go_simp; (try simp (disch := omega) only [ar9]); (first | (refine hK _ ?_; clear hK K) | (apply Exists.intro; refine ⟨fun _ => ?_, hK _ ?_⟩; (fail); clear hK K))))
  clear k0 k1 k2 k3 k4
  refine wpQuiet_nil ?_
  intro W1 hb1
  have HB := Lib.hid (chain HB.out hb1 (Nat.le_refl _))
  clear hb1
  go_wp2
  go_ret
  exact ⟨rfl, HB.out⟩
end Go.Proofs.Ins

set_option linter.unusedSimpArgs false
set_option linter.unusedVariables false
namespace Go.Proofs.Ins
open Go.RowKit

theorem wf64 {a : Int} (h1 : -9223372036854775808 ≤ a) (h2 : a ≤ 9223372036854775807) : (Lit.int .i64 a).wf = true := by
  unfold Lit.wf
  rw [Bool.and_eq_true, decide_eq_true_eq, decide_eq_true_eq]
  exact ⟨h1, h2⟩
theorem legsB_succ {l : List Dbt} {d k : Nat} (hk : k < (ix l d).l.length) : legsB l d (k + 1) = legsB l d k ++ [ix (ix l d).l k] := by
  unfold legsB; rw [take_succ_ix hk, List.append_assoc]
theorem legsB_next {l : List Dbt} {d : Nat} (hd : d < l.length) : legsB l d (ix l d).l.length = legsB l (d + 1) 0 := by
  unfold legsB; rw [take_succ_ix hd, List.flatMap_append, List.take_length]; simp
theorem legsB_length (l : List Dbt) (d k : Nat) : (legsB l d k).length ≤ (legsB l d 0).length + k := by
  unfold legsB; simp; omega
theorem MSet.next {w : World} {b : Nat} {l : List Dbt} {d k : Nat} (h : MSet w b (legsB l d k)) (hk : k < (ix l d).l.length) (he : (Lit.int .i64 (ix (ix l d).l k).e).wf = true) (hk' : (Lit.int .i64 (ix (ix l d).l k).k).wf = true) (hS : (legsB l d k).length ≤ 1000000) :
    ∃ w', (Instr.mapUpdate 90 (.map (some b)) (.agg #[.int .i64 (ix (ix l d).l k).e, .int .i64 (ix (ix l d).l k).k]) (.bool true)).run Tryz.prog w = .ok () w' ∧ MSet w' b (legsB l d (k + 1)) ∧ w.grownBy w' (some b) := by
  rw [legsB_succ hk]; exact h.store _ he hk' hS
theorem gb_keeps {p : Nat → Prop} {w w' : World} {b : Nat} (h : w.grownBy w' (some b)) (hp : ∀ x, p x → x ≠ b) : Keeps p w w' := ⟨fun x hx hl => h.block x hl (by intro e; exact hp x hx (Option.some.inj e))⟩

set_option maxRecDepth 100000 in
set_option maxHeartbeats 6400000 in
theorem checkdebt_any (p : Nat → Prop) (g : Grp) (d : Nat) (v lv : Value) (b : Nat) (w : World) (hG : RGrp w p v g) (hL : RLegs w p lv (ix g.d d).l) (hd : d < g.d.length) (hs : SmallG 134217728 g) (hp : ∀ x, p x → x ≠ b) (hM : MSet w b (legsB g.d d 0)) (hn : (legsB g.d d 0).length ≤ 900000) :
    Calls Tryz.prog 37 #[v, .agg #[.bool (ix g.d d).w.n, .string (ix g.d d).w.s, .string (ix g.d d).w.d, lv], .map (some b)] w fun e w' => e = .returned (.int .i64 (chkD g d)) ∧ w.grownBy w' (some b) ∧ (chkD g d = 0 → MSet w' b (legsB g.d (d + 1) 0)) := by
  have HGR := Lib.hid hG
  have HMS := Lib.hid hM
  have HP := Lib.hid hp
  obtain ⟨ev, dv, rfl, hE, -⟩ := hG
  have HHOLD := Lib.hid (fun i j w (h : RGrp w p (.agg #[ev, dv]) g) hi hj => holder_any p g i j (.agg #[ev, dv]) w h hi hj hs.le (hs.e i hi).lc)
  have HSG := Lib.hid (fun w => sign_r3 (ix g.d d).w w ⟨by have := (hs.w d hd).1; omega, by have := (hs.w d hd).2; omega⟩)
  have hlc := fun i hi => (hs.e i hi).lc
  have HLC9 := Lib.hid hlc
  have hll := hs.ll d hd
  have hle := hs.le
  have hbz := hM.lt
  obtain ⟨GE, hSE, hQE⟩ := hE
  obtain ⟨ae, cape, rfl, -, -⟩ := hSE.form
  obtain ⟨al, capl, rfl, -, -⟩ := hL.plain.form
  have HSE := Lib.hid hSE
  have HQE := Lib.hid (fun i hi => by
    obtain ⟨cv, av, hg, hC, -⟩ := hQE i hi
    obtain ⟨a2, cap2, e, -, -⟩ := hC.plain.form
    exact (⟨a2, cap2, av, by rw [hg, e]⟩ : ∃ a2 cap2 av, GE i = [.bool (ix g.e i).m.n, .string (ix g.e i).m.s, .string (ix g.e i).m.d, .slice a2 (ix g.e i).c.length cap2, av]))
  have HL := Lib.hid hL.plain
  have E1 := Lib.hid (fun h => chkD_1 (g := g) (d := d) h)
  have E2 := Lib.hid (fun h h2 => chkD_2 (g := g) (d := d) h h2)
  have E3 := Lib.hid (fun k h h2 h3 h4 h5 => chkD_3 (g := g) (d := d) (k := k) h h2 h3 h4 h5)
  have E4 := Lib.hid (fun h h2 h3 => chkD_4 (g := g) (d := d) h h2 h3)
  have L1 := Lib.hid (fun k h => chkL_1 (g := g) (d := d) (k := k) h)
  have L2 := Lib.hid (fun k h h2 => chkL_2 (g := g) (d := d) (k := k) h h2)
  have L3 := Lib.hid (fun k h h2 h3 => chkL_3 (g := g) (d := d) (k := k) h h2 h3)
  have L4 := Lib.hid (fun k h h2 h3 => chkL_4 (g := g) (d := d) (k := k) h h2 h3)
  have LR := Lib.hid (fun k h => chkL_range (g := g) (d := d) (k := k) h)
  have HNX := Lib.hid (fun k W (h : MSet W b (legsB g.d d k)) hk he hk' hS => h.next (l := g.d) (d := d) (k := k) hk he hk' hS)
  have HLE := Lib.hid (legsB_next hd)
  have HLL := Lib.hid (fun k => Nat.le_trans (legsB_length g.d d k) (Nat.add_le_add_right hn k))
  clear hs hSE hQE hL hlc hp hM hn hd
  generalize chkD g d = R at *
  generalize hcl : (fun k => chkL g d k) = CL at *
  have hcl' : ∀ k, chkL g d k = CL k := fun k => by rw [← hcl]
  simp only [hcl'] at E3 E4 L1 L2 L3 L4 LR
  generalize hW : (ix g.d d).w = Wh at *
  generalize hle' : (ix g.d d).l = legs at *
  clear hcl hcl' hW hle'
  generalize hSf : (fun k => legsB g.d d k) = SF at *
  have hSf' : ∀ k, legsB g.d d k = SF k := fun k => by rw [← hSf]
  simp only [hSf'] at L2 L3 L4 HNX HLE HLL HMS
  generalize legsB g.d (d + 1) 0 = SN at *
  clear hSf hSf'
  generalize sg Wh.q = sw at *
  generalize Wh.n = wn at *
  generalize Wh.s = ws at *
  generalize Wh.d = wd at *
  generalize hnl : legs.length = nl at *
  generalize hne : g.e.length = ne at *
  by_cases g1 : 8 < nl
  · have HR := Lib.hid (E1.out g1)
    have c1 : decide (8 < nl) = true := decide_eq_true g1
    have c1' : decide ((8 : Int) < (nl : Int)) = true := by simp; omega
    clear E1 E2 E3 E4 L1 L2 L3 L4 LR
    go_enter Tryz.func37, Tryz.ntmps37
    go_wp2
    go_ret
    exact ⟨ret_int HR.out.symm, gb_of_below (((Below.refl _ _).alloc (Nat.le_refl _) _).alloc (by simp) _), fun h => absurd (HR.out.symm.trans h) (by decide)⟩
  · have c1 : decide (8 < nl) = false := decide_eq_false g1
    have c1' : decide ((8 : Int) < (nl : Int)) = false := by simp; omega
    have E2 := Lib.hid (E2.out g1)
    have E3 := Lib.hid (fun k => E3.out k g1)
    have E4 := Lib.hid (E4.out g1)
    clear E1
    go_enter Tryz.func37, Tryz.ntmps37
    go_wp2_with fail
    refine (HSG.out _).mono ?_; rintro x w1 ⟨rfl, hb1⟩
    obtain ⟨J0, J1, HB⟩ := boxes2 hb1
    have q3 : w1.cell? ⟨w.heap.size + 1, 3, none⟩ = some (.slice al nl capl) := J1.cell 3
    have J0 := Lib.hid J0
    have J1 := Lib.hid J1
    have HB := Lib.hid HB
    clear hb1
    by_cases g2 : sw < 0
    · have c2 : decide (sw < 0) = true := decide_eq_true g2
      have HR := Lib.hid (E2.out g2)
      clear E2 E3 E4 L1 L2 L3 L4 LR
      go_wp2
      go_ret
      exact ⟨ret_int HR.out.symm, gb_of_below HB.out, fun h => absurd (HR.out.symm.trans h) (by decide)⟩
    · have c2 : decide (sw < 0) = false := decide_eq_false g2
      have E3 := Lib.hid (fun k => E3.out k (by omega))
      have E4 := Lib.hid (E4.out (by omega))
      clear E2
      go_wp2_with fail
      clear q3
      go_loopw [22] (fun i wr => ∃ k : Nat, i = .int .i64 k ∧ k ≤ nl ∧ Blk wr w.heap.size #[.slice ae ne cape, dv] ∧ Blk wr (w.heap.size + 1) #[.bool wn, .string ws, .string wd, .slice al nl capl] ∧ w.grownBy wr (some b) ∧ Hid (MSet wr b (SF k)) ∧ Hid (∀ i, i < k → CL i = 0)) (fun i _ => nl - (intOf i).toNat)
      case atStart => exact ⟨0, rfl, by omega, J0.out, J1.out, gb_of_below HB.out, HMS.out.on HB.out, fun i hi => by omega⟩
      case round =>
        obtain ⟨k, rfl, hk, K0, K1, hgb, hms, hsk⟩ := hrel
        have HK := Lib.hid (gb_keeps hgb HP.out)
        have HSE := Lib.hid (HSE.out.keep HK.out.block)
        have HL := Lib.hid (HL.out.keep HK.out.block)
        have HGR := Lib.hid (HGR.out.keep HK.out fun _ h => h)
        have hzr : w.heap.size + 1 < wr.heap.size := K1.lt
        have J0 := Lib.hid K0
        have J1 := Lib.hid K1
        have HGB := Lib.hid hgb
        have HB : Hid (Below wr.heap.size wr wr) := Lib.hid (Below.refl _ _)
        clear K0 K1 hgb HK HP
        by_cases hlt : k < nl
        · obtain ⟨bl, offl, rfl, -, -, -⟩ := HL.out.get (by omega)
          have HLC := Lib.hid (fun W (h : Below wr.heap.size wr W) => HL.out.cellAt rfl h (i := k) (j := 0) hlt (by omega))
          have HLK := Lib.hid (fun W (h : Below wr.heap.size wr W) => HL.out.cellAt rfl h (i := k) (j := 1) hlt (by omega))
          have HY1 := Lib.hid (fun W (h : Below wr.heap.size wr W) => HL.out.cellAt rfl h (i := 0) (j := 0) (by omega) (by omega))
          have HY2 := Lib.hid (fun W (h : Below wr.heap.size wr W) => HL.out.cellAt rfl h (i := 0) (j := 1) (by omega) (by omega))
          rw [Nat.add_zero] at HLC
          simp only [Nat.zero_mul, Nat.add_zero] at HY1 HY2
          have hy0 : ∀ (h : ¬ ((ix legs k).e < 0 ∨ (ne : Int) ≤ (ix legs k).e ∨ (ix legs k).k < 0 ∨ ((ix g.e (ix legs k).e.toNat).c.length : Int) ≤ (ix legs k).k)), ¬ ((ix legs 0).e < 0 ∨ (ne : Int) ≤ (ix legs 0).e ∨ (ix legs 0).k < 0 ∨ ((ix g.e (ix legs 0).e.toNat).c.length : Int) ≤ (ix legs 0).k) := fun h => by
            by_cases e : k = 0
            · rw [e] at h; exact h
            · exact LR.out 0 (hsk.out 0 (by omega))
          have HY0 := Lib.hid hy0
          have HH := Lib.hid (E3.out k hlt hsk.out)
          have HN := Lib.hid (fun h => all_next (p := fun i => CL i = 0) hsk.out h)
          have HLKF := Lib.hid (fun W (h : MSet W b (SF k)) he hk => h.look (ix legs k) he hk)
          have HNX := Lib.hid (fun W (h : MSet W b (SF k)) he hk' => HNX.out k W h hlt he hk' (by have := HLL.out k; omega))
          have i1 : (0 : Int) ≤ (k : Int) := by omega
          have i2 : (k : Int) < (nl : Int) := by omega
          have L1 := Lib.hid (L1.out k)
          have L2 := Lib.hid (L2.out k)
          have L3 := Lib.hid (L3.out k)
          have L4 := Lib.hid (L4.out k)
          have HMS := Lib.hid hms.out
          clear hsk LR E3 E4 hy0 hms HLL
          generalize CL k = cl at *
          generalize hasLg (SF k) (ix legs k) = hb at *
          generalize ix legs k = X at *
          generalize ix legs 0 = Y at *
          obtain ⟨xe, xk⟩ := X
          obtain ⟨ye, yk⟩ := Y
          simp only [Lg.c] at HLC HLK HY1 HY2 HY0 L1 L2 L3 L4 HLKF HNX
          have F1 := Lib.hid (fun h => (HH.out (by rw [L1.out h]; omega)).trans (L1.out h))
          have F2 := Lib.hid (fun h h2 => (HH.out (by rw [L2.out h h2]; omega)).trans (L2.out h h2))
          have F3 := Lib.hid (fun h h2 h3 => (HH.out (by rw [L3.out h h2 h3]; omega)).trans (L3.out h h2 h3))
          have F4 := Lib.hid (fun h h2 h3 => HN.out (L4.out h h2 h3))
          clear HH HN L1 L2 L3 L4
          have l2 : wr.cell? ⟨bl, offl + k * 2, none⟩ = some (Value.int .i64 xe) := HLC.out wr HB.out
          have l3 : wr.cell? ⟨bl, offl + k * 2 + 1, none⟩ = some (Value.int .i64 xk) := HLK.out wr HB.out
          go_wp2_with fail
          refine wp_forget (fun W => Blk W w.heap.size #[.slice ae ne cape, dv] ∧ Blk W (w.heap.size + 1) #[.bool wn, .string ws, .string wd, .slice (some ⟨bl, offl, none⟩) nl capl] ∧ Blk W wr.heap.size #[.int .i64 xe, .int .i64 xk] ∧ Below wr.heap.size wr W) ⟨J0.out.alloc _, J1.out.alloc _, Blk.new wr _ _, (Below.refl _ _).alloc (Nat.le_refl _) _⟩ ?_
          rintro W0 ⟨h0, h1, h2, hb0⟩
          have J0 := Lib.hid h0
          have J1 := Lib.hid h1
          have J2 := Lib.hid h2
          have HB := Lib.hid hb0
          clear l2 l3 h0 h1 h2 hb0
          by_cases g1 : xe < 0
          · have dg1 : decide (xe < 0) = true := decide_eq_true g1
            have HR := Lib.hid (F1.out (.inl g1))
            clear F1 F2 F3 F4 HY0
            have m0 := cell_regrown (show W0.cell? ⟨w.heap.size, 0, none⟩ = some (Value.slice ae ne cape) from J0.out.cell 0)
            have m1 := cell_regrown (show W0.cell? ⟨w.heap.size, 1, none⟩ = some (dv) from J0.out.cell 1)
            have m2 := cell_regrown (show W0.cell? ⟨wr.heap.size, 0, none⟩ = some (Value.int .i64 (xe)) from J2.out.cell 0)
            have m3 := cell_regrown (show W0.cell? ⟨wr.heap.size, 1, none⟩ = some (Value.int .i64 (xk)) from J2.out.cell 1)
            go_wp2_with fail
            refine wp_region_qb (by kernel_rfl) (by kernel_rfl) ?_
            repeat (first | go_big_quiet_skip | (refine wpQuiet_step (fun K hK => ?_); go_simp; (try simp (disch := omega) only [ar9]); (first | (refine hK _ ?_; clear hK K) | (apply Exists.intro; refine ⟨fun _ => ?_, hK _ ?_⟩; (fail); clear hK K))))
            clear m0 m1 m2 m3
            refine wpQuiet_nil ?_
            intro W1 hb9
            have J0 := Lib.hid (J0.out.on hb9)
            have J1 := Lib.hid (J1.out.on hb9)
            have J2 := Lib.hid (J2.out.on hb9)
            have HB := Lib.hid (chain HB.out hb9 (Nat.le_refl _))
            clear hb9
            go_wp2
            go_ret
            exact ⟨ret_int HR.out.symm, HGB.out.trans (gb_of_below HB.out), fun h => absurd (HR.out.symm.trans h) (by decide)⟩
          · have dg1 : decide (xe < 0) = false := decide_eq_false g1
            by_cases g2 : (ne : Int) ≤ xe
            · have dg2 : decide ((ne : Int) ≤ xe) = true := decide_eq_true g2
              have HR := Lib.hid (F1.out (.inr (.inl g2)))
              clear F1 F2 F3 F4 HY0
              have m0 := cell_regrown (show W0.cell? ⟨w.heap.size, 0, none⟩ = some (Value.slice ae ne cape) from J0.out.cell 0)
              have m1 := cell_regrown (show W0.cell? ⟨w.heap.size, 1, none⟩ = some (dv) from J0.out.cell 1)
              have m2 := cell_regrown (show W0.cell? ⟨wr.heap.size, 0, none⟩ = some (Value.int .i64 (xe)) from J2.out.cell 0)
              have m3 := cell_regrown (show W0.cell? ⟨wr.heap.size, 1, none⟩ = some (Value.int .i64 (xk)) from J2.out.cell 1)
              go_wp2_with fail
              refine wp_region_qb (by kernel_rfl) (by kernel_rfl) ?_
              repeat (first | go_big_quiet_skip | (refine wpQuiet_step (fun K hK => ?_); go_simp; (try simp (disch := omega) only [ar9]); (first | (refine hK _ ?_; clear hK K) | (apply Exists.intro; refine ⟨fun _ => ?_, hK _ ?_⟩; (fail); clear hK K))))
              clear m0 m1 m2 m3
              refine wpQuiet_nil ?_
              intro W1 hb9
              have J0 := Lib.hid (J0.out.on hb9)
              have J1 := Lib.hid (J1.out.on hb9)
              have J2 := Lib.hid (J2.out.on hb9)
              have HB := Lib.hid (chain HB.out hb9 (Nat.le_refl _))
              clear hb9
              go_wp2
              go_ret
              exact ⟨ret_int HR.out.symm, HGB.out.trans (gb_of_below HB.out), fun h => absurd (HR.out.symm.trans h) (by decide)⟩
            · have dg2 : decide ((ne : Int) ≤ xe) = false := decide_eq_false g2
              obtain ⟨i, rfl⟩ : ∃ i : Nat, xe = (i : Int) := Int.eq_ofNat_of_zero_le (by omega)
              have hin : i < ne := by omega
              obtain ⟨be, offe, rfl, -, -, -⟩ := HSE.out.get (by omega)
              obtain ⟨ac, capc, av, hge⟩ := HQE.out i hin
              have HEC := Lib.hid (fun W (h : Below wr.heap.size wr W) => HSE.out.cellAt rfl h (i := i) (j := 3) hin (by omega))
              rw [hge] at HEC
              have hlc9 := HLC9.out i hin
              clear hge
              generalize hnc : (ix g.e i).c.length = nc at *
              by_cases g3 : xk < 0
              · have dg3 : decide (xk < 0) = true := decide_eq_true g3
                have HR := Lib.hid (F1.out (.inr (.inr (.inl g3))))
                clear F1 F2 F3 F4 HY0
                have m0 := cell_regrown (show W0.cell? ⟨w.heap.size, 0, none⟩ = some (Value.slice (some ⟨be, offe, none⟩) ne cape) from J0.out.cell 0)
                have m1 := cell_regrown (show W0.cell? ⟨w.heap.size, 1, none⟩ = some (dv) from J0.out.cell 1)
                have m2 := cell_regrown (show W0.cell? ⟨wr.heap.size, 0, none⟩ = some (Value.int .i64 (i : Int)) from J2.out.cell 0)
                have m3 := cell_regrown (show W0.cell? ⟨wr.heap.size, 1, none⟩ = some (Value.int .i64 (xk)) from J2.out.cell 1)
                have m4 := cell_regrown (show W0.cell? ⟨be, offe + i * 5 + 3, none⟩ = some (Value.slice ac nc capc) from HEC.out W0 HB.out)
                go_wp2_with fail
                refine wp_region_qb (by kernel_rfl) (by kernel_rfl) ?_
                repeat (first | go_big_quiet_skip | (refine wpQuiet_step (fun K hK => ?_); go_simp; (try simp (disch := omega) only [ar9]); (first | (refine hK _ ?_; clear hK K) | (apply Exists.intro; refine ⟨fun _ => ?_, hK _ ?_⟩; (fail); clear hK K))))
                clear m0 m1 m2 m3 m4
                refine wpQuiet_nil ?_
                intro W1 hb9
                have J0 := Lib.hid (J0.out.on hb9)
                have J1 := Lib.hid (J1.out.on hb9)
                have J2 := Lib.hid (J2.out.on hb9)
                have HB := Lib.hid (chain HB.out hb9 (Nat.le_refl _))
                clear hb9
                go_wp2
                go_ret
                exact ⟨ret_int HR.out.symm, HGB.out.trans (gb_of_below HB.out), fun h => absurd (HR.out.symm.trans h) (by decide)⟩
              · have dg3 : decide (xk < 0) = false := decide_eq_false g3
                by_cases g4 : (nc : Int) ≤ xk
                · have dg4 : decide ((nc : Int) ≤ xk) = true := decide_eq_true g4
                  have HR := Lib.hid (F1.out (.inr (.inr (.inr (by rw [Int.toNat_natCast, hnc]; exact g4)))))
                  clear F1 F2 F3 F4 HY0
                  have m0 := cell_regrown (show W0.cell? ⟨w.heap.size, 0, none⟩ = some (Value.slice (some ⟨be, offe, none⟩) ne cape) from J0.out.cell 0)
                  have m1 := cell_regrown (show W0.cell? ⟨w.heap.size, 1, none⟩ = some (dv) from J0.out.cell 1)
                  have m2 := cell_regrown (show W0.cell? ⟨wr.heap.size, 0, none⟩ = some (Value.int .i64 (i : Int)) from J2.out.cell 0)
                  have m3 := cell_regrown (show W0.cell? ⟨wr.heap.size, 1, none⟩ = some (Value.int .i64 (xk)) from J2.out.cell 1)
                  have m4 := cell_regrown (show W0.cell? ⟨be, offe + i * 5 + 3, none⟩ = some (Value.slice ac nc capc) from HEC.out W0 HB.out)
                  go_wp2_with fail
                  refine wp_region_qb (by kernel_rfl) (by kernel_rfl) ?_
                  repeat (first | go_big_quiet_skip | (refine wpQuiet_step (fun K hK => ?_); go_simp; (try simp (disch := omega) only [ar9]); (first | (refine hK _ ?_; clear hK K) | (apply Exists.intro; refine ⟨fun _ => ?_, hK _ ?_⟩; (fail); clear hK K))))
                  clear m0 m1 m2 m3 m4
                  refine wpQuiet_nil ?_
                  intro W1 hb9
                  have J0 := Lib.hid (J0.out.on hb9)
                  have J1 := Lib.hid (J1.out.on hb9)
                  have J2 := Lib.hid (J2.out.on hb9)
                  have HB := Lib.hid (chain HB.out hb9 (Nat.le_refl _))
                  clear hb9
                  go_wp2
                  go_ret
                  exact ⟨ret_int HR.out.symm, HGB.out.trans (gb_of_below HB.out), fun h => absurd (HR.out.symm.trans h) (by decide)⟩
                · have dg4 : decide ((nc : Int) ≤ xk) = false := decide_eq_false g4
                  obtain ⟨j, rfl⟩ : ∃ j : Nat, xk = (j : Int) := Int.eq_ofNat_of_zero_le (by omega)
                  have hjn : j < nc := by omega
                  have HNR := Lib.hid (show ¬ ((i : Int) < 0 ∨ (ne : Int) ≤ (i : Int) ∨ (j : Int) < 0 ∨ ((ix g.e (i : Int).toNat).c.length : Int) ≤ (j : Int)) by rw [Int.toNat_natCast, hnc]; omega)
                  have hy := HY0.out HNR.out
                  obtain ⟨i0, rfl⟩ : ∃ i : Nat, ye = (i : Int) := Int.eq_ofNat_of_zero_le (by omega)
                  obtain ⟨j0, rfl⟩ : ∃ i : Nat, yk = (i : Int) := Int.eq_ofNat_of_zero_le (by omega)
                  rw [Int.toNat_natCast] at hy
                  have HCL1 := Lib.hid (fun w h => HHOLD.out i j w h (by omega) (by rw [hnc]; exact hjn))
                  have HCL2 := Lib.hid (fun w h => HHOLD.out i0 j0 w h (by omega) (by omega))
                  have hh1 : holdL g.e ⟨(i : Int), (j : Int)⟩ = (ix (ix g.e i).c j).h := by unfold holdL; simp only [Int.toNat_natCast]
                  have hh2 : holdL g.e ⟨(i0 : Int), (j0 : Int)⟩ = (ix (ix g.e i0).c j0).h := by unfold holdL; simp only [Int.toNat_natCast]
                  rw [hh1, hh2] at F3 F4
                  have wi := wf64 (a := (i : Int)) (by omega) (by omega)
                  have wj := wf64 (a := (j : Int)) (by omega) (by omega)
                  have i3 : (0 : Int) ≤ (i : Int) := by omega
                  have i4 : (i : Int) < (ne : Int) := by omega
                  have i5 : decide ((i : Int) < 0) = false := decide_eq_false (by omega)
                  have i5' : decide ((j : Int) < 0) = false := decide_eq_false (by omega)
                  have i6 : decide ((ne : Int) ≤ (i : Int)) = false := by simp; omega
                  have i6' : decide (ne ≤ i) = false := by simp; omega
                  have i7 : decide ((nc : Int) ≤ (j : Int)) = false := by simp; omega
                  have i7' : decide (nc ≤ j) = false := by simp; omega
                  have i8 : (0 : Int) < (nl : Int) := by omega
                  have i9 : 0 < nl := by omega
                  have HLKF := Lib.hid (fun W h => HLKF.out W h wi wj)
                  have HNX := Lib.hid (fun W h => HNX.out W h wi wj)
                  clear HHOLD hh1 hh2 hy wi wj
                  generalize (ix (ix g.e i).c j).h = h1 at *
                  generalize (ix (ix g.e i0).c j0).h = h2 at *
                  have m0 := cell_regrown (show W0.cell? ⟨w.heap.size, 0, none⟩ = some (Value.slice (some ⟨be, offe, none⟩) ne cape) from J0.out.cell 0)
                  have m1 := cell_regrown (show W0.cell? ⟨w.heap.size, 1, none⟩ = some (dv) from J0.out.cell 1)
                  have m2 := cell_regrown (show W0.cell? ⟨wr.heap.size, 0, none⟩ = some (Value.int .i64 (i : Int)) from J2.out.cell 0)
                  have m3 := cell_regrown (show W0.cell? ⟨wr.heap.size, 1, none⟩ = some (Value.int .i64 (j : Int)) from J2.out.cell 1)
                  have m4 := cell_regrown (show W0.cell? ⟨be, offe + i * 5 + 3, none⟩ = some (Value.slice ac nc capc) from HEC.out W0 HB.out)
                  go_wp2_with fail
                  refine wp_region_qb (by kernel_rfl) (by kernel_rfl) ?_
                  repeat (first | go_big_quiet_skip | (refine wpQuiet_step (fun K hK => ?_); go_simp; (try simp (disch := omega) only [ar9]); (first | (refine hK _ ?_; clear hK K) | (apply Exists.intro; refine ⟨fun _ => ?_, hK _ ?_⟩; (fail); clear hK K))))
                  clear m0 m1 m2 m3 m4
                  refine wpQuiet_nil ?_
                  intro W1 hb9
                  have J0 := Lib.hid (J0.out.on hb9)
                  have J1 := Lib.hid (J1.out.on hb9)
                  have J2 := Lib.hid (J2.out.on hb9)
                  have HB := Lib.hid (chain HB.out hb9 (Nat.le_refl _))
                  clear hb9
                  have hlk := HLKF.out W1 (HMS.out.on HB.out)
                  have q0 : W1.cell? ⟨wr.heap.size, 0, none⟩ = some (Value.int .i64 (i : Int)) := J2.out.cell 0
                  have q1 : W1.cell? ⟨wr.heap.size, 1, none⟩ = some (Value.int .i64 (j : Int)) := J2.out.cell 1
                  clear HLKF
                  cases hb
                  · skip
                    go_wp2_with fail
                    clear hlk q0 q1
                    have HC1 := Lib.hid (fun d9 os9 => HCL1.out (Sort.grow (redrawn W1 d9) os9) (HGR.out.on (HB.out.trans (show Below wr.heap.size W1 _ from (below_regrown W1 d9 os9).mono HB.out.size))))
                    have HC2 := Lib.hid (fun d9 os9 => HCL2.out (Sort.grow (redrawn W1 d9) os9) (HGR.out.on (HB.out.trans (show Below wr.heap.size W1 _ from (below_regrown W1 d9 os9).mono HB.out.size))))
                    have m0 := cell_regrown (show W1.cell? ⟨w.heap.size, 0, none⟩ = some (Value.slice (some ⟨be, offe, none⟩) ne cape) from J0.out.cell 0)
                    have m1 := cell_regrown (show W1.cell? ⟨w.heap.size, 1, none⟩ = some (dv) from J0.out.cell 1)
                    have m2 := cell_regrown (show W1.cell? ⟨wr.heap.size, 0, none⟩ = some (Value.int .i64 (i : Int)) from J2.out.cell 0)
                    have m3 := cell_regrown (show W1.cell? ⟨wr.heap.size, 1, none⟩ = some (Value.int .i64 (j : Int)) from J2.out.cell 1)
                    have m4 := cell_regrown (show W1.cell? ⟨be, offe + i * 5 + 3, none⟩ = some (Value.slice ac nc capc) from HEC.out W1 HB.out)
                    have m5 := cell_regrown (show W1.cell? ⟨w.heap.size + 1, 3, none⟩ = some (Value.slice (some ⟨bl, offl, none⟩) nl capl) from J1.out.cell 3)
                    have m6 := cell_regrown (show W1.cell? ⟨bl, offl, none⟩ = some (Value.int .i64 (i0 : Int)) from HY1.out W1 HB.out)
                    have m7 := cell_regrown (show W1.cell? ⟨bl, offl + 1, none⟩ = some (Value.int .i64 (j0 : Int)) from HY2.out W1 HB.out)
                    refine wp_region_qb (by kernel_rfl) (by kernel_rfl) ?_
                    repeat (first | go_big_quiet_skip | (refine wpQuiet_step (fun K hK => ?_); go_simp; (try simp (disch := omega) only [ar9]); (first | (refine hK _ ?_; clear hK K) | (apply Exists.intro; refine ⟨fun _ => ?_, hK _ ?_⟩; (first | with_reducible exact Calls.later (HC1.out _ _) | with_reducible exact Calls.later (HC2.out _ _)); clear hK K))))
                    clear m0 m1 m2 m3 m4 m5 m6 m7 HC1 HC2
                    refine wpQuiet_nil ?_
                    intro W2 hb9
                    have J0 := Lib.hid (J0.out.on hb9)
                    have J1 := Lib.hid (J1.out.on hb9)
                    have J2 := Lib.hid (J2.out.on hb9)
                    have HB := Lib.hid (chain HB.out hb9 (Nat.le_refl _))
                    clear hb9
                    by_cases gh : h1 = h2
                    · subst gh
                      have HX := Lib.hid (F4.out HNR.out (by simp) (by first | rfl | trivial))
                      clear F1 F2 F3 F4 HY0
                      obtain ⟨w9, hmu, hms9, hg9⟩ := HNX.out W2 (HMS.out.on HB.out)
                      have q0 : W2.cell? ⟨wr.heap.size, 0, none⟩ = some (Value.int .i64 (i : Int)) := J2.out.cell 0
                      have q1 : W2.cell? ⟨wr.heap.size, 1, none⟩ = some (Value.int .i64 (j : Int)) := J2.out.cell 1
                      have hz2 := HB.out.size
                      have JE0 := Lib.hid (J0.out.block (hg9.block w.heap.size (by omega) (by simp; omega)))
                      have JE1 := Lib.hid (J1.out.block (hg9.block (w.heap.size + 1) (by omega) (by simp; omega)))
                      have HGE := Lib.hid (HGB.out.trans ((gb_of_below HB.out).trans hg9))
                      have HM9 := Lib.hid hms9
                      clear hg9 hms9 HNX
                      go_wp2
                      go_roundw
                      case rel => exact ⟨k + 1, by go_num, by omega, JE0.out, JE1.out, HGE.out, HM9, HX⟩
                      case measure => simp [intOf]; omega
                    · have gh1 : (h1 != h2) = true := by simp [gh]
                      have HR := Lib.hid (F3.out HNR.out (by simp) gh)
                      clear F1 F2 F3 F4 HY0
                      go_wp2
                      go_ret
                      exact ⟨ret_int HR.out.symm, HGB.out.trans (gb_of_below HB.out), fun h => absurd (HR.out.symm.trans h) (by decide)⟩
                  · skip
                    have HR := Lib.hid (F2.out HNR.out rfl)
                    clear F1 F2 F3 F4 HY0
                    go_wp2
                    go_ret
                    exact ⟨ret_int HR.out.symm, HGB.out.trans (gb_of_below HB.out), fun h => absurd (HR.out.symm.trans h) (by decide)⟩
        · obtain rfl : k = nl := by omega
          have hnl9 : decide ((k : Int) < (k : Int)) = false := by simp
          have HR := Lib.hid (E4.out hsk.out)
          have HM9 := Lib.hid hms.out
          rw [HLE.out] at HM9
          clear E3 L1 L2 L3 L4 LR hsk hms
          go_wp2
          go_ret
          exact ⟨ret_int HR.out.symm, HGB.out, fun _ => HM9.out⟩
end Go.Proofs.Ins
