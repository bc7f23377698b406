/- The walk of insolvencylaw0.owe (printed by owegen.py). -/
import Derived.Test.YtobbllakdjampaaGreatDoorZ1
import Derived.Test.YtobbllakdjampaaGreatDoorZ31

set_option linter.unusedSimpArgs false
set_option linter.unusedVariables false
namespace Go.Proofs.Ins
open Go.RowKit

/-- Debts handed back: the old ones, and one more. -/
def RetDs (w : World) (p : Nat → Prop) (l : List Dbt) : Ending → World → Prop := fun x w' => ∃ v t, x = .returned v ∧ RDbts w' (fun b => p b ∨ Fr w.heap.size w' b) v (l ++ [t]) ∧ t.w.fits 1000 ∧ t.l.length ≤ 4 ∧ Below w.heap.size w w'
theorem dbts_more {w w2 : World} {p : Nat → Prop} {dl : List Dbt} {B B2 : Nat} {T T2 : TypeId} {v2 lv : Value} {F2 GD : Nat → List Value} {x : R3} {ll : List Lg}
    (hw : Below w.heap.size w w2) (ho : SOwn w2 B2 T2 4 v2 (dl.length + 1) F2) (hB2 : w.heap.size ≤ B2) (hF : ∀ j, j < dl.length → F2 j = GD j) (hF9 : F2 dl.length = [.bool x.n, .string x.s, .string x.d, lv])
    (hQ : ∀ i, i < dl.length → QDbt w p (GD i) (ix dl i)) (hl : SOwn w2 B T 2 lv ll.length (fun j => (ix ll j).c)) (hB : w.heap.size ≤ B) :
    RDbts w2 (fun b => p b ∨ Fr w.heap.size w2 b) v2 (dl ++ [⟨x, ll⟩]) := by
  refine ⟨F2, ?_, fun i hi => ?_⟩
  · rw [List.length_append, List.length_singleton]
    exact ho.slF.mono fun b hb => .inr ⟨Nat.le_trans hB2 hb.1, hb.2⟩
  · rw [List.length_append, List.length_singleton] at hi
    rw [ix_append]
    by_cases h : i < dl.length
    · rw [if_pos h, hF i h]
      exact (hQ i h).keep (.of_below hw) fun b hb => .inl hb
    · obtain rfl : i = dl.length := by omega
      rw [if_neg h, if_pos rfl, hF9]
      exact ⟨_, rfl, RLegs.keep (w := w2) (p := Fr B w2) (RL.of_own hl) ⟨fun _ _ _ => rfl⟩ fun b hb => .inr ⟨Nat.le_trans hB hb.1, hb.2⟩⟩

/-- 'append(s, x)' for an element that lies in a block of its own. -/
theorem append_one {P : Program} {w : World} {B x : Nat} {T t : TypeId} {sz bytes n : Nat} {v : Value} {F : Nat → List Value} {E : List Value} (h : SOwn w B T sz v n F)
    (h1 : P.underlying t = some (.slice T)) (h2 : (P.info? T).map (fun i => (i.zero.map (fun z => z.cells.size), i.size, i.bytes)) = some (some sz, sz, bytes)) (hsz : 0 < sz)
    (hE : E.length = sz) (h1c : ∀ u ∈ E, u.oneCell' = true) (hx : w.heap[x]? = some (.cells E.toArray T (0, 0))) (hn : (n + 1) * bytes ≤ 140737488355328) (hn2 : n + 1 ≤ 4294967296) (hbase : B ≤ w.heap.size) :
    ∃ v' w', (∀ ty, (Builtin.append_ #[t, t] ty #[v, .slice (some ⟨x, 0, none⟩) 1 1]).run P w = .ok v' w') ∧ SOwn w' B T sz v' (n + 1) (fun j => if j < n then F j else E) ∧ Below B w w' := by
  obtain ⟨i, z, hi, hz, hzs, hsize, hbb⟩ := info_sz h2
  have hnews : ∀ j u, E[j]? = some u → w.cell? ((⟨x, 0, none⟩ : Addr).add j) = some u := fun j u hj => by
    have e : (⟨x, 0, none⟩ : Addr).add j = ⟨x, j, none⟩ := by unfold Addr.add; split <;> simp_all
    rw [e, cell_of_row _ _ _ _ _ (0, 0) hx]
    simpa using hj
  obtain ⟨v', w', hr, ho, hg, -, hblk⟩ := run_append_own_at (P := P) (w := w) B t 0 T i z sz bytes h1 hi hz hsize hbb hzs hsz v n _ h.1 ⟨x, 0, none⟩ 1 1 E (by rw [hE, Nat.one_mul]) hnews h1c (by unfold maxLen; omega) hn hbase
  refine ⟨v', w', fun ty => hr, ⟨?_, fun i hi => ?_⟩, below_grownS h.1 hg hbase⟩
  · have e : (List.range n).flatMap F ++ E = (List.range (n + 1)).flatMap (fun j => if j < n then F j else E) := by
      rw [List.range_succ, List.flatMap_append]
      congr 1
      · rw [List.flatMap_def, List.flatMap_def]
        congr 1
        exact List.map_congr_left fun j hj => by rw [if_pos (by simpa using hj)]
      · simp
    rw [← e]; exact ho
  · dsimp only
    split
    · rename_i hlt; exact h.2 i hlt
    · exact hE
theorem SOwn.swap2 {w : World} {B g n cap : Nat} {T : TypeId} {ll : List Lg} (h : SOwn w B T 2 (.slice (some ⟨g, 0, none⟩) n cap) n (fun j => (ix ll j).c)) (hn : ll.length = n) {a b : Nat} (ha : a < n) (hb : b < n) :
    SOwn ((((w.setCell ⟨g, a * 2, none⟩ (.int .i64 (ix ll b).e)).setCell ⟨g, a * 2 + 1, none⟩ (.int .i64 (ix ll b).k)).setCell ⟨g, b * 2, none⟩ (.int .i64 (ix ll a).e)).setCell ⟨g, b * 2 + 1, none⟩ (.int .i64 (ix ll a).k)) B T 2 (.slice (some ⟨g, 0, none⟩) n cap) n
      (fun j => (ix ((ll.set a (ix ll b)).set b (ix ll a)) j).c) := by
  have h1 := (((h.setAt a 0 (.int .i64 (ix ll b).e) ha (by omega)).setAt a 1 (.int .i64 (ix ll b).k) ha (by omega)).setAt b 0 (.int .i64 (ix ll a).e) hb (by omega)).setAt b 1 (.int .i64 (ix ll a).k) hb (by omega)
  rw [Nat.add_zero, Nat.add_zero] at h1
  refine h1.congr fun k hk => ?_
  have hkb : k = b → ix ((ll.set a (ix ll b)).set b (ix ll a)) k = ix ll a := fun e => by
    subst e; unfold ix; simp [List.getD, hn, hk]
  have hka : k ≠ b → k = a → ix ((ll.set a (ix ll b)).set b (ix ll a)) k = ix ll b := fun e1 e => by
    subst e; unfold ix; simp [List.getD, List.getElem?_set, hn, hk, Ne.symm e1]
  have hko : k ≠ b → k ≠ a → ix ((ll.set a (ix ll b)).set b (ix ll a)) k = ix ll k := fun e1 e2 => by
    unfold ix; simp [List.getD, List.getElem?_set, Ne.symm e1, Ne.symm e2]
  by_cases e1 : k = b
  · rw [hkb e1]
    by_cases e2 : b = a
    · subst e2; subst e1; simp [updF, Lg.c]
    · subst e1; simp [updF, Lg.c, e2]
  · by_cases e2 : k = a
    · rw [hka e1 e2]; subst e2; simp [updF, Lg.c, e1]
    · rw [hko e1 e2]; simp [updF, e1, e2]

set_option maxRecDepth 100000 in
set_option maxHeartbeats 3200000 in
theorem owe_any (p : Nat → Prop) (el : List Est) (dl : List Dbt) (ev dv : Value) (d0 d1 d2 : Nat) (w : World) (hE : REsts w p ev el) (hD : RDbts w p dv dl) (hle : el.length ≤ 8) (hlc : ∀ i, i < el.length → (ix el i).c.length ≤ 24) (hld : dl.length ≤ 16)
    (hll : ∀ i, i < dl.length → (ix dl i).l.length ≤ 140737488351232) (h0 : d0 ≤ 65535) (h1 : d1 ≤ 65535) (h2 : d2 ≤ 65535) :
    Calls Tryz.prog 50 #[.agg #[ev, dv], .agg #[.int .u16 (d0 : Int), .int .u16 (d1 : Int), .int .u16 (d2 : Int)]] w (RetDs w p dl) := by
  have HTK := Lib.hid (fun a b W (h : Below w.heap.size w W) => taken_any p ev dv dl a b W (hD.on h) (by omega) hll)
  have HAM := Lib.hid (fun W => amount_any d2 W h2)
  have HFX := Lib.hid (amt_fits d2)
  have HDG := Lib.hid hD
  have HLC := Lib.hid hlc
  obtain ⟨GE, hSE, hQE⟩ := hE
  obtain ⟨ae, ce, rfl, -, -⟩ := hSE.form
  have HSE := Lib.hid hSE
  have HEL := Lib.hid (REsts.elem hQE)
  obtain ⟨ad, nd, cd, rfl⟩ : ∃ a n c, dv = .slice a n c := by obtain ⟨G, hS, -⟩ := hD; obtain ⟨x, y, h, -, -⟩ := hS.form; exact ⟨x, _, y, h⟩
  clear hSE hQE hD hll hlc
  generalize hne : el.length = ne at *
  generalize hX : ofQ (amt d2) = X at *
  unfold ofQ at hX
  obtain ⟨xn, xs, xd⟩ := X
  simp only [R3.mk.injEq] at hX
  obtain ⟨e1, e2, e3⟩ := hX
  rw [e1, e2, e3] at HAM
  clear e1 e2 e3
  go_enter Tryz.func50, Tryz.ntmps50
  have kk : ((w.alloc (.cells #[.slice ae ne ce, .slice ad nd cd] 59)).alloc (.cells #[.int .u16 (d0 : Int), .int .u16 (d1 : Int), .int .u16 (d2 : Int)] 47)).cell? ⟨w.heap.size + 1, 2, none⟩ = some (.int .u16 (d2 : Int)) := (duo w _ _ _ _).2.1.cell 2
  go_wp2_with fail
  refine (HAM.out _).mono ?_; rintro x w1 ⟨rfl, hb1⟩
  obtain ⟨K0, K1, hbw⟩ := boxes2 hb1
  have k0 : (w1.alloc (.cells #[.bool xn, .string xs, .string xd, .slice none 0 0] 96)).cell? ⟨w.heap.size, 0, none⟩ = some (.slice ae ne ce) := (K0.alloc _).cell 0
  have J0 := Lib.hid K0
  have J1 := Lib.hid K1
  have HB := Lib.hid hbw
  have hz1 := K1.lt
  clear hb1 K0 K1 hbw kk HAM
  go_wp2_with fail
  clear k0
  refine wp_forget (fun W => ∃ z, z = w1.heap.size ∧ Blk W w.heap.size #[.slice ae ne ce, .slice ad nd cd] ∧ Blk W (w.heap.size + 1) #[.int .u16 (d0 : Int), .int .u16 (d1 : Int), .int .u16 (d2 : Int)] ∧ Blk W z #[.bool xn, .string xs, .string xd, .slice none 0 0] ∧ Below w.heap.size w W) ⟨_, rfl, J0.out.alloc _, J1.out.alloc _, Blk.new w1 _ _, HB.out.alloc (by omega) _⟩ ?_
  rintro W ⟨z, hz, K0, K1, K2, hbw⟩
  rw [← hz]
  have hzz : w.heap.size + 1 < z := by omega
  have J0 := Lib.hid K0
  have J1 := Lib.hid K1
  have J2 := Lib.hid K2
  have HB := Lib.hid hbw
  clear hz K0 K1 K2 hbw hz1
  go_loopw [6, 7, 21] (fun x6 x7 i wr => ∃ m κ H lv, ∃ ll : List Lg, x6 = .int .i64 (κ : Nat) ∧ x7 = .int .i64 H ∧ i = .int .i64 (m : Nat) ∧ m ≤ ne ∧ κ ≤ 24 * m ∧ Blk wr w.heap.size #[.slice ae ne ce, .slice ad nd cd] ∧ Blk wr (w.heap.size + 1) #[.int .u16 (d0 : Int), .int .u16 (d1 : Int), .int .u16 (d2 : Int)] ∧ Blk wr z #[.bool xn, .string xs, .string xd, lv] ∧ Hid (SOwn wr (z + 1) 118 2 lv (List.length ll) (fun j => (ix ll j).c)) ∧ List.length ll ≤ 4 ∧ Below w.heap.size w wr) (fun _ _ i _ => ne - (intOf i).toNat)
  case atStart => exact ⟨0, 0, _, _, [], rfl, rfl, rfl, by omega, by omega, J0.out, J1.out, J2.out, SOwn.nil _ _ _ _ _, by simp, HB.out⟩
  case round =>
    obtain ⟨m, κ, H, lv, ll, rfl, rfl, rfl, hm, hκ, K0, K1, K2, hown, hl4, hbw⟩ := hrel
    have J0 := Lib.hid K0
    have J1 := Lib.hid K1
    have J2 := Lib.hid K2
    have HOW := Lib.hid hown.out
    have HB := Lib.hid hbw
    have k0 : wr.cell? ⟨w.heap.size, 0, none⟩ = some (.slice ae ne ce) := K0.cell 0
    have hz2 := K2.lt
    have hzb := hbw.size
    by_cases hlt : m < ne
    · obtain ⟨b3, off3, rfl, -, -, -⟩ := HSE.out.get (by omega)
      obtain ⟨a2, c2, a3, c3, hge, hC, -⟩ := HEL.out m hlt
      have d3 := HSE.out.cellAt rfl HB.out (i := m) (j := 3) hlt (by omega)
      rw [hge] at d3
      have e3 : wr.cell? ⟨b3, off3 + m * 5 + 3, none⟩ = some (.slice a2 (ix el m).c.length c2) := d3
      have hlc9 := HLC.out m hlt
      have HC := Lib.hid hC.plain
      have i1 : (0 : Int) ≤ (m : Int) := by omega
      have i2 : (m : Int) < (ne : Int) := by omega
      clear d3 hge hC K0 K1 K2 hown hbw HSE HEL
      generalize (ix el m).c = cl at *
      generalize hnc : cl.length = nc at *
      go_wp2_with fail
      clear k0 e3
      go_loopw [6, 7, 31] (fun x6 x7 i wr => ∃ c κ H lv, ∃ ll : List Lg, x6 = .int .i64 (κ : Nat) ∧ x7 = .int .i64 H ∧ i = .int .i64 (c : Nat) ∧ c ≤ nc ∧ κ ≤ 24 * m + c ∧ Blk wr w.heap.size #[.slice (some ⟨b3, off3, none⟩) ne ce, .slice ad nd cd] ∧ Blk wr (w.heap.size + 1) #[.int .u16 (d0 : Int), .int .u16 (d1 : Int), .int .u16 (d2 : Int)] ∧ Blk wr z #[.bool xn, .string xs, .string xd, lv] ∧ Hid (SOwn wr (z + 1) 118 2 lv (List.length ll) (fun j => (ix ll j).c)) ∧ List.length ll ≤ 4 ∧ Below w.heap.size w wr) (fun _ _ i _ => nc - (intOf i).toNat)
      case atStart => exact ⟨0, κ, H, lv, ll, rfl, rfl, rfl, by omega, by omega, J0.out, J1.out, J2.out, HOW, hl4, HB.out⟩
      case round =>
        clear J0 J1 J2 HOW HB hl4 hκ hz2 hzb
        obtain ⟨c, κ, H, lv, ll, rfl, rfl, rfl, hc, hκ, K0, K1, K2, hown, hl4, hbw⟩ := hrel
        have J0 := Lib.hid K0
        have J1 := Lib.hid K1
        have J2 := Lib.hid K2
        have HOW := Lib.hid hown.out
        have HB := Lib.hid hbw
        have hz2 := K2.lt
        have hzb := hbw.size
        by_cases hlc : c < nc
        · obtain ⟨b4, off4, rfl, -, -, -⟩ := HC.out.get (by omega)
          have e0 := HC.out.cellAt rfl HB.out (i := c) (j := 0) hlc (by omega)
          have e1 : wr.cell? ⟨b4, off4 + c * 5 + 1, none⟩ = some (.int .i64 (ix cl c).r) := HC.out.cellAt rfl HB.out (i := c) (j := 1) hlc (by omega)
          have e2 : wr.cell? ⟨b4, off4 + c * 5 + 2, none⟩ = some (.bool (ix cl c).a.n) := HC.out.cellAt rfl HB.out (i := c) (j := 2) hlc (by omega)
          have e3 : wr.cell? ⟨b4, off4 + c * 5 + 3, none⟩ = some (.string (ix cl c).a.s) := HC.out.cellAt rfl HB.out (i := c) (j := 3) hlc (by omega)
          have e4 : wr.cell? ⟨b4, off4 + c * 5 + 4, none⟩ = some (.string (ix cl c).a.d) := HC.out.cellAt rfl HB.out (i := c) (j := 4) hlc (by omega)
          rw [Nat.add_zero] at e0
          have e0' : wr.cell? ⟨b4, off4 + c * 5, none⟩ = some (.int .i64 (ix cl c).h) := e0
          have i3 : (0 : Int) ≤ (c : Int) := by omega
          have i4 : (c : Int) < (nc : Int) := by omega
          obtain ⟨la, lc, rfl⟩ : ∃ a cp, lv = .slice a ll.length cp := by rcases HOW.out.form with ⟨e, hn⟩ | ⟨g, cap, e, -⟩; exact ⟨none, 0, by rw [e, hn]⟩; exact ⟨_, _, e⟩
          clear e0 K0 K1 K2 hown hbw
          generalize ix cl c = P at *
          obtain ⟨ph, pr, ⟨pn, ps, pd⟩⟩ := P
          dsimp only at e0' e1 e2 e3 e4
          have q0 : (wr.alloc (.cells #[.int .i64 ph, .int .i64 pr, .bool pn, .string ps, .string pd] 86)).cell? ⟨w.heap.size, 0, none⟩ = some (.slice (some ⟨b3, off3, none⟩) ne ce) := (J0.out.alloc _).cell 0
          have q1 : (wr.alloc (.cells #[.int .i64 ph, .int .i64 pr, .bool pn, .string ps, .string pd] 86)).cell? ⟨w.heap.size, 1, none⟩ = some (.slice ad nd cd) := (J0.out.alloc _).cell 1
          go_wp2_with fail
          refine (HTK.out _ _ _ (HB.out.alloc hzb _)).mono ?_; rintro x w3 ⟨⟨b, rfl⟩, hb3⟩
          obtain ⟨K5, hbw⟩ := boxes1 hb3
          have J5 := Lib.hid K5
          have J0 := Lib.hid (J0.out.on hbw)
          have J1 := Lib.hid (J1.out.on hbw)
          have J2 := Lib.hid (J2.out.on hbw)
          have HOW := Lib.hid (HOW.out.on hbw)
          have HB := Lib.hid (chain HB.out hbw (Nat.le_refl _))
          have hz2 := J2.out.lt
          have hzb := HB.out.size
          have z3 : w3.cell? ⟨z, 3, none⟩ = some (.slice la ll.length lc) := J2.out.cell 3
          have t0 : w3.cell? ⟨w.heap.size + 1, 0, none⟩ = some (.int .u16 (d0 : Int)) := J1.out.cell 0
          have y0 : w3.cell? ⟨wr.heap.size, 0, none⟩ = some (.int .i64 ph) := K5.cell 0
          clear hb3 hbw K5 q0 q1 e0' e1 e2 e3 e4 HTK
          cases b
          · by_cases h4 : 4 ≤ ll.length
            · have hl9 : ll.length = 4 := by omega
              rw [hl9] at z3
              go_wp2
              go_roundw
              case rel => exact ⟨c + 1, κ, H, _, ll, rfl, rfl, by go_num, by omega, by omega, J0.out, J1.out, J2.out, HOW, hl4, HB.out⟩
              case measure => simp [intOf]; omega
            · have i5 : decide ((4 : Int) ≤ (ll.length : Int)) = false := by simp; omega
              have i6 : ¬ (4 : Int) ≤ (ll.length : Int) := by omega
              generalize hln : ll.length = nl at *
              obtain ⟨Y, hY, hby⟩ := and1_i64 (q := d0) (s := κ % 16) h0
              by_cases hY0 : Y = 0
              · subst hY0
                rw [Int.natCast_zero] at hby
                go_wp2
                go_roundw
                case rel => exact ⟨c + 1, κ + 1, H, _, ll, by go_num, rfl, by go_num, by omega, by omega, J0.out, J1.out, J2.out, by rw [hln]; exact HOW, by omega, HB.out⟩
                case measure => simp [intOf]; omega
              · obtain rfl : Y = 1 := by omega
                rw [Int.natCast_one] at hby
                by_cases hn0 : nl = 0
                · subst hn0
                  obtain ⟨v9, w9, hr9, ho9, hb9, -, -⟩ := HOW.out.app (P := Tryz.prog) (t := 94) (w := w3) (E := [.int .i64 (m : Int), .int .i64 (c : Int)]) (Below.refl _ _) Tryz.underlying94 legInfo (by omega) rfl (by simp [Value.oneCell']) (by omega) (by omega) (by omega)
                  obtain ⟨x3, n3, x4, rfl⟩ : ∃ a n c, v9 = .slice a n c := by rcases ho9.form with ⟨e, -⟩ | ⟨g, cap, e, -⟩ <;> exact ⟨_, _, _, e⟩
                  have M8 := J2.out.below hb9 (by omega)
                  have c9 := M8.cell 3
                  have f9 := M8.frozen 3
                  have MS := Lib.hid (M8.set 3 (.slice x3 n3 x4))
                  have P0 := Lib.hid ((J0.out.below hb9 (by omega)).setOther ⟨z, 3, none⟩ (.slice x3 n3 x4) (by simp; omega))
                  have P1 := Lib.hid ((J1.out.below hb9 (by omega)).setOther ⟨z, 3, none⟩ (.slice x3 n3 x4) (by simp; omega))
                  have HO9 := Lib.hid (show SOwn (w9.setCell ⟨z, 3, none⟩ (.slice x3 n3 x4)) (z + 1) 118 2 (.slice x3 n3 x4) (ll ++ [(⟨(m : Int), (c : Int)⟩ : Lg)]).length (fun j => (ix (ll ++ [(⟨(m : Int), (c : Int)⟩ : Lg)]) j).c) from by
                    rw [List.length_append, List.length_singleton, hln]
                    refine SOwn.congr (ho9.keepOwn fun b hb => heap_setCell_other _ _ _ _ (by have := (ho9.own_lt hb).1; simp; omega)) fun j hj => ?_
                    rw [ix_append, hln]
                    by_cases hjl : j < 0
                    · rw [if_pos hjl, if_pos hjl]
                    · rw [if_neg hjl, if_neg hjl, if_pos (by omega)]; rfl)
                  have HB9 := Lib.hid ((HB.out.trans (hb9.mono (by omega))).setCell (p := ⟨z, 3, none⟩) (by simp; omega) (.slice x3 n3 x4))
                  have HR9 := Lib.hid hr9
                  have hl5 : (ll ++ [(⟨(m : Int), (c : Int)⟩ : Lg)]).length ≤ 4 := by rw [List.length_append, List.length_singleton]; omega
                  have HL5 := Lib.hid hl5
                  clear hr9 ho9 hb9 M8 hl5
                  go_wp2_with (at_builtin; refine Lib.wpList_append_run _ rfl _ _ _ _ rfl _ _ rfl rfl _ _ (HR9.out _) ?_)
                  go_roundw
                  case rel => exact ⟨c + 1, κ + 1, ph, _, ll ++ [(⟨(m : Int), (c : Int)⟩ : Lg)], by go_num, rfl, by go_num, by omega, by omega, P0.out, P1.out, MS.out, HO9, HL5.out, HB9.out⟩
                  case measure => simp [intOf]; omega
                · have hn1 : ((nl : Int) == 0) = false := by simp; omega
                  have hn2 : ¬ (nl : Int) = 0 := by omega
                  by_cases hH : ph = H
                  · subst hH
                    obtain ⟨v9, w9, hr9, ho9, hb9, -, -⟩ := HOW.out.app (P := Tryz.prog) (t := 94) (w := w3) (E := [.int .i64 (m : Int), .int .i64 (c : Int)]) (Below.refl _ _) Tryz.underlying94 legInfo (by omega) rfl (by simp [Value.oneCell']) (by omega) (by omega) (by omega)
                    obtain ⟨x3, n3, x4, rfl⟩ : ∃ a n c, v9 = .slice a n c := by rcases ho9.form with ⟨e, -⟩ | ⟨g, cap, e, -⟩ <;> exact ⟨_, _, _, e⟩
                    have M8 := J2.out.below hb9 (by omega)
                    have c9 := M8.cell 3
                    have f9 := M8.frozen 3
                    have MS := Lib.hid (M8.set 3 (.slice x3 n3 x4))
                    have P0 := Lib.hid ((J0.out.below hb9 (by omega)).setOther ⟨z, 3, none⟩ (.slice x3 n3 x4) (by simp; omega))
                    have P1 := Lib.hid ((J1.out.below hb9 (by omega)).setOther ⟨z, 3, none⟩ (.slice x3 n3 x4) (by simp; omega))
                    have HO9 := Lib.hid (show SOwn (w9.setCell ⟨z, 3, none⟩ (.slice x3 n3 x4)) (z + 1) 118 2 (.slice x3 n3 x4) (ll ++ [(⟨(m : Int), (c : Int)⟩ : Lg)]).length (fun j => (ix (ll ++ [(⟨(m : Int), (c : Int)⟩ : Lg)]) j).c) from by
                      rw [List.length_append, List.length_singleton, hln]
                      refine SOwn.congr (ho9.keepOwn fun b hb => heap_setCell_other _ _ _ _ (by have := (ho9.own_lt hb).1; simp; omega)) fun j hj => ?_
                      rw [ix_append, hln]
                      by_cases hjl : j < nl
                      · rw [if_pos hjl, if_pos hjl]
                      · rw [if_neg hjl, if_neg hjl, if_pos (by omega)]; rfl)
                    have HB9 := Lib.hid ((HB.out.trans (hb9.mono (by omega))).setCell (p := ⟨z, 3, none⟩) (by simp; omega) (.slice x3 n3 x4))
                    have HR9 := Lib.hid hr9
                    have hl5 : (ll ++ [(⟨(m : Int), (c : Int)⟩ : Lg)]).length ≤ 4 := by rw [List.length_append, List.length_singleton]; omega
                    have HL5 := Lib.hid hl5
                    clear hr9 ho9 hb9 M8 hl5
                    go_wp2_with (at_builtin; refine Lib.wpList_append_run _ rfl _ _ _ _ rfl _ _ rfl rfl _ _ (HR9.out _) ?_)
                    go_roundw
                    case rel => exact ⟨c + 1, κ + 1, ph, _, ll ++ [(⟨(m : Int), (c : Int)⟩ : Lg)], by go_num, rfl, by go_num, by omega, by omega, P0.out, P1.out, MS.out, HO9, HL5.out, HB9.out⟩
                    case measure => simp [intOf]; omega
                  · have hH2 : (ph == H) = false := by simp [hH]
                    go_wp2
                    go_roundw
                    case rel => exact ⟨c + 1, κ + 1, H, _, ll, by go_num, rfl, by go_num, by omega, by omega, J0.out, J1.out, J2.out, by rw [hln]; exact HOW, by omega, HB.out⟩
                    case measure => simp [intOf]; omega
          · go_wp2
            go_roundw
            case rel => exact ⟨c + 1, κ, H, _, ll, rfl, rfl, by go_num, by omega, by omega, J0.out, J1.out, J2.out, HOW, hl4, HB.out⟩
            case measure => simp [intOf]; omega
        · obtain rfl : c = nc := by omega
          have hnl9 : decide ((c : Int) < (c : Int)) = false := by simp
          go_wp2
          go_roundw
          case rel => exact ⟨m + 1, κ, H, lv, ll, rfl, rfl, by go_num, by omega, by omega, J0.out, J1.out, J2.out, HOW, hl4, HB.out⟩
          case measure => simp [intOf]; omega
    · obtain rfl : m = ne := by omega
      have hnl9 : decide ((m : Int) < (m : Int)) = false := by simp
      have t1 : wr.cell? ⟨w.heap.size + 1, 1, none⟩ = some (.int .u16 (d1 : Int)) := K1.cell 1
      obtain ⟨la, lc, rfl⟩ : ∃ a cp, lv = .slice a ll.length cp := by rcases HOW.out.form with ⟨e, hn⟩ | ⟨g, cap, e, -⟩; exact ⟨none, 0, by rw [e, hn]⟩; exact ⟨_, _, e⟩
      have z3 : wr.cell? ⟨z, 3, none⟩ = some (.slice la ll.length lc) := K2.cell 3
      generalize hln : ll.length = nl at *
      clear K0 K1 K2 hown hbw k0 HTK HSE HEL HLC
      by_cases hod : d1 % 2 = 1
      · have ho1 : ((d1 : Int) % 2 == 1) = true := by simp; omega
        have ho2 : (d1 : Int) % 2 = 1 := by omega
        go_wp2_with fail
        refine wp_region_quiet_lit (by kernel_rfl) (by kernel_rfl) ?_
        repeat (first | go_big_quiet_skip | (refine wpQuiet_step (fun K hK => ?_); go_simp; (try simp (disch := omega) only [ar9]); (first | (refine hK _ ?_; clear hK K) | (simp (disch := omega) only [if_pos, dif_pos, if_neg, dif_neg, ar9]; go_simp; refine hK _ ?_; clear hK K))))
        refine wpQuiet_nil ?_
        intro _ hw9
        obtain ⟨nq, hw9⟩ := hw9
        subst hw9
        go_wp2_with fail
        clear z3 t1
        go_loopw [12, 13] (fun x12 x13 wr' => ∃ a b, ∃ ll : List Lg, x12 = .int .i64 (a : Nat) ∧ x13 = .int .i64 b ∧ -1 ≤ b ∧ b < nl ∧ a ≤ nl ∧ ll.length = nl ∧ Blk wr' w.heap.size #[.slice ae m ce, .slice ad nd cd] ∧ Blk wr' z #[.bool xn, .string xs, .string xd, .slice la nl lc] ∧ Hid (SOwn wr' (z + 1) 118 2 (.slice la nl lc) nl (fun j => (ix ll j).c)) ∧ Below w.heap.size w wr') (fun x _ _ => nl - (intOf x).toNat)
        case atStart => exact ⟨0, _, ll, rfl, rfl, by omega, by omega, by omega, hln, J0.out.block rfl, J2.out.block rfl, HOW.out.keepOwn fun _ _ => rfl, below_drewN HB.out _⟩
        case round =>
          clear J0 J1 J2 HOW HB hln hz2 hzb
          obtain ⟨a, b, ll, rfl, rfl, hb1, hb2, ha, hln, K0, K2, hown, hbw⟩ := hrel
          have J0 := Lib.hid K0
          have J2 := Lib.hid K2
          have HOW := Lib.hid hown.out
          have HB := Lib.hid hbw
          have hz2 := K2.lt
          have hzb := hbw.size
          by_cases hab : (a : Int) < b
          · obtain ⟨b, rfl⟩ := Int.eq_ofNat_of_zero_le (show 0 ≤ b by omega)
            obtain ⟨g, rfl, hgz, hgw, hrd⟩ : ∃ g, la = some ⟨g, 0, none⟩ ∧ z + 1 ≤ g ∧ g < wr.heap.size ∧ SReads wr g 0 2 nl (fun j => (ix ll j).c) := by
              rcases HOW.out.form with ⟨-, h0⟩ | ⟨g, cap, e, h1, -, -, h2, h3⟩
              · omega
              · simp only [Value.slice.injEq, true_and] at e; exact ⟨g, e.1, h1, h2, h3⟩
            have a0 := hrd a 0 (by omega) (by omega)
            have a1 := hrd a 1 (by omega) (by omega)
            have b0 := hrd b 0 (by omega) (by omega)
            have b1 := hrd b 1 (by omega) (by omega)
            rw [Nat.zero_add, Nat.add_zero] at a0 b0
            rw [Nat.zero_add] at a1 b1
            have a0' : wr.cell? ⟨g, a * 2, none⟩ = some (.int .i64 (ix ll a).e) := a0
            have a1' : wr.cell? ⟨g, a * 2 + 1, none⟩ = some (.int .i64 (ix ll a).k) := a1
            have b0' : wr.cell? ⟨g, b * 2, none⟩ = some (.int .i64 (ix ll b).e) := b0
            have b1' : wr.cell? ⟨g, b * 2 + 1, none⟩ = some (.int .i64 (ix ll b).k) := b1
            have s0 := exc_but_cell (K2.cell 3) (rfl : _ = z)
            have s1 := exc_but_cell a0' (rfl : _ = g)
            have s2 := exc_but_cell a1' (rfl : _ = g)
            have s3 := exc_but_cell b0' (rfl : _ = g)
            have s4 := exc_but_cell b1' (rfl : _ = g)
            have i1 : (0 : Int) ≤ (a : Int) := by omega
            have i2 : (a : Int) < (nl : Int) := by omega
            have i3 : (0 : Int) ≤ (b : Int) := by omega
            have i4 : (b : Int) < (nl : Int) := by omega
            have fz : ∀ j, wr.frozen? ⟨g, j, none⟩ = false := fun j => HOW.out.frozen j
            have fz0 := fz (a * 2)
            have fz1 := fz (a * 2 + 1)
            have fz2 := fz (b * 2)
            have fz3 := fz (b * 2 + 1)
            have HSW := Lib.hid (HOW.out.swap2 hln (show a < nl by omega) (show b < nl by omega))
            have HLN := Lib.hid (show ((ll.set a (ix ll b)).set b (ix ll a)).length = nl by simp [hln])
            have hne9 : a ≠ b := by omega
            clear K0 K2 hown hbw hrd a0 a1 b0 b1 fz
            generalize (ll.set a (ix ll b)).set b (ix ll a) = ll2 at *
            generalize (ix ll a).e = ae' at *
            generalize (ix ll a).k = ak' at *
            generalize (ix ll b).e = be' at *
            generalize (ix ll b).k = bk' at *
            go_wp2_with fail
            obtain ⟨S, hS⟩ : ∃ S : Nat → World → Prop, S = fun k => if k = 1 ∨ k = 4 ∨ k = 7 ∨ k = 12 then Exc wr (butB z) else if k = 10 ∨ k = 15 then Exc wr (butB g) else fun _ => True := ⟨_, rfl⟩
            have S0 : S 0 = fun _ => True := by subst hS; rfl
            have S1 : S 1 = Exc wr (butB z) := by subst hS; rfl
            have S2 : S 2 = fun _ => True := by subst hS; rfl
            have S3 : S 3 = fun _ => True := by subst hS; rfl
            have S4 : S 4 = Exc wr (butB z) := by subst hS; rfl
            have S5 : S 5 = fun _ => True := by subst hS; rfl
            have S6 : S 6 = fun _ => True := by subst hS; rfl
            have S7 : S 7 = Exc wr (butB z) := by subst hS; rfl
            have S8 : S 8 = fun _ => True := by subst hS; rfl
            have S9 : S 9 = fun _ => True := by subst hS; rfl
            have S10 : S 10 = Exc wr (butB g) := by subst hS; rfl
            have S11 : S 11 = fun _ => True := by subst hS; rfl
            have S12 : S 12 = Exc wr (butB z) := by subst hS; rfl
            have S13 : S 13 = fun _ => True := by subst hS; rfl
            have S14 : S 14 = fun _ => True := by subst hS; rfl
            have S15 : S 15 = Exc wr (butB g) := by subst hS; rfl
            have S16 : S 16 = fun _ => True := by subst hS; rfl
            have S18 : S 18 = fun _ => True := by subst hS; rfl
            have hSK : ∀ k, k ∉ [1, 4, 7, 10, 12, 15] → ∀ w, S k w := fun k hk w => by subst hS; simp at hk; simp [hk]
            have hSW : ∀ k, S k wr.drew := fun k => by
              subst hS
              by_cases h1 : k = 1 ∨ k = 4 ∨ k = 7 ∨ k = 12
              · simp only [if_pos h1]; exact exc_but rfl rfl rfl (Nat.le_refl _) rfl
              · by_cases h2 : k = 10 ∨ k = 15
                · simp only [if_neg h1, if_pos h2]; exact exc_but rfl rfl rfl (Nat.le_refl _) rfl
                · simp only [if_neg h1, if_neg h2]
            have hSZ : ∀ k, k ∈ [1, 4, 7, 12] → S k = Exc wr (butB z) := fun k hk => by subst hS; simp at hk; simp only [if_pos hk]
            clear hS
            have HSZ := Lib.hid hSZ
            refine wp_region_segsN S [17, 19] [1, 4, 7, 10, 12, 15] [([0, 1, 2, 3, 4, 5, 6, 7, 8, 9, 10, 11, 12, 13, 14, 15, 16], 17, [1, 4, 7, 12]), ([18], 19, [])] [] (by kernel_rfl) (by kernel_rfl) (by kernel_rfl) (by kernel_rfl) hSK hSW ?_
            clear hSZ
            refine wpSegsN_cons ?_
            repeat (refine wpQS_cons ?_; simp only [getOps, gl9]; (try simp only [S0, S1, S2, S3, S4, S5, S6, S7, S8, S9, S10, S11, S12, S13, S14, S15, S16]); (first | go_big_quiet_skip | (refine wpQuiet_step (fun K hK => ?_); go_simp; (try simp (disch := omega) only [ar9]); (first | (refine hK _ ?_; clear hK K) | (simp (disch := omega) only [if_pos, dif_pos, if_neg, dif_neg, ar9]; go_simp; refine hK _ ?_; clear hK K)))); refine wpQuiet_nil ?_)
            with_reducible refine wpQS_nil ?_
            (try simp only [getOps, gl9])
            go_step
            rename_i K9 hK9
            refine hK9 _ _ ?_
            clear hK9 K9
            refine segQ_normal ⟨fun k hk => by
              rw [HSZ.out k hk]
              refine exc_but rfl rfl rfl (by simp) ?_
              show ((wr.setCell ⟨g, a * 2, none⟩ _).setCell ⟨g, a * 2 + 1, none⟩ _).heap[z]? = _
              rw [heap_setCell_other _ _ _ _ (by simp; omega), heap_setCell_other _ _ _ _ (by simp; omega)], ?_⟩
            refine wpSegsN_cons ?_
            repeat (refine wpQS_cons ?_; simp only [getOps, gl9]; (try simp only [S18]); (first | go_big_quiet_skip | (refine wpQuiet_step (fun K hK => ?_); go_simp; (try simp (disch := omega) only [ar9]); (first | (refine hK _ ?_; clear hK K) | (simp (disch := omega) only [if_pos, dif_pos, if_neg, dif_neg, ar9]; go_simp; refine hK _ ?_; clear hK K)))); refine wpQuiet_nil ?_)
            with_reducible refine wpQS_nil ?_
            (try simp only [getOps, gl9])
            go_step
            rename_i K9 hK9
            refine hK9 _ _ ?_
            clear hK9 K9
            refine segQ_normal ⟨fun k hk => by simp at hk, ?_⟩
            refine wpSegsN_nil ?_
            repeat (refine wpQS_cons ?_; simp only [getOps, gl9]; (first | go_big_quiet_skip | (refine wpQuiet_step (fun K hK => ?_); go_simp; (try simp (disch := omega) only [ar9]); (first | (refine hK _ ?_; clear hK K) | (simp (disch := omega) only [if_pos, dif_pos, if_neg, dif_neg, ar9]; go_simp; refine hK _ ?_; clear hK K)))); refine wpQuiet_nil ?_)
            with_reducible refine wpQS_nil ?_
            go_wp2
            go_roundw
            case rel =>
              refine ⟨a + 1, (b : Int) - 1, ll2, by go_num, by go_num, by omega, by omega, by omega, HLN.out, ?_, ?_, ?_, ?_⟩
              · exact ((((J0.out.setOther ⟨g, a * 2, none⟩ _ (by simp; omega)).setOther ⟨g, a * 2 + 1, none⟩ _ (by simp; omega)).setOther ⟨g, b * 2, none⟩ _ (by simp; omega)).setOther ⟨g, b * 2 + 1, none⟩ _ (by simp; omega)).block rfl
              · exact ((((J2.out.setOther ⟨g, a * 2, none⟩ _ (by simp; omega)).setOther ⟨g, a * 2 + 1, none⟩ _ (by simp; omega)).setOther ⟨g, b * 2, none⟩ _ (by simp; omega)).setOther ⟨g, b * 2 + 1, none⟩ _ (by simp; omega)).block rfl
              · exact HSW.out.keepOwn fun _ _ => rfl
              · exact ((((HB.out.setCell (p := ⟨g, a * 2, none⟩) (by simp; omega) _).setCell (p := ⟨g, a * 2 + 1, none⟩) (by simp; omega) _).setCell (p := ⟨g, b * 2, none⟩) (by simp; omega) _).setCell (p := ⟨g, b * 2 + 1, none⟩) (by simp; omega) _).drew
            case measure => simp [intOf]; omega
          · have hab2 : decide ((a : Int) < b) = false := by simp; omega
            have hFAC : Blk wr w.heap.size #[.slice ae m ce, .slice ad nd cd] ∧ Blk wr z #[.bool xn, .string xs, .string xd, .slice la nl lc] := ⟨K0, K2⟩
            clear K0 K2 hown hbw J0 J2
            obtain ⟨K0, K2⟩ := hFAC
            have hzb := HB.out.size
            have hz2 := K2.lt
            have hz0 := K0.lt
            go_wp2_with fail
            obtain ⟨V, rfl⟩ : ∃ V, V = wr := ⟨wr, rfl⟩
            obtain ⟨GD, hSD, hQD⟩ := HDG.out
            have s1 := exc_cell (B := V.heap.size) (K0.cell 1) (show w.heap.size < V.heap.size by omega)
            have s3a := exc_cell (B := V.heap.size) (K2.cell 0) hz2
            have s3b := exc_cell (B := V.heap.size) (K2.cell 1) hz2
            have s3c := exc_cell (B := V.heap.size) (K2.cell 2) hz2
            have s3d := exc_cell (B := V.heap.size) (K2.cell 3) hz2
            obtain ⟨S, hS⟩ : ∃ S : Nat → World → Prop, S = fun k => if k = 1 ∨ k = 3 then Exc V (fromB V.heap.size) else fun _ => True := ⟨_, rfl⟩
            have S0 : S 0 = fun _ => True := by subst hS; rfl
            have S1 : S 1 = Exc V (fromB V.heap.size) := by subst hS; rfl
            have S3 : S 3 = Exc V (fromB V.heap.size) := by subst hS; rfl
            have S6 : S 6 = fun _ => True := by subst hS; rfl
            have hSK : ∀ k, k ∉ [1, 3] → ∀ w, S k w := fun k hk w => by subst hS; simp at hk; simp [hk]
            have hSX : ∀ k W', Below V.heap.size V W' → S k W' := fun k W' h => by
              subst hS
              by_cases h1 : k = 1 ∨ k = 3
              · simp only [if_pos h1]; exact exc_below h
              · simp only [if_neg h1]
            clear hS
            have HSX := Lib.hid hSX
            -- one order: the copy first
            obtain ⟨v1, w1', hr1, ho1', hb1'⟩ := append_sl (P := Tryz.prog) (w := V.drew) (t := 57) (base := V.heap.size) (v := .slice none 0 0) (n := 0) (F := fun _ => []) Tryz.underlying57 dbtInfo (by omega) (SOwn.nil _ _ _ _ _) (hSD.keep (w' := V.drew) fun b hb hl => HB.out.block b hl) (fun i hi u hu => by obtain ⟨tv0, hg, hR⟩ := hQD i hi; rw [hg] at hu; obtain ⟨x, y, h, -, -⟩ := hR.plain.form; subst h; simp at hu; rcases hu with rfl | rfl | rfl | rfl <;> rfl) (by omega) (by omega) (Nat.le_refl _)
            rw [Nat.zero_add] at ho1'
            have ho1 : SOwn w1' V.heap.size 96 4 v1 dl.length GD := ho1'.congr fun i hi => by simp
            obtain ⟨x1, n1, x2, rfl⟩ : ∃ a n c, v1 = .slice a n c := by rcases ho1.form with ⟨e, -⟩ | ⟨g, cap, e, -⟩ <;> exact ⟨_, _, _, e⟩
            obtain ⟨v2, w2', hr2, ho2, hb2', -, -⟩ := ho1.app (P := Tryz.prog) (t := 57) (w := w1') (E := [.bool xn, .string xs, .string xd, .slice la nl lc]) (Below.refl _ _) Tryz.underlying57 dbtInfo (by omega) rfl (by simp [Value.oneCell']) (by omega) (by omega) (by have := hb1'.size; exact this)
            obtain ⟨x3, n3, x4, rfl⟩ : ∃ a n c, v2 = .slice a n c := by rcases ho2.form with ⟨e, -⟩ | ⟨g, cap, e, -⟩ <;> exact ⟨_, _, _, e⟩
            have hbV1 : Below V.heap.size V w1' := (Below.refl V.heap.size V).drew.trans hb1'
            have hbV2 : Below V.heap.size V w2' := hbV1.trans hb2'
            have HRES := Lib.hid (show RetDs w p dl (.returned (.slice x3 n3 x4)) w2' from ⟨_, ⟨⟨xn, xs, xd⟩, ll⟩, rfl,
              dbts_more (x := ⟨xn, xs, xd⟩) (ll := ll) (B := z + 1) (HB.out.trans (hbV2.mono (by omega))) ho2 (by omega) (fun j hj => if_pos hj) (if_neg (by omega)) hQD (by rw [hln]; exact HOW.out.on hbV2) (by omega), HFX.out, (show ll.length ≤ 4 by omega), HB.out.trans (hbV2.mono (by omega))⟩)
            have HR1 := Lib.hid hr1
            have HR2 := Lib.hid hr2
            have HV1 := Lib.hid hbV1
            have hv1 := hbV1.size
            -- the other: the box of the new debt first
            obtain ⟨v3, w3', hr3, ho3', hb3'⟩ := append_sl (P := Tryz.prog) (w := V.drew.alloc (.cells #[.bool xn, .string xs, .string xd, .slice la nl lc] 96)) (t := 57) (base := V.heap.size + 1) (v := .slice none 0 0) (n := 0) (F := fun _ => []) Tryz.underlying57 dbtInfo (by omega) (SOwn.nil _ _ _ _ _) (hSD.keep (w' := V.drew.alloc (.cells #[.bool xn, .string xs, .string xd, .slice la nl lc] 96)) fun b hb hl => (Below.heap_alloc V.drew _ b (Nat.lt_of_lt_of_le hl hzb)).trans (HB.out.block b hl)) (fun i hi u hu => by obtain ⟨tv0, hg, hR⟩ := hQD i hi; rw [hg] at hu; obtain ⟨x, y, h, -, -⟩ := hR.plain.form; subst h; simp at hu; rcases hu with rfl | rfl | rfl | rfl <;> rfl) (by omega) (by omega) (by simp)
            rw [Nat.zero_add] at ho3'
            have ho3 : SOwn w3' (V.heap.size + 1) 96 4 v3 dl.length GD := ho3'.congr fun i hi => by simp
            obtain ⟨y1, m1, y2, rfl⟩ : ∃ a n c, v3 = .slice a n c := by rcases ho3.form with ⟨e, -⟩ | ⟨g, cap, e, -⟩ <;> exact ⟨_, _, _, e⟩
            have hbA : Below V.heap.size V (V.drew.alloc (.cells #[.bool xn, .string xs, .string xd, .slice la nl lc] 96)) := (Below.refl V.heap.size V).drew.alloc (Nat.le_refl _) _
            obtain ⟨v4, w4', hr4, ho4, hb4'⟩ := append_one (P := Tryz.prog) (x := V.heap.size) (t := 57) (E := [.bool xn, .string xs, .string xd, .slice la nl lc]) ho3 Tryz.underlying57 dbtInfo (by omega) rfl (by simp [Value.oneCell'])
              (by rw [hb3'.block V.heap.size (by omega)]; exact heap_alloc_new V.drew _) (by omega) (by omega) (by have := hb3'.size; simp at this; omega)
            obtain ⟨y3, m3, y4, rfl⟩ : ∃ a n c, v4 = .slice a n c := by rcases ho4.form with ⟨e, -⟩ | ⟨g, cap, e, -⟩ <;> exact ⟨_, _, _, e⟩
            have hbV3 : Below V.heap.size V w3' := hbA.trans (hb3'.mono (by omega))
            have hbV4 : Below V.heap.size V w4' := hbV3.trans (hb4'.mono (by omega))
            have HRES2 := Lib.hid (show RetDs w p dl (.returned (.slice y3 m3 y4)) w4' from ⟨_, ⟨⟨xn, xs, xd⟩, ll⟩, rfl,
              dbts_more (x := ⟨xn, xs, xd⟩) (ll := ll) (B := z + 1) (HB.out.trans (hbV4.mono (by omega))) ho4 (by omega) (fun j hj => if_pos hj) (if_neg (by omega)) hQD (by rw [hln]; exact HOW.out.on hbV4) (by omega), HFX.out, (show ll.length ≤ 4 by omega), HB.out.trans (hbV4.mono (by omega))⟩)
            have HR3 := Lib.hid (show ∀ ty, (Builtin.append_ #[57, 57] ty #[.slice none 0 0, .slice ad nd cd]).run Tryz.prog ((V.alloc (.cells #[.bool xn, .string xs, .string xd, .slice la nl lc] 96)).drew) = .ok (.slice y1 m1 y2) w3' from hr3)
            have HR4 := Lib.hid hr4
            have HV3 := Lib.hid hbV3
            have HVA := Lib.hid (show Below V.heap.size V ((V.alloc (.cells #[.bool xn, .string xs, .string xd, .slice la nl lc] 96)).drew) from ((Below.refl _ _).alloc (Nat.le_refl _) _).drew)
            clear hr1 hr2 hr3 hr4 ho1 ho1' ho2 ho3 ho3' ho4 hb1' hb2' hb3' hb4' hbV1 hbV2 hbV3 hbV4 hbA hSD hQD K0 K2 HOW HB HDG
            refine wp_region_nt S [2, 4, 5] [1, 3] (.two [0, 1, 3] 2 [3] (.one [] 4 [] (.one [] 5 [] (.fin [6]))) 4 [1] (.one [] 2 [] (.one [] 5 [] (.fin [6])))) (by kernel_rfl) (by kernel_rfl) (by kernel_rfl) (by kernel_rfl) hSK (fun k => hSX k _ (Below.refl _ _).drew) ?_
            clear hSX
            refine wpNT_two ?_
            repeat (refine wpQS_cons ?_; simp only [getOps, gl9]; (try simp only [S0, S1, S3]); (first | go_big_quiet_skip | (refine wpQuiet_step (fun K hK => ?_); go_simp; (try simp (disch := omega) only [ar9]); (first | (refine hK _ ?_; clear hK K) | (simp (disch := omega) only [if_pos, dif_pos, if_neg, dif_neg, ar9]; go_simp; refine hK _ ?_; clear hK K)))); refine wpQuiet_nil ?_)
            with_reducible refine wpQS_nil ?_
            (try simp only [getOps, gl9])
            refine ⟨?_, ?_⟩
            · clear HR3 HR4
              refine Lib.wpList_append_run _ rfl _ _ _ _ rfl _ _ rfl rfl _ _ (HR1.out _) ?_
              refine segQ_normal ⟨fun k hk => HSX.out k _ HV1.out, ?_⟩
              refine wpNT_one ?_
              repeat (refine wpQS_cons ?_; simp only [getOps, gl9]; (first | go_big_quiet_skip | (refine wpQuiet_step (fun K hK => ?_); go_simp; (try simp (disch := omega) only [ar9]); (first | (refine hK _ ?_; clear hK K) | (simp (disch := omega) only [if_pos, dif_pos, if_neg, dif_neg, ar9]; go_simp; refine hK _ ?_; clear hK K)))); refine wpQuiet_nil ?_)
              with_reducible refine wpQS_nil ?_
              (try simp only [getOps, gl9])
              go_step
              rename_i K9 hK9
              refine hK9 _ _ ?_
              clear hK9 K9
              refine segQ_normal ⟨fun k hk => by simp at hk, ?_⟩
              refine wpNT_one ?_
              repeat (refine wpQS_cons ?_; simp only [getOps, gl9]; (first | go_big_quiet_skip | (refine wpQuiet_step (fun K hK => ?_); go_simp; (try simp (disch := omega) only [ar9]); (first | (refine hK _ ?_; clear hK K) | (simp (disch := omega) only [if_pos, dif_pos, if_neg, dif_neg, ar9]; go_simp; refine hK _ ?_; clear hK K)))); refine wpQuiet_nil ?_)
              with_reducible refine wpQS_nil ?_
              (try simp only [getOps, gl9])
              refine Lib.wpList_append_run _ rfl _ _ _ _ rfl _ _ rfl rfl _ _ (HR2.out _) ?_
              refine segQ_normal ⟨fun k hk => by simp at hk, ?_⟩
              refine wpNT_fin ?_
              repeat (refine wpQS_cons ?_; simp only [getOps, gl9]; (try simp only [S6]); (first | go_big_quiet_skip | (refine wpQuiet_step (fun K hK => ?_); go_simp; (try simp (disch := omega) only [ar9]); (first | (refine hK _ ?_; clear hK K) | (simp (disch := omega) only [if_pos, dif_pos, if_neg, dif_neg, ar9]; go_simp; refine hK _ ?_; clear hK K)))); refine wpQuiet_nil ?_)
              with_reducible refine wpQS_nil ?_
              go_wp2
              go_ret
              exact HRES.out
            · clear HR1 HR2
              go_step
              rename_i K9 hK9
              refine hK9 _ _ ?_
              clear hK9 K9
              refine segQ_normal ⟨fun k hk => HSX.out k _ HVA.out, ?_⟩
              refine wpNT_one ?_
              repeat (refine wpQS_cons ?_; simp only [getOps, gl9]; (first | go_big_quiet_skip | (refine wpQuiet_step (fun K hK => ?_); go_simp; (try simp (disch := omega) only [ar9]); (first | (refine hK _ ?_; clear hK K) | (simp (disch := omega) only [if_pos, dif_pos, if_neg, dif_neg, ar9]; go_simp; refine hK _ ?_; clear hK K)))); refine wpQuiet_nil ?_)
              with_reducible refine wpQS_nil ?_
              (try simp only [getOps, gl9])
              refine Lib.wpList_append_run _ rfl _ _ _ _ rfl _ _ rfl rfl _ _ (HR3.out _) ?_
              refine segQ_normal ⟨fun k hk => by simp at hk, ?_⟩
              refine wpNT_one ?_
              repeat (refine wpQS_cons ?_; simp only [getOps, gl9]; (first | go_big_quiet_skip | (refine wpQuiet_step (fun K hK => ?_); go_simp; (try simp (disch := omega) only [ar9]); (first | (refine hK _ ?_; clear hK K) | (simp (disch := omega) only [if_pos, dif_pos, if_neg, dif_neg, ar9]; go_simp; refine hK _ ?_; clear hK K)))); refine wpQuiet_nil ?_)
              with_reducible refine wpQS_nil ?_
              (try simp only [getOps, gl9])
              refine Lib.wpList_append_run _ rfl _ _ _ _ rfl _ _ rfl rfl _ _ (HR4.out _) ?_
              refine segQ_normal ⟨fun k hk => by simp at hk, ?_⟩
              refine wpNT_fin ?_
              repeat (refine wpQS_cons ?_; simp only [getOps, gl9]; (try simp only [S6]); (first | go_big_quiet_skip | (refine wpQuiet_step (fun K hK => ?_); go_simp; (try simp (disch := omega) only [ar9]); (first | (refine hK _ ?_; clear hK K) | (simp (disch := omega) only [if_pos, dif_pos, if_neg, dif_neg, ar9]; go_simp; refine hK _ ?_; clear hK K)))); refine wpQuiet_nil ?_)
              with_reducible refine wpQS_nil ?_
              go_wp2
              go_ret
              exact HRES2.out
      · have ho1 : ((d1 : Int) % 2 == 1) = false := by simp; omega
        have ho2 : ¬ (d1 : Int) % 2 = 1 := by omega
        have hFAC : Blk wr w.heap.size #[.slice ae m ce, .slice ad nd cd] ∧ Blk wr z #[.bool xn, .string xs, .string xd, .slice la nl lc] := ⟨J0.out, J2.out⟩
        clear z3 J0 J1 J2
        obtain ⟨K0, K2⟩ := hFAC
        have hzb := HB.out.size
        have hz2 := K2.lt
        have hz0 := K0.lt
        go_wp2_with fail
        obtain ⟨V, rfl⟩ : ∃ V, V = wr := ⟨wr, rfl⟩
        obtain ⟨GD, hSD, hQD⟩ := HDG.out
        have s1 := exc_cell (B := V.heap.size) (K0.cell 1) (show w.heap.size < V.heap.size by omega)
        have s3a := exc_cell (B := V.heap.size) (K2.cell 0) hz2
        have s3b := exc_cell (B := V.heap.size) (K2.cell 1) hz2
        have s3c := exc_cell (B := V.heap.size) (K2.cell 2) hz2
        have s3d := exc_cell (B := V.heap.size) (K2.cell 3) hz2
        obtain ⟨S, hS⟩ : ∃ S : Nat → World → Prop, S = fun k => if k = 1 ∨ k = 3 then Exc V (fromB V.heap.size) else fun _ => True := ⟨_, rfl⟩
        have S0 : S 0 = fun _ => True := by subst hS; rfl
        have S1 : S 1 = Exc V (fromB V.heap.size) := by subst hS; rfl
        have S3 : S 3 = Exc V (fromB V.heap.size) := by subst hS; rfl
        have S6 : S 6 = fun _ => True := by subst hS; rfl
        have hSK : ∀ k, k ∉ [1, 3] → ∀ w, S k w := fun k hk w => by subst hS; simp at hk; simp [hk]
        have hSX : ∀ k W', Below V.heap.size V W' → S k W' := fun k W' h => by
          subst hS
          by_cases h1 : k = 1 ∨ k = 3
          · simp only [if_pos h1]; exact exc_below h
          · simp only [if_neg h1]
        clear hS
        have HSX := Lib.hid hSX
        -- one order: the copy first
        obtain ⟨v1, w1', hr1, ho1', hb1'⟩ := append_sl (P := Tryz.prog) (w := V.drew) (t := 57) (base := V.heap.size) (v := .slice none 0 0) (n := 0) (F := fun _ => []) Tryz.underlying57 dbtInfo (by omega) (SOwn.nil _ _ _ _ _) (hSD.keep (w' := V.drew) fun b hb hl => HB.out.block b hl) (fun i hi u hu => by obtain ⟨tv0, hg, hR⟩ := hQD i hi; rw [hg] at hu; obtain ⟨x, y, h, -, -⟩ := hR.plain.form; subst h; simp at hu; rcases hu with rfl | rfl | rfl | rfl <;> rfl) (by omega) (by omega) (Nat.le_refl _)
        rw [Nat.zero_add] at ho1'
        have ho1 : SOwn w1' V.heap.size 96 4 v1 dl.length GD := ho1'.congr fun i hi => by simp
        obtain ⟨x1, n1, x2, rfl⟩ : ∃ a n c, v1 = .slice a n c := by rcases ho1.form with ⟨e, -⟩ | ⟨g, cap, e, -⟩ <;> exact ⟨_, _, _, e⟩
        obtain ⟨v2, w2', hr2, ho2, hb2', -, -⟩ := ho1.app (P := Tryz.prog) (t := 57) (w := w1') (E := [.bool xn, .string xs, .string xd, .slice la nl lc]) (Below.refl _ _) Tryz.underlying57 dbtInfo (by omega) rfl (by simp [Value.oneCell']) (by omega) (by omega) (by have := hb1'.size; exact this)
        obtain ⟨x3, n3, x4, rfl⟩ : ∃ a n c, v2 = .slice a n c := by rcases ho2.form with ⟨e, -⟩ | ⟨g, cap, e, -⟩ <;> exact ⟨_, _, _, e⟩
        have hbV1 : Below V.heap.size V w1' := (Below.refl V.heap.size V).drew.trans hb1'
        have hbV2 : Below V.heap.size V w2' := hbV1.trans hb2'
        have HRES := Lib.hid (show RetDs w p dl (.returned (.slice x3 n3 x4)) w2' from ⟨_, ⟨⟨xn, xs, xd⟩, ll⟩, rfl,
          dbts_more (x := ⟨xn, xs, xd⟩) (ll := ll) (B := z + 1) (HB.out.trans (hbV2.mono (by omega))) ho2 (by omega) (fun j hj => if_pos hj) (if_neg (by omega)) hQD (by rw [hln]; exact HOW.out.on hbV2) (by omega), HFX.out, (show ll.length ≤ 4 by omega), HB.out.trans (hbV2.mono (by omega))⟩)
        have HR1 := Lib.hid hr1
        have HR2 := Lib.hid hr2
        have HV1 := Lib.hid hbV1
        have hv1 := hbV1.size
        -- the other: the box of the new debt first
        obtain ⟨v3, w3', hr3, ho3', hb3'⟩ := append_sl (P := Tryz.prog) (w := V.drew.alloc (.cells #[.bool xn, .string xs, .string xd, .slice la nl lc] 96)) (t := 57) (base := V.heap.size + 1) (v := .slice none 0 0) (n := 0) (F := fun _ => []) Tryz.underlying57 dbtInfo (by omega) (SOwn.nil _ _ _ _ _) (hSD.keep (w' := V.drew.alloc (.cells #[.bool xn, .string xs, .string xd, .slice la nl lc] 96)) fun b hb hl => (Below.heap_alloc V.drew _ b (Nat.lt_of_lt_of_le hl hzb)).trans (HB.out.block b hl)) (fun i hi u hu => by obtain ⟨tv0, hg, hR⟩ := hQD i hi; rw [hg] at hu; obtain ⟨x, y, h, -, -⟩ := hR.plain.form; subst h; simp at hu; rcases hu with rfl | rfl | rfl | rfl <;> rfl) (by omega) (by omega) (by simp)
        rw [Nat.zero_add] at ho3'
        have ho3 : SOwn w3' (V.heap.size + 1) 96 4 v3 dl.length GD := ho3'.congr fun i hi => by simp
        obtain ⟨y1, m1, y2, rfl⟩ : ∃ a n c, v3 = .slice a n c := by rcases ho3.form with ⟨e, -⟩ | ⟨g, cap, e, -⟩ <;> exact ⟨_, _, _, e⟩
        have hbA : Below V.heap.size V (V.drew.alloc (.cells #[.bool xn, .string xs, .string xd, .slice la nl lc] 96)) := (Below.refl V.heap.size V).drew.alloc (Nat.le_refl _) _
        obtain ⟨v4, w4', hr4, ho4, hb4'⟩ := append_one (P := Tryz.prog) (x := V.heap.size) (t := 57) (E := [.bool xn, .string xs, .string xd, .slice la nl lc]) ho3 Tryz.underlying57 dbtInfo (by omega) rfl (by simp [Value.oneCell'])
          (by rw [hb3'.block V.heap.size (by omega)]; exact heap_alloc_new V.drew _) (by omega) (by omega) (by have := hb3'.size; simp at this; omega)
        obtain ⟨y3, m3, y4, rfl⟩ : ∃ a n c, v4 = .slice a n c := by rcases ho4.form with ⟨e, -⟩ | ⟨g, cap, e, -⟩ <;> exact ⟨_, _, _, e⟩
        have hbV3 : Below V.heap.size V w3' := hbA.trans (hb3'.mono (by omega))
        have hbV4 : Below V.heap.size V w4' := hbV3.trans (hb4'.mono (by omega))
        have HRES2 := Lib.hid (show RetDs w p dl (.returned (.slice y3 m3 y4)) w4' from ⟨_, ⟨⟨xn, xs, xd⟩, ll⟩, rfl,
          dbts_more (x := ⟨xn, xs, xd⟩) (ll := ll) (B := z + 1) (HB.out.trans (hbV4.mono (by omega))) ho4 (by omega) (fun j hj => if_pos hj) (if_neg (by omega)) hQD (by rw [hln]; exact HOW.out.on hbV4) (by omega), HFX.out, (show ll.length ≤ 4 by omega), HB.out.trans (hbV4.mono (by omega))⟩)
        have HR3 := Lib.hid (show ∀ ty, (Builtin.append_ #[57, 57] ty #[.slice none 0 0, .slice ad nd cd]).run Tryz.prog ((V.alloc (.cells #[.bool xn, .string xs, .string xd, .slice la nl lc] 96)).drew) = .ok (.slice y1 m1 y2) w3' from hr3)
        have HR4 := Lib.hid hr4
        have HV3 := Lib.hid hbV3
        have HVA := Lib.hid (show Below V.heap.size V ((V.alloc (.cells #[.bool xn, .string xs, .string xd, .slice la nl lc] 96)).drew) from ((Below.refl _ _).alloc (Nat.le_refl _) _).drew)
        clear hr1 hr2 hr3 hr4 ho1 ho1' ho2 ho3 ho3' ho4 hb1' hb2' hb3' hb4' hbV1 hbV2 hbV3 hbV4 hbA hSD hQD K0 K2 HOW HB HDG
        refine wp_region_nt S [2, 4, 5] [1, 3] (.two [0, 1, 3] 2 [3] (.one [] 4 [] (.one [] 5 [] (.fin [6]))) 4 [1] (.one [] 2 [] (.one [] 5 [] (.fin [6])))) (by kernel_rfl) (by kernel_rfl) (by kernel_rfl) (by kernel_rfl) hSK (fun k => hSX k _ (Below.refl _ _).drew) ?_
        clear hSX
        refine wpNT_two ?_
        repeat (refine wpQS_cons ?_; simp only [getOps, gl9]; (try simp only [S0, S1, S3]); (first | go_big_quiet_skip | (refine wpQuiet_step (fun K hK => ?_); go_simp; (try simp (disch := omega) only [ar9]); (first | (refine hK _ ?_; clear hK K) | (simp (disch := omega) only [if_pos, dif_pos, if_neg, dif_neg, ar9]; go_simp; refine hK _ ?_; clear hK K)))); refine wpQuiet_nil ?_)
        with_reducible refine wpQS_nil ?_
        (try simp only [getOps, gl9])
        refine ⟨?_, ?_⟩
        · clear HR3 HR4
          refine Lib.wpList_append_run _ rfl _ _ _ _ rfl _ _ rfl rfl _ _ (HR1.out _) ?_
          refine segQ_normal ⟨fun k hk => HSX.out k _ HV1.out, ?_⟩
          refine wpNT_one ?_
          repeat (refine wpQS_cons ?_; simp only [getOps, gl9]; (first | go_big_quiet_skip | (refine wpQuiet_step (fun K hK => ?_); go_simp; (try simp (disch := omega) only [ar9]); (first | (refine hK _ ?_; clear hK K) | (simp (disch := omega) only [if_pos, dif_pos, if_neg, dif_neg, ar9]; go_simp; refine hK _ ?_; clear hK K)))); refine wpQuiet_nil ?_)
          with_reducible refine wpQS_nil ?_
          (try simp only [getOps, gl9])
          go_step
          rename_i K9 hK9
          refine hK9 _ _ ?_
          clear hK9 K9
          refine segQ_normal ⟨fun k hk => by simp at hk, ?_⟩
          refine wpNT_one ?_
          repeat (refine wpQS_cons ?_; simp only [getOps, gl9]; (first | go_big_quiet_skip | (refine wpQuiet_step (fun K hK => ?_); go_simp; (try simp (disch := omega) only [ar9]); (first | (refine hK _ ?_; clear hK K) | (simp (disch := omega) only [if_pos, dif_pos, if_neg, dif_neg, ar9]; go_simp; refine hK _ ?_; clear hK K)))); refine wpQuiet_nil ?_)
          with_reducible refine wpQS_nil ?_
          (try simp only [getOps, gl9])
          refine Lib.wpList_append_run _ rfl _ _ _ _ rfl _ _ rfl rfl _ _ (HR2.out _) ?_
          refine segQ_normal ⟨fun k hk => by simp at hk, ?_⟩
          refine wpNT_fin ?_
          repeat (refine wpQS_cons ?_; simp only [getOps, gl9]; (try simp only [S6]); (first | go_big_quiet_skip | (refine wpQuiet_step (fun K hK => ?_); go_simp; (try simp (disch := omega) only [ar9]); (first | (refine hK _ ?_; clear hK K) | (simp (disch := omega) only [if_pos, dif_pos, if_neg, dif_neg, ar9]; go_simp; refine hK _ ?_; clear hK K)))); refine wpQuiet_nil ?_)
          with_reducible refine wpQS_nil ?_
          go_wp2
          go_ret
          exact HRES.out
        · clear HR1 HR2
          go_step
          rename_i K9 hK9
          refine hK9 _ _ ?_
          clear hK9 K9
          refine segQ_normal ⟨fun k hk => HSX.out k _ HVA.out, ?_⟩
          refine wpNT_one ?_
          repeat (refine wpQS_cons ?_; simp only [getOps, gl9]; (first | go_big_quiet_skip | (refine wpQuiet_step (fun K hK => ?_); go_simp; (try simp (disch := omega) only [ar9]); (first | (refine hK _ ?_; clear hK K) | (simp (disch := omega) only [if_pos, dif_pos, if_neg, dif_neg, ar9]; go_simp; refine hK _ ?_; clear hK K)))); refine wpQuiet_nil ?_)
          with_reducible refine wpQS_nil ?_
          (try simp only [getOps, gl9])
          refine Lib.wpList_append_run _ rfl _ _ _ _ rfl _ _ rfl rfl _ _ (HR3.out _) ?_
          refine segQ_normal ⟨fun k hk => by simp at hk, ?_⟩
          refine wpNT_one ?_
          repeat (refine wpQS_cons ?_; simp only [getOps, gl9]; (first | go_big_quiet_skip | (refine wpQuiet_step (fun K hK => ?_); go_simp; (try simp (disch := omega) only [ar9]); (first | (refine hK _ ?_; clear hK K) | (simp (disch := omega) only [if_pos, dif_pos, if_neg, dif_neg, ar9]; go_simp; refine hK _ ?_; clear hK K)))); refine wpQuiet_nil ?_)
          with_reducible refine wpQS_nil ?_
          (try simp only [getOps, gl9])
          refine Lib.wpList_append_run _ rfl _ _ _ _ rfl _ _ rfl rfl _ _ (HR4.out _) ?_
          refine segQ_normal ⟨fun k hk => by simp at hk, ?_⟩
          refine wpNT_fin ?_
          repeat (refine wpQS_cons ?_; simp only [getOps, gl9]; (try simp only [S6]); (first | go_big_quiet_skip | (refine wpQuiet_step (fun K hK => ?_); go_simp; (try simp (disch := omega) only [ar9]); (first | (refine hK _ ?_; clear hK K) | (simp (disch := omega) only [if_pos, dif_pos, if_neg, dif_neg, ar9]; go_simp; refine hK _ ?_; clear hK K)))); refine wpQuiet_nil ?_)
          with_reducible refine wpQS_nil ?_
          go_wp2
          go_ret
          exact HRES2.out
end Go.Proofs.Ins
