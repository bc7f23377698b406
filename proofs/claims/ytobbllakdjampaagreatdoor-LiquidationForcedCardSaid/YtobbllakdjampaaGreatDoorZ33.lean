/- The walk of insolvencylaw0.Group (printed by groupgen.py). -/
import Derived.Test.YtobbllakdjampaaGreatDoorZ1
import Derived.Test.YtobbllakdjampaaGreatDoorZ32

set_option linter.unusedSimpArgs false
set_option linter.unusedVariables false
namespace Go.Proofs.Ins
open Go.RowKit

def u3c (L : Nat → Nat → Nat) (i : Nat) : List Value := [.int .u16 (L i 0 : Int), .int .u16 (L i 1 : Int), .int .u16 (L i 2 : Int)]
def estC (q : R3) (cv av : Value) : List Value := [.bool q.n, .string q.s, .string q.d, cv, av]
/-- A group handed back: short, with short numbers. -/
def RetGr (w : World) : Ending → World → Prop := fun x w' => ∃ ev dv g, x = .returned (.agg #[ev, dv]) ∧ REsts w' (Fr w.heap.size w') ev g.e ∧ RDbts w' (Fr w.heap.size w') dv g.d ∧ SmallG 1000 g ∧ Below w.heap.size w w'
/-- A short estate. -/
structure GoodE (e : Est) : Prop where
  s : SmallE 1000 e
  c : e.c.length ≤ 6
  a : e.a.length ≤ 2
/-- The estates, once all claims are there. -/
theorem ests_no {w : World} {B n : Nat} {T T2 : TypeId} {ev : Value} {ql : List R3} {cv : Nat → Value} {cl : Nat → List C5} (h : SOwn w B T 5 ev n (fun i => estC (ix ql i) (cv i) (.slice none 0 0)))
    (hf : Fam C5.c w B T2 5 n (fun b => ev.ownBlock = some b) cv cl) : NO w B T 5 QEst ev ((List.range n).map fun i => (⟨ix ql i, cl i, []⟩ : Est)) := by
  have hlen : ((List.range n).map fun i => (⟨ix ql i, cl i, []⟩ : Est)).length = n := by simp
  have hix : ∀ i, i < n → ix ((List.range n).map fun i => (⟨ix ql i, cl i, []⟩ : Est)) i = ⟨ix ql i, cl i, []⟩ := fun i hi => by unfold ix; simp [List.getD, hi]
  refine ⟨fun i => estC (ix ql i) (cv i) (.slice none 0 0), by rw [hlen]; exact h, fun i hi => ?_⟩
  rw [hlen] at hi
  rw [hix i hi]
  refine ⟨cv i, .slice none 0 0, rfl, ?_, RL.nil _ _ _ _⟩
  exact RClaims.keep (w := w) (p := fun b => B ≤ b ∧ (cv i).ownBlock = some b) (hf.rl hi) ⟨fun _ _ _ => rfl⟩ fun b hb => ⟨hb.1, (hf.lt hi hb.2).2, fun e => hf.out i b hi hb.2 e.symm⟩
/-- The agreements of estate i are stored. -/
theorem NO.agrs {w w' : World} {B g n cap : Nat} {T : TypeId} {l : List Est} {av : Value} {al : List Agr} (h : NO w B T 5 QEst (.slice (some ⟨g, 0, none⟩) n cap) l) (hn : l.length = n) {i : Nat} (hi : i < n) (hb : Below w.heap.size w w')
    (hB : B ≤ w.heap.size) (hA : RAgrs w' (fun b => El B w (.slice (some ⟨g, 0, none⟩) n cap) b ∨ Fr w.heap.size w' b) av al) :
    NO (w'.setCell ⟨g, i * 5 + 4, none⟩ av) B T 5 QEst (.slice (some ⟨g, 0, none⟩) n cap) (l.set i ⟨(ix l i).m, (ix l i).c, al⟩) := by
  have hg : B ≤ g ∧ g < w.heap.size := NO.own_lt h rfl
  have hsz := hb.size
  have h' := h.on qkeep_est hb
  obtain ⟨G, hS, hq⟩ := h'
  rw [hn] at hS hq
  obtain ⟨cv, av0, hge, hC, hA0⟩ := hq i hi
  have h1 := hS.setAt i 4 av hi (by omega)
  have hel : ∀ b, El B w' (.slice (some ⟨g, 0, none⟩) n cap) b → b ≠ g := fun b hb e => hb.2.2 (by subst e; rfl)
  have hK : Keeps (El B w' (.slice (some ⟨g, 0, none⟩) n cap)) w' (w'.setCell ⟨g, i * 5 + 4, none⟩ av) := ⟨fun b hb _ => heap_setCell_other _ _ _ _ (hel b hb)⟩
  have hM : ∀ b, El B w' (.slice (some ⟨g, 0, none⟩) n cap) b → El B (w'.setCell ⟨g, i * 5 + 4, none⟩ av) (.slice (some ⟨g, 0, none⟩) n cap) b := fun b hb => ⟨hb.1, by simp only [World.size_setCell]; exact hb.2.1, hb.2.2⟩
  refine ⟨updF G i (estC (ix l i).m cv av), ?_, fun k hk => ?_⟩
  · rw [List.length_set, hn]
    refine h1.congr fun k hk => ?_
    by_cases e : k = i
    · subst e; simp [updF, hge, estC]
    · simp [updF, e]
  · rw [List.length_set, hn] at hk
    by_cases e : k = i
    · subst e
      rw [updF_same, show ix (l.set k ⟨(ix l k).m, (ix l k).c, al⟩) k = ⟨(ix l k).m, (ix l k).c, al⟩ from by unfold ix; simp [List.getD, hn, hk]]
      refine ⟨cv, av, rfl, hC.keep hK hM, hA.keep ⟨fun b hb _ => ?_⟩ fun b hb => ?_⟩
      · refine heap_setCell_other _ _ _ _ ?_
        rcases hb with hb | hb
        · exact fun e => hb.2.2 (by rw [e]; rfl)
        · have := hb.1; simp; omega
      · rcases hb with hb | hb
        · exact ⟨hb.1, by simp only [World.size_setCell]; have := hb.2.1; omega, hb.2.2⟩
        · have h5 := hb.1
          refine ⟨by omega, by simp only [World.size_setCell]; exact hb.2, fun e => ?_⟩
          have h6 : b = g := Option.some.inj e
          omega
    · rw [updF_other e, show ix (l.set i ⟨(ix l i).m, (ix l i).c, al⟩) k = ix l k from by unfold ix; simp [List.getD, List.getElem?_set, Ne.symm e]]
      exact (hq k hk).keep hK hM

theorem cell_alloc_old {w : World} {b o : Nat} {x : Obj} (h : b < w.heap.size) : (w.alloc x).cell? ⟨b, o, none⟩ = w.cell? ⟨b, o, none⟩ := World.cell?_of_block (w := w) (a := ⟨b, o, none⟩) (Below.heap_alloc w x b h)

theorem row3 {w w' : World} {b off n k B : Nat} {L : Nat → Nat → Nat} (h : SReads w b off 3 n (u3c L)) (hk : k < n) (hb : Below B w w') (hB : b < B) :
    w'.cell? ⟨b, off + k * 3, none⟩ = some (.int .u16 (L k 0 : Int)) ∧ w'.cell? ⟨b, off + k * 3 + 1, none⟩ = some (.int .u16 (L k 1 : Int)) ∧ w'.cell? ⟨b, off + k * 3 + 2, none⟩ = some (.int .u16 (L k 2 : Int)) :=
  ⟨(h.below hb hB) k 0 hk (by omega), (h.below hb hB) k 1 hk (by omega), (h.below hb hB) k 2 hk (by omega)⟩
/-- What lies in the cells of estate i. -/
theorem NO.estAll {w : World} {B g n cap : Nat} {T : TypeId} {l : List Est} (h : NO w B T 5 QEst (.slice (some ⟨g, 0, none⟩) n cap) l) (hn : l.length = n) {i : Nat} (hi : i < n) :
    ∃ ca cc aa ac, (∀ m, m < 5 → w.cell? ⟨g, i * 5 + m, none⟩ = (estC (ix l i).m (.slice ca (ix l i).c.length cc) (.slice aa (ix l i).a.length ac))[m]?) ∧ (∀ j, w.frozen? ⟨g, j, none⟩ = false) ∧
      RClaims w (El B w (.slice (some ⟨g, 0, none⟩) n cap)) (.slice ca (ix l i).c.length cc) (ix l i).c ∧ RAgrs w (El B w (.slice (some ⟨g, 0, none⟩) n cap)) (.slice aa (ix l i).a.length ac) (ix l i).a := by
  obtain ⟨G, hS, hq⟩ := h
  rw [hn] at hS hq
  obtain ⟨cv, av, hg, hC, hA⟩ := hq i hi
  obtain ⟨ca, cc, rfl, -, -⟩ := hC.plain.form
  obtain ⟨aa, ac, rfl⟩ : ∃ a c, av = .slice a (ix l i).a.length c := by obtain ⟨GA, hSA, -⟩ := hA; obtain ⟨x, y, h, -, -⟩ := hSA.form; exact ⟨x, y, h⟩
  refine ⟨ca, cc, aa, ac, fun m hm => ?_, fun j => hS.frozen j, hC, hA⟩
  rcases hS.form with ⟨h0, -⟩ | ⟨g', cap', e, -, -, -, -, hr⟩
  · simp at h0
  · simp only [Value.slice.injEq, Option.some.injEq, Addr.mk.injEq, true_and, and_true] at e
    obtain ⟨rfl, -⟩ := e
    have := hr i m hi hm
    rw [hg, Nat.zero_add] at this
    exact this
theorem GoodE.more {e : Est} {t : Agr} (h : GoodE e) (ha : e.a.length < 2) (ht : t.length = 3) (hf : ∀ i, i < 3 → (ix t i).length ≤ e.c.length + 1 ∧ ∀ j, j < (ix t i).length → (ix (ix t i) j).a.fits 1000) : GoodE ⟨e.m, e.c, e.a ++ [t]⟩ := by
  have hx : ∀ i, i < (e.a ++ [t]).length → (i < e.a.length ∧ ix (e.a ++ [t]) i = ix e.a i) ∨ ix (e.a ++ [t]) i = t := fun i hi => by
    rw [List.length_append, List.length_singleton] at hi
    rw [ix_append]
    by_cases h : i < e.a.length
    · rw [if_pos h]; exact .inl ⟨h, rfl⟩
    · rw [if_neg h, if_pos (by omega)]; exact .inr rfl
  refine ⟨⟨h.s.m, h.s.c, fun i j l hi hj hl => ?_, h.s.lc, by simp; omega, fun i hi => ?_, fun i j hi hj => ?_⟩, h.c, by simp; omega⟩
  · dsimp only at hi hj hl ⊢
    rcases hx i hi with ⟨h1, e1⟩ | e1
    · rw [e1] at hj hl ⊢; exact h.s.a i j l h1 hj hl
    · rw [e1] at hj hl ⊢; exact (hf j (by omega)).2 l hl
  · dsimp only at hi ⊢
    rcases hx i hi with ⟨h1, e1⟩ | e1
    · rw [e1]; exact h.s.lt i h1
    · rw [e1]; omega
  · dsimp only at hi hj ⊢
    rcases hx i hi with ⟨h1, e1⟩ | e1
    · rw [e1] at hj ⊢; exact h.s.lp i j h1 hj
    · rw [e1] at hj ⊢
      have := (hf j (by omega)).1
      have := h.c
      omega

set_option maxRecDepth 100000 in
set_option maxHeartbeats 3200000 in
theorem group_any (n : Nat) (a1 : Option Addr) (m1 c1 : Nat) (a2 : Option Addr) (m2 c2 : Nat) (a3 : Option Addr) (m3 c3 : Nat) (a4 : Option Addr) (m4 c4 : Nat) (L1 : Nat → Nat) (L2 L3 L4 : Nat → Nat → Nat) (w : World)
    (h1 : SArg w a1 m1 1 (c16 L1)) (h2 : SArg w a2 m2 4 (u16c L2)) (h3 : SArg w a3 m3 3 (u3c L3)) (h4 : SArg w a4 m4 3 (u3c L4)) (l1 : ∀ i, i < m1 → L1 i ≤ 65535) (l2 : ∀ i j, i < m2 → L2 i j ≤ 65535) (l3 : ∀ i j, i < m3 → L3 i j ≤ 65535) (l4 : ∀ i j, i < m4 → L4 i j ≤ 65535)
    (hm1 : m1 ≤ 140737488351232) (hm2 : m2 ≤ 140737488351232) (hm3 : m3 ≤ 140737488351232) (hm4 : m4 ≤ 140737488351232) (hn : n ≤ 255) :
    Calls Tryz.prog 22 #[.int .u8 (n : Int), .slice a1 m1 c1, .slice a2 m2 c2, .slice a3 m3 c3, .slice a4 m4 c4] w (RetGr w) := by
  have H1 := Lib.hid h1
  have H2 := Lib.hid h2
  have H3 := Lib.hid h3
  have H4 := Lib.hid h4
  have HL1 := Lib.hid l1
  have HL2 := Lib.hid l2
  have HL3 := Lib.hid l3
  have HL4 := Lib.hid l4
  unfold RetGr
  clear h1 h2 h3 h4 l1 l2 l3 l4
  obtain ⟨sz, hsz⟩ : ∃ sz, sz = 1 + n % 4 := ⟨_, rfl⟩
  have hs1 : 1 ≤ sz := by omega
  have hs4 : sz ≤ 4 := by omega
  have hsi : (1 : Int) + (n : Int) % 4 = (sz : Int) := by omega
  clear hsz
  go_enter Tryz.func22, Tryz.ntmps22
  go_wp2_with fail
  refine wp_forget (fun W => ∃ z, z = w.heap.size + 1 ∧ Blk W w.heap.size #[.slice none 0 0, .slice none 0 0] ∧ Blk W z #[.slice none 0 0, .slice none 0 0] ∧ Below w.heap.size w W) ⟨_, rfl, (duo w _ _ _ _).1, (duo w _ _ _ _).2.1, (duo w _ _ _ _).2.2⟩ ?_
  rintro W ⟨z, hz, K0, K1, hbw⟩
  rw [← hz]
  have hzz : w.heap.size < z := by omega
  have J0 := Lib.hid K0
  have J1 := Lib.hid K1
  have HB := Lib.hid hbw
  clear hz K0 K1 hbw
  go_loopw [13] (fun i wr => ∃ k ev, ∃ ql : List R3, i = .int .i64 (k : Nat) ∧ k ≤ sz ∧ Blk wr w.heap.size #[.slice none 0 0, .slice none 0 0] ∧ Blk wr z #[ev, .slice none 0 0] ∧ Hid (SOwn wr (z + 1) 84 5 ev k (fun i => estC (ix ql i) (.slice none 0 0) (.slice none 0 0))) ∧ Hid (ql.length = k ∧ ∀ i, i < k → (ix ql i).fits 1000) ∧ Below w.heap.size w wr) (fun i _ => sz - (intOf i).toNat)
  case atStart => exact ⟨0, _, [], rfl, by omega, J0.out, J1.out, SOwn.nil _ _ _ _ _, ⟨rfl, fun i hi => absurd hi (by omega)⟩, HB.out⟩
  case round =>
    obtain ⟨k, ev, ql, rfl, hk, K0, K1, hown, hfit, hbw⟩ := hrel
    have J0 := Lib.hid K0
    have J1 := Lib.hid K1
    have HOW := Lib.hid hown.out
    have HFI := Lib.hid hfit.out
    have HB := Lib.hid hbw
    have hz1 := K1.lt
    have hzb := hbw.size
    obtain ⟨ea, ec, rfl⟩ : ∃ a c, ev = .slice a k c := by rcases HOW.out.form with ⟨e, hn⟩ | ⟨g, cap, e, -⟩; exact ⟨none, 0, by rw [e, hn]⟩; exact ⟨_, _, e⟩
    clear K0 K1 hown hfit hbw
    by_cases hlt : k < sz
    · have i1 : (0 : Int) ≤ (k : Int) := by omega
      have i2 : (k : Int) < (sz : Int) := by omega
      by_cases hc : k < m1
      · rcases H1.out with h0 | ⟨b, off, rfl, hb, hr⟩
        · omega
        have c0 : (wr.alloc (.cells #[.bool false, .string ⟨#[]⟩, .string ⟨#[]⟩, .slice none 0 0, .slice none 0 0] 84)).cell? ⟨b, off + k, none⟩ = some (.int .u16 (L1 k : Int)) := by
          have := (hr.below (HB.out.alloc hzb (.cells #[.bool false, .string ⟨#[]⟩, .string ⟨#[]⟩, .slice none 0 0, .slice none 0 0] 84)) hb) k 0 hc (by omega)
          rw [Nat.mul_one, Nat.add_zero] at this; exact this
        have HAM := Lib.hid (fun W => amount_any (L1 k) W (HL1.out k hc))
        have HX := Lib.hid (amt_fits (L1 k))
        unfold ofQ at HX
        generalize L1 k = x0 at *
        generalize rn (amt x0) = xn at *
        generalize rs (amt x0) = xs at *
        generalize rd (amt x0) = xd at *
        have i3 : (k : Int) < (m1 : Int) := by omega
        clear hr
        go_wp2_with fail
        refine (HAM.out _).mono ?_; rintro x w5 ⟨rfl, hb5⟩
        obtain ⟨K5, hbw⟩ := boxes1 hb5
        have HW := Lib.hid (((hbw.setCell (p := ⟨wr.heap.size, 0, none⟩) (Nat.le_refl _) (.bool xn)).setCell (p := ⟨wr.heap.size, 1, none⟩) (Nat.le_refl _) (.string xs)).setCell (p := ⟨wr.heap.size, 2, none⟩) (Nat.le_refl _) (.string xd))
        have h0w := J0.out.lt
        have z0 : w5.cell? ⟨z, 0, none⟩ = some (.slice ea k ec) := (J1.out.on hbw).cell 0
        have J0 := Lib.hid (J0.out.on HW.out)
        have J1 := Lib.hid (J1.out.on HW.out)
        have f0 := K5.frozen 0
        have f1 := K5.frozen 1
        have f2 := K5.frozen 2
        have g0 := K5.cell 0
        have g1 := K5.cell 1
        have g2 := K5.cell 2
        have g3 : w5.cell? ⟨wr.heap.size, 3, none⟩ = some (.slice none 0 0) := K5.cell 3
        have g4 : w5.cell? ⟨wr.heap.size, 4, none⟩ = some (.slice none 0 0) := K5.cell 4
        have hz5 := K5.lt
        obtain ⟨v9, w9, hr9, ho9, hb9, -, -⟩ := HOW.out.app (P := Tryz.prog) (t := 56) (E := [.bool xn, .string xs, .string xd, .slice none 0 0, .slice none 0 0]) HW.out Tryz.underlying56 estInfo (by omega) rfl (by simp [Value.oneCell']) (by omega) (by omega) (by omega)
        simp only [World.size_setCell] at hr9
        have hbs : wr.heap.size ≤ w5.heap.size := hbw.size
        clear hb5 K5 hbw HAM c0
        obtain ⟨x3, n3, x4, rfl⟩ : ∃ a n c, v9 = .slice a n c := by rcases ho9.form with ⟨e, -⟩ | ⟨g, cap, e, -⟩ <;> exact ⟨_, _, _, e⟩
        have M8 := J1.out.below hb9 (by omega)
        have c9 := M8.cell 0
        have f9 := M8.frozen 0
        have MS := Lib.hid (M8.set 0 (.slice x3 n3 x4))
        have P0 := Lib.hid ((J0.out.below hb9 (by omega)).setOther ⟨z, 0, none⟩ (.slice x3 n3 x4) (by simp; omega))
        have HO9 := Lib.hid (show SOwn (w9.setCell ⟨z, 0, none⟩ (.slice x3 n3 x4)) (z + 1) 84 5 (.slice x3 n3 x4) (k + 1) (fun i => estC (ix (ql ++ [⟨xn, xs, xd⟩]) i) (.slice none 0 0) (.slice none 0 0)) from by
          refine SOwn.congr (ho9.keepOwn fun b hb => heap_setCell_other _ _ _ _ (by have := (ho9.own_lt hb).1; simp; omega)) fun j hj => ?_
          rw [ix_append, HFI.out.1]
          by_cases hjl : j < k
          · rw [if_pos hjl, if_pos hjl]
          · rw [if_neg hjl, if_neg hjl, if_pos (by omega)]; rfl)
        have HF9 := Lib.hid (show (ql ++ [(⟨xn, xs, xd⟩ : R3)]).length = k + 1 ∧ ∀ i, i < k + 1 → (ix (ql ++ [(⟨xn, xs, xd⟩ : R3)]) i).fits 1000 from ⟨by rw [List.length_append, List.length_singleton, HFI.out.1], fun i hi => by
          rw [ix_append, HFI.out.1]
          by_cases h : i < k
          · rw [if_pos h]; exact HFI.out.2 i h
          · rw [if_neg h, if_pos (by omega)]; exact HX.out⟩)
        have HB9 := Lib.hid ((HB.out.trans ((HW.out.mono (by omega)).trans (hb9.mono (by omega)))).setCell (p := ⟨z, 0, none⟩) (by simp; omega) (.slice x3 n3 x4))
        have HR9 := Lib.hid hr9
        clear hr9 ho9 hb9 M8
        go_wp2_with (at_builtin; refine Lib.wpList_append_run _ rfl _ _ _ _ rfl _ _ rfl rfl _ _ (HR9.out _) ?_)
        go_roundw
        case rel => exact ⟨k + 1, _, _, by go_num, by omega, P0.out, MS.out, HO9, HF9, HB9.out⟩
        case measure => simp [intOf]; omega
      · have i3 : decide ((k : Int) < (m1 : Int)) = false := by simp; omega
        obtain ⟨xn, xs, xd, hxn, hxs, hxd, HX⟩ : ∃ xn xs xd, xn = false ∧ xs = (⟨#[]⟩ : ByteArray) ∧ xd = (⟨#[]⟩ : ByteArray) ∧ Hid ((⟨xn, xs, xd⟩ : R3).fits 1000) := ⟨_, _, _, rfl, rfl, rfl, Nat.zero_le _, Nat.zero_le _⟩
        have HXN := Lib.hid (And.intro hxn (And.intro hxs hxd))
        clear hxn hxs hxd
        have J5 := Lib.hid (show Blk (wr.alloc (.cells #[.bool false, .string ⟨#[]⟩, .string ⟨#[]⟩, .slice none 0 0, .slice none 0 0] 84)) wr.heap.size #[.bool xn, .string xs, .string xd, .slice none 0 0, .slice none 0 0] from by rw [HXN.out.1, HXN.out.2.1, HXN.out.2.2]; exact Blk.new wr _ _)
        have HW := Lib.hid ((Below.refl wr.heap.size wr).alloc (Nat.le_refl _) (.cells #[.bool false, .string ⟨#[]⟩, .string ⟨#[]⟩, .slice none 0 0, .slice none 0 0] 84))
        have J0 := Lib.hid (J0.out.on HW.out)
        have J1 := Lib.hid (J1.out.on HW.out)
        have HOW := Lib.hid (HOW.out.on HW.out)
        obtain ⟨v9, w9, hr9, ho9, hb9, -, -⟩ := HOW.out.app (P := Tryz.prog) (t := 56) (E := [.bool xn, .string xs, .string xd, .slice none 0 0, .slice none 0 0]) (Below.refl _ _) Tryz.underlying56 estInfo (by omega) rfl (by simp [Value.oneCell']) (by omega) (by omega) (by have := HW.out.size; omega)
        have z0 : (wr.alloc (.cells #[.bool false, .string ⟨#[]⟩, .string ⟨#[]⟩, .slice none 0 0, .slice none 0 0] 84)).cell? ⟨z, 0, none⟩ = some (.slice ea k ec) := J1.out.cell 0
        have hr9' := hr9
        rw [HXN.out.1, HXN.out.2.1, HXN.out.2.2] at hr9'
        simp only [World.size_alloc] at hr9'
        have hr9 := hr9'
        clear hr9'
        obtain ⟨x3, n3, x4, rfl⟩ : ∃ a n c, v9 = .slice a n c := by rcases ho9.form with ⟨e, -⟩ | ⟨g, cap, e, -⟩ <;> exact ⟨_, _, _, e⟩
        have M8 := J1.out.below hb9 (by omega)
        have c9 := M8.cell 0
        have f9 := M8.frozen 0
        have MS := Lib.hid (M8.set 0 (.slice x3 n3 x4))
        have P0 := Lib.hid ((J0.out.below hb9 (by omega)).setOther ⟨z, 0, none⟩ (.slice x3 n3 x4) (by simp; omega))
        have HO9 := Lib.hid (show SOwn (w9.setCell ⟨z, 0, none⟩ (.slice x3 n3 x4)) (z + 1) 84 5 (.slice x3 n3 x4) (k + 1) (fun i => estC (ix (ql ++ [⟨xn, xs, xd⟩]) i) (.slice none 0 0) (.slice none 0 0)) from by
          refine SOwn.congr (ho9.keepOwn fun b hb => heap_setCell_other _ _ _ _ (by have := (ho9.own_lt hb).1; simp; omega)) fun j hj => ?_
          rw [ix_append, HFI.out.1]
          by_cases hjl : j < k
          · rw [if_pos hjl, if_pos hjl]
          · rw [if_neg hjl, if_neg hjl, if_pos (by omega)]; rfl)
        have HF9 := Lib.hid (show (ql ++ [(⟨xn, xs, xd⟩ : R3)]).length = k + 1 ∧ ∀ i, i < k + 1 → (ix (ql ++ [(⟨xn, xs, xd⟩ : R3)]) i).fits 1000 from ⟨by rw [List.length_append, List.length_singleton, HFI.out.1], fun i hi => by
          rw [ix_append, HFI.out.1]
          by_cases h : i < k
          · rw [if_pos h]; exact HFI.out.2 i h
          · rw [if_neg h, if_pos (by omega)]; exact HX.out⟩)
        have HB9 := Lib.hid ((HB.out.trans ((HW.out.mono (by omega)).trans (hb9.mono (by omega)))).setCell (p := ⟨z, 0, none⟩) (by simp; omega) (.slice x3 n3 x4))
        have HR9 := Lib.hid hr9
        clear hr9 ho9 hb9 M8
        go_wp2_with (at_builtin; refine Lib.wpList_append_run _ rfl _ _ _ _ rfl _ _ rfl rfl _ _ (HR9.out _) ?_)
        go_roundw
        case rel => exact ⟨k + 1, _, _, by go_num, by omega, P0.out, MS.out, HO9, HF9, HB9.out⟩
        case measure => simp [intOf]; omega
    · obtain rfl : k = sz := by omega
      have hnl9 : decide ((k : Int) < (k : Int)) = false := by simp
      obtain ⟨g, rfl, hgz, hgw⟩ : ∃ g, ea = some ⟨g, 0, none⟩ ∧ z + 1 ≤ g ∧ g < wr.heap.size := by
        rcases HOW.out.form with ⟨-, h0⟩ | ⟨g, cap, e, h1, -, -, h2, -⟩
        · omega
        · simp only [Value.slice.injEq, true_and] at e; exact ⟨g, e.1, h1, h2⟩
      clear HL1 H1
      go_wp2_with fail
      go_loopw [53] (fun i wr => ∃ j cv, ∃ cl : Nat → List C5, i = .int .i64 (j : Nat) ∧ j ≤ m2 ∧ Blk wr w.heap.size #[.slice none 0 0, .slice none 0 0] ∧ Blk wr z #[.slice (some ⟨g, 0, none⟩) k ec, .slice none 0 0] ∧ Hid (SOwn wr (z + 1) 84 5 (.slice (some ⟨g, 0, none⟩) k ec) k (fun i => estC (ix ql i) (cv i) (.slice none 0 0))) ∧ Hid (Fam C5.c wr (z + 1) 86 5 k (fun b => (Value.slice (some ⟨g, 0, none⟩) k ec).ownBlock = some b) cv cl) ∧ Hid (∀ i, i < k → (cl i).length ≤ 6 ∧ ∀ m, m < (cl i).length → (ix (cl i) m).a.fits 1000) ∧ Below w.heap.size w wr ∧ g < wr.heap.size) (fun i _ => m2 - (intOf i).toNat)
      case atStart => exact ⟨0, fun _ => .slice none 0 0, fun _ => [], rfl, by omega, J0.out, J1.out, HOW, Fam.nil _ _ _ _ _ _ _, fun i hi => ⟨Nat.zero_le _, fun m hm => absurd hm (by simp)⟩, HB.out, hgw⟩
      case round =>
        clear J0 J1 HOW HB hgw hz1 hzb
        obtain ⟨j, cv, cl, rfl, hj, K0, K1, hown, hfam, hcf, hbw, hgw⟩ := hrel
        have J0 := Lib.hid K0
        have J1 := Lib.hid K1
        have HOW := Lib.hid hown.out
        have HFA := Lib.hid hfam.out
        have HCF := Lib.hid hcf.out
        have HB := Lib.hid hbw
        have hz1 := K1.lt
        have hzb := hbw.size
        clear K0 K1 hown hfam hcf hbw
        by_cases hlj : j < m2
        · rcases H2.out with h0 | ⟨b, off, rfl, hb, hr⟩
          · omega
          obtain ⟨c0, c1, c2', c3'⟩ := row4 (hr.below HB.out hb) hlj (Below.refl wr.heap.size wr) (by omega)
          have y0 := HL2.out j 0 hlj
          have y1 := HL2.out j 1 hlj
          have y2 := HL2.out j 2 hlj
          have y3 := HL2.out j 3 hlj
          generalize L2 j 0 = x0 at *
          generalize L2 j 1 = x1 at *
          generalize L2 j 2 = x2 at *
          generalize L2 j 3 = x3 at *
          have i1 : (0 : Int) ≤ (j : Int) := by omega
          have i2 : (j : Int) < (m2 : Int) := by omega
          obtain ⟨i, hi⟩ : ∃ i, i = x0 % k := ⟨_, rfl⟩
          have hik : i < k := by rw [hi]; exact Nat.mod_lt _ (by omega)
          have hie : (x0 : Int).tmod (k : Int) = (i : Int) := by rw [hi]; rfl
          have hie2 : (x0 : Int) % (k : Int) = (i : Int) := by rw [hi]; exact (Int.natCast_emod _ _).symm
          obtain ⟨hh, hhd⟩ : ∃ hh, hh = x1 % (k + 1) := ⟨_, rfl⟩
          have hhe : (x1 : Int).tmod ((k : Int) + 1) = (hh : Int) := by rw [hhd]; rfl
          have hhe2 : (x1 : Int) % ((k : Int) + 1) = (hh : Int) := by rw [hhd]; simp
          have hk0 : ¬ (k : Int) = 0 := by omega
          have hk1 : ¬ (k : Int) + 1 = 0 := by omega
          have hk2 : ¬ k = 0 := by omega
          clear hi hhd
          have z0 : (wr.alloc (.cells #[.int .u16 (x0 : Int), .int .u16 (x1 : Int), .int .u16 (x2 : Int), .int .u16 (x3 : Int)] 68)).cell? ⟨z, 0, none⟩ = some (.slice (some ⟨g, 0, none⟩) k ec) := (J1.out.alloc _).cell 0
          obtain ⟨ca, cc, hcv⟩ := HFA.out.form hik
          have hrd : ∀ m, m < 5 → wr.cell? ⟨g, i * 5 + m, none⟩ = (estC (ix ql i) (cv i) (.slice none 0 0))[m]? := fun m hm => by
            rcases HOW.out.form with ⟨h0, -⟩ | ⟨g', cap, e, h1, -, -, h2, h3⟩
            · simp at h0
            · simp only [Value.slice.injEq, Option.some.injEq, Addr.mk.injEq, true_and, and_true] at e
              obtain ⟨rfl, -⟩ := e
              have := h3 i m hik hm
              rw [Nat.zero_add] at this; exact this
          have e3 : (wr.alloc (.cells #[.int .u16 (x0 : Int), .int .u16 (x1 : Int), .int .u16 (x2 : Int), .int .u16 (x3 : Int)] 68)).cell? ⟨g, i * 5 + 3, none⟩ = some (.slice ca (cl i).length cc) := by
            rw [cell_alloc_old hgw, hrd 3 (by omega), ← hcv]; rfl
          have i3 : (0 : Int) ≤ (i : Int) := by omega
          have i4 : (i : Int) < (k : Int) := by omega
          clear hr hrd
          generalize hcl : (cl i).length = ncl at *
          by_cases hfull : 6 ≤ ncl
          · have hf1 : decide ((6 : Int) ≤ (ncl : Int)) = true := by simp; omega
            have hf2 : (6 : Int) ≤ (ncl : Int) := by omega
            have P0 := Lib.hid (J0.out.alloc (.cells #[.int .u16 (x0 : Int), .int .u16 (x1 : Int), .int .u16 (x2 : Int), .int .u16 (x3 : Int)] 68))
            have P1 := Lib.hid (J1.out.alloc (.cells #[.int .u16 (x0 : Int), .int .u16 (x1 : Int), .int .u16 (x2 : Int), .int .u16 (x3 : Int)] 68))
            have hbA : Below wr.heap.size wr (wr.alloc (.cells #[.int .u16 (x0 : Int), .int .u16 (x1 : Int), .int .u16 (x2 : Int), .int .u16 (x3 : Int)] 68)) := (Below.refl _ _).alloc (Nat.le_refl _) _
            have HO := Lib.hid (HOW.out.on hbA)
            have HF := Lib.hid (HFA.out.on hbA)
            have HB9 := Lib.hid (HB.out.alloc hzb (.cells #[.int .u16 (x0 : Int), .int .u16 (x1 : Int), .int .u16 (x2 : Int), .int .u16 (x3 : Int)] 68))
            have hgA := hbA.size
            clear hbA hcv
            go_wp2
            go_roundw
            case rel => exact ⟨j + 1, cv, cl, by go_num, by omega, P0.out, P1.out, HO, HF, HCF, HB9.out, by omega⟩
            case measure => simp [intOf]; omega
          · have hf1 : decide ((6 : Int) ≤ (ncl : Int)) = false := by simp; omega
            have hf2 : ¬ (6 : Int) ≤ (ncl : Int) := by omega
            by_cases hA : hh = i
            · have hA1 : ((hh : Int) == (i : Int)) = true := by simp; omega
              have hA2 : (hh : Int) = (i : Int) := by omega
              clear hA
              go_wp2_with fail
              obtain ⟨HV, hHV⟩ : ∃ HV : Int, HV = -1 := ⟨_, rfl⟩
              rw [← hHV]
              clear hHV
              refine wp_forget (fun W => ∃ y, y = wr.heap.size ∧ Blk W y #[.int .u16 (x0 : Int), .int .u16 (x1 : Int), .int .u16 (x2 : Int), .int .u16 (x3 : Int)] ∧ Blk W w.heap.size #[.slice none 0 0, .slice none 0 0] ∧ Blk W z #[.slice (some ⟨g, 0, none⟩) k ec, .slice none 0 0] ∧ Hid (SOwn W (z + 1) 84 5 (.slice (some ⟨g, 0, none⟩) k ec) k (fun i => estC (ix ql i) (cv i) (.slice none 0 0))) ∧ Hid (Fam C5.c W (z + 1) 86 5 k (fun b => (Value.slice (some ⟨g, 0, none⟩) k ec).ownBlock = some b) cv cl) ∧ Below w.heap.size w W ∧ y + 1 ≤ W.heap.size)
                ⟨_, rfl, Blk.new wr _ _, J0.out.alloc _, J1.out.alloc _, HOW.out.on ((Below.refl _ _).alloc (Nat.le_refl _) _), HFA.out.on ((Below.refl _ _).alloc (Nat.le_refl _) _), HB.out.alloc hzb _, by simp⟩ ?_
              rintro W ⟨y, hy, K5, K0, K1, hown, hfam, hbw, hyW⟩
              rw [← hy]
              have hgy : g < y := by omega
              have hzy : z < y := by omega
              have J0 := Lib.hid K0
              have J1 := Lib.hid K1
              have HYO := Lib.hid (show ∀ m, m < k → (cv m).ownBlock ≠ some y from fun m hm e => by have := (HFA.out.lt hm e).2; omega)
              have HOW := Lib.hid hown.out
              have HFA := Lib.hid hfam.out
              have HB := Lib.hid hbw
              have hzW := hbw.size
              have e3' : W.cell? ⟨g, i * 5 + 3, none⟩ = some (.slice ca ncl cc) := by
                rcases HOW.out.form with ⟨h0, -⟩ | ⟨g', cap, e, h1, -, -, h2, h3⟩
                · simp at h0
                · simp only [Value.slice.injEq, Option.some.injEq, Addr.mk.injEq, true_and, and_true] at e
                  obtain ⟨rfl, -⟩ := e
                  have := h3 i 3 hik (by omega)
                  rw [Nat.zero_add] at this; rw [this, ← hcv]; rfl
              have s1 := exc_but_cell (K1.cell 0) (rfl : _ = z)
              have s8 := exc_but_cell e3' (rfl : _ = g)
              have s11 := exc_but_cell (K5.cell 2) (rfl : _ = y)
              have s15 := exc_but_cell (K5.cell 3) (rfl : _ = y)
              have HAM := Lib.hid (fun W => amount_any x3 W y3)
              have HX := Lib.hid (amt_fits x3)
              unfold ofQ at HX
              generalize rn (amt x3) = xn at *
              generalize rs (amt x3) = xs at *
              generalize rd (amt x3) = xd at *
              clear hy K5 K0 K1 hown hfam hbw z0 e3 c0 c1 c2' c3'
              obtain ⟨S, hS⟩ : ∃ S : Nat → World → Prop, S = fun k => if k = 1 ∨ k = 4 then Exc W (butB z) else if k = 8 then Exc W (butB g) else if k = 11 ∨ k = 15 then Exc W (butB y) else fun _ => True := ⟨_, rfl⟩
              have S0 : S 0 = fun _ => True := by subst hS; rfl
              have S1 : S 1 = Exc W (butB z) := by subst hS; rfl
              have S2 : S 2 = fun _ => True := by subst hS; rfl
              have S3 : S 3 = fun _ => True := by subst hS; rfl
              have S4 : S 4 = Exc W (butB z) := by subst hS; rfl
              have S5 : S 5 = fun _ => True := by subst hS; rfl
              have S6 : S 6 = fun _ => True := by subst hS; rfl
              have S7 : S 7 = fun _ => True := by subst hS; rfl
              have S8 : S 8 = Exc W (butB g) := by subst hS; rfl
              have S9 : S 9 = fun _ => True := by subst hS; rfl
              have S10 : S 10 = fun _ => True := by subst hS; rfl
              have S11 : S 11 = Exc W (butB y) := by subst hS; rfl
              have S12 : S 12 = fun _ => True := by subst hS; rfl
              have S13 : S 13 = fun _ => True := by subst hS; rfl
              have S14 : S 14 = fun _ => True := by subst hS; rfl
              have S15 : S 15 = Exc W (butB y) := by subst hS; rfl
              have S17 : S 17 = fun _ => True := by subst hS; rfl
              have S20 : S 20 = fun _ => True := by subst hS; rfl
              have S21 : S 21 = fun _ => True := by subst hS; rfl
              have hSK : ∀ k, k ∉ [1, 4, 8, 11, 15] → ∀ w, S k w := fun k hk w => by subst hS; simp at hk; simp [hk]
              have hSX : ∀ k W', Below W.heap.size W W' → S k W' := fun k W' h => by
                subst hS
                by_cases h1 : k = 1 ∨ k = 4
                · simp only [if_pos h1]; exact exc_but h.os h.tape h.output h.size (h.block z (by omega))
                · by_cases h2 : k = 8
                  · simp only [if_neg h1, if_pos h2]; exact exc_but h.os h.tape h.output h.size (h.block g (by omega))
                  · by_cases h3 : k = 11 ∨ k = 15
                    · simp only [if_neg h1, if_neg h2, if_pos h3]; exact exc_but h.os h.tape h.output h.size (h.block y (by omega))
                    · simp only [if_neg h1, if_neg h2, if_neg h3]
              have hSZ : ∀ k W', k ∈ [1, 4, 11] → Exc W (butB z) W' → Exc W (butB y) W' → S k W' := fun k W' hk h1 h2 => by
                subst hS
                by_cases e1 : k = 1 ∨ k = 4
                · simp only [if_pos e1]; exact h1
                · have e2 : k = 11 := by simp at hk; omega
                  subst e2; exact h2
              clear hS
              have HSX := Lib.hid hSX
              have HSZ := Lib.hid hSZ
              refine wp_region_segsN S [16, 18, 19, 22] [1, 4, 8, 11, 15] [([0, 1, 2, 3, 4, 5, 6, 7, 8, 9, 10, 11, 12, 13, 14, 15], 16, [1, 4, 8, 11]), ([17], 18, [1, 4, 8, 11]), ([], 19, [1, 4, 11]), ([20, 21], 22, [])] [] (by kernel_rfl) (by kernel_rfl) (by kernel_rfl) (by kernel_rfl) hSK (fun k => hSX k _ (Below.refl _ _).drew) ?_
              clear hSX hSZ
              refine wpSegsN_cons ?_
              repeat (refine wpQS_cons ?_; simp only [getOps, gl9]; (try simp only [S0, S1, S2, S3, S4, S5, S6, S7, S8, S9, S10, S11, S12, S13, S14, S15]); (first | go_big_quiet_skip | (refine wpQuiet_step (fun K hK => ?_); go_simp; (try simp (disch := omega) only [ar9]); (first | (refine hK _ ?_; clear hK K) | (simp (disch := omega) only [if_pos, dif_pos, if_neg, dif_neg, ar9]; go_simp; refine hK _ ?_; clear hK K)))); refine wpQuiet_nil ?_)
              with_reducible refine wpQS_nil ?_
              (try simp only [getOps, gl9])
              go_step
              rename_i K9 hK9
              refine (HAM.out _).mono ?_
              rintro e w5 ⟨rfl, hb5⟩
              have hbW : Below W.heap.size W w5 := chain (Below.refl W.heap.size W).drew hb5 (Nat.le_refl _)
              have HW5 := Lib.hid hbW
              have hzs := hbW.size
              obtain ⟨v9, w9, hr9, hfam9, hb9, hk9, ⟨a99, cap99, rfl⟩⟩ := HFA.out.app (w := w5) (t := 81) hbW hik (⟨HV, (x2 : Int) % 3, ⟨xn, xs, xd⟩⟩ : C5) Tryz.underlying81 claimInfo (by omega) rfl (c5_one _) (by omega) (by omega) (by omega) (fun b hb => by have : g = b := Option.some.inj hb; omega)
              rw [hcv, hcl] at hr9
              have hgk : w9.heap[g]? = w5.heap[g]? := hk9 g (by omega) (fun e => HFA.out.out i g hik e.symm rfl)
              have hyk : w9.heap[y]? = W.heap[y]? := (hk9 y (by omega) (fun e => HYO.out i hik e.symm)).trans (hbW.block y (by omega))
              have hzk : w9.heap[z]? = W.heap[z]? := (hk9 z (by omega) (fun e => by have := (HFA.out.lt hik e.symm).1; omega)).trans (hbW.block z (by omega))
              have h0k : w9.heap[w.heap.size]? = W.heap[w.heap.size]? := (hk9 w.heap.size (by omega) (fun e => by have := (HFA.out.lt hik e.symm).1; omega)).trans (hbW.block w.heap.size (by omega))
              have ho9 : SOwn w9 (z + 1) 84 5 (.slice (some ⟨g, 0, none⟩) k ec) k (fun i => estC (ix ql i) (cv i) (.slice none 0 0)) := (HOW.out.on hbW).keepOwn fun b hb => by
                obtain rfl : g = b := Option.some.inj hb
                exact hgk
              have f9 := ho9.frozen (i * 5 + 3)
              have d9 : w9.cell? ⟨g, i * 5 + 3, none⟩ = some (.slice ca ncl cc) := by
                rw [World.cell?_of_block (w := W) (a := ⟨g, i * 5 + 3, none⟩) (hgk.trans (hbW.block g (by omega)))]; exact e3'
              have HS9 := Lib.hid ((ho9.setAt i 3 (.slice a99 (ncl + 1) cap99) hik (by omega)).congr (G := fun m => estC (ix ql m) (upd1 cv i (.slice a99 (ncl + 1) cap99) m) (.slice none 0 0)) fun m hm => by
                by_cases e : m = i
                · subst e; simp [updF, upd1, estC]
                · simp [updF, upd1, e])
              have hj0 : Blk w9 w.heap.size #[.slice none 0 0, .slice none 0 0] := J0.out.block h0k
              have hj1 : Blk w9 z #[.slice (some ⟨g, 0, none⟩) k ec, .slice none 0 0] := J1.out.block hzk
              have P0 := Lib.hid (hj0.setOther ⟨g, i * 5 + 3, none⟩ (.slice a99 (ncl + 1) cap99) (by simp; omega))
              have P1 := Lib.hid (hj1.setOther ⟨g, i * 5 + 3, none⟩ (.slice a99 (ncl + 1) cap99) (by simp; omega))
              rw [hcl] at hfam9
              have HFA9 := Lib.hid (hfam9.setCell ⟨g, i * 5 + 3, none⟩ (.slice a99 (ncl + 1) cap99) rfl)
              have HB9 := Lib.hid ((HB.out.trans ((hbW.mono (by omega)).trans (hb9.mono (by omega)))).setCell (p := ⟨g, i * 5 + 3, none⟩) (by simp; omega) (.slice a99 (ncl + 1) cap99))
              have HCF9 := Lib.hid (show ∀ m, m < k → (upd1 cl i (cl i ++ [(⟨HV, (x2 : Int) % 3, ⟨xn, xs, xd⟩⟩ : C5)]) m).length ≤ 6 ∧ ∀ q, q < (upd1 cl i (cl i ++ [(⟨HV, (x2 : Int) % 3, ⟨xn, xs, xd⟩⟩ : C5)]) m).length → (ix (upd1 cl i (cl i ++ [(⟨HV, (x2 : Int) % 3, ⟨xn, xs, xd⟩⟩ : C5)]) m) q).a.fits 1000 from fun m hm => by
                by_cases e : m = i
                · subst e
                  rw [upd1_same]
                  refine ⟨by rw [List.length_append, List.length_singleton]; omega, fun q hq => ?_⟩
                  rw [List.length_append, List.length_singleton] at hq
                  rw [ix_append]
                  by_cases hql : q < (cl m).length
                  · rw [if_pos hql]; exact (HCF.out m hm).2 q hql
                  · rw [if_neg hql, if_pos (by omega)]; exact HX.out
                · rw [upd1_other e]; exact HCF.out m hm)
              have hz9 := hb9.size
              have HE9 := Lib.hid (show Exc W (butB z) w9 ∧ Exc W (butB y) w9 from ⟨exc_but (hb9.os.trans hbW.os) (hb9.tape.trans hbW.tape) (hb9.output.trans hbW.output) (Nat.le_trans hzs hz9) hzk, exc_but (hb9.os.trans hbW.os) (hb9.tape.trans hbW.tape) (hb9.output.trans hbW.output) (Nat.le_trans hzs hz9) hyk⟩)
              have HR9 := Lib.hid (show ∀ ty, (Builtin.append_ #[81, 81] ty #[.slice ca ncl cc, .slice (some ⟨w5.heap.size, 0, none⟩) 1 1]).run Tryz.prog (w5.alloc (.cells #[.int .i64 HV, .int .i64 ((x2 : Int) % 3), .bool xn, .string xs, .string xd] 86)) = .ok (.slice a99 (ncl + 1) cap99) w9 from hr9)
              have HGW := Lib.hid (show g < (w9.setCell ⟨g, i * 5 + 3, none⟩ (.slice a99 (ncl + 1) cap99)).heap.size from by simp only [World.size_setCell]; omega)
              clear hr9 hfam9 hb9 hk9 hgk hyk hzk h0k ho9 hj0 hj1 hb5 hbW e3' hcv
              refine hK9 _ _ ?_
              clear hK9 K9
              refine segQ_normal ⟨fun m hm => HSX.out m _ HW5.out, ?_⟩
              refine wpSegsN_cons ?_
              repeat (refine wpQS_cons ?_; simp only [getOps, gl9]; (try simp only [S17]); (first | go_big_quiet_skip | (refine wpQuiet_step (fun K hK => ?_); go_simp; (try simp (disch := omega) only [ar9]); (first | (refine hK _ ?_; clear hK K) | (simp (disch := omega) only [if_pos, dif_pos, if_neg, dif_neg, ar9]; go_simp; refine hK _ ?_; clear hK K)))); refine wpQuiet_nil ?_)
              with_reducible refine wpQS_nil ?_
              (try simp only [getOps, gl9])
              go_step
              rename_i K9 hK9
              refine hK9 _ _ ?_
              clear hK9 K9
              refine segQ_normal ⟨fun m hm => HSX.out m _ (HW5.out.alloc hzs (.cells #[.int .i64 HV, .int .i64 ((x2 : Int) % 3), .bool xn, .string xs, .string xd] 86)), ?_⟩
              refine wpSegsN_cons ?_
              repeat (refine wpQS_cons ?_; simp only [getOps, gl9]; (first | go_big_quiet_skip | (refine wpQuiet_step (fun K hK => ?_); go_simp; (try simp (disch := omega) only [ar9]); (first | (refine hK _ ?_; clear hK K) | (simp (disch := omega) only [if_pos, dif_pos, if_neg, dif_neg, ar9]; go_simp; refine hK _ ?_; clear hK K)))); refine wpQuiet_nil ?_)
              with_reducible refine wpQS_nil ?_
              (try simp only [getOps, gl9])
              refine Lib.wpList_append_run _ rfl _ _ _ _ rfl _ _ rfl rfl _ _ (HR9.out _) ?_
              refine segQ_normal ⟨fun m hm => HSZ.out m _ hm HE9.out.1 HE9.out.2, ?_⟩
              refine wpSegsN_cons ?_
              repeat (refine wpQS_cons ?_; simp only [getOps, gl9]; (try simp only [S20, S21]); (first | go_big_quiet_skip | (refine wpQuiet_step (fun K hK => ?_); go_simp; (try simp (disch := omega) only [ar9]); (first | (refine hK _ ?_; clear hK K) | (simp (disch := omega) only [if_pos, dif_pos, if_neg, dif_neg, ar9]; go_simp; refine hK _ ?_; clear hK K)))); refine wpQuiet_nil ?_)
              with_reducible refine wpQS_nil ?_
              (try simp only [getOps, gl9])
              go_step
              rename_i K9 hK9
              refine hK9 _ _ ?_
              clear hK9 K9
              refine segQ_normal ⟨fun k hk => by simp at hk, ?_⟩
              refine wpSegsN_nil ?_
              repeat (refine wpQS_cons ?_; simp only [getOps, gl9]; (first | go_big_quiet_skip | (refine wpQuiet_step (fun K hK => ?_); go_simp; (try simp (disch := omega) only [ar9]); (first | (refine hK _ ?_; clear hK K) | (simp (disch := omega) only [if_pos, dif_pos, if_neg, dif_neg, ar9]; go_simp; refine hK _ ?_; clear hK K)))); refine wpQuiet_nil ?_)
              with_reducible refine wpQS_nil ?_
              go_wp2
              go_roundw
              case rel => exact ⟨j + 1, _, _, by go_num, by omega, P0.out, P1.out, HS9, HFA9, HCF9, HB9.out, HGW.out⟩
              case measure => simp [intOf]; omega
            · have hA1 : ((hh : Int) == (i : Int)) = false := by simp; omega
              have hA2 : ¬ (hh : Int) = (i : Int) := by omega
              by_cases hB : k ≤ hh
              · have hB1 : decide ((k : Int) ≤ (hh : Int)) = true := by simp; omega
                have hB2 : (k : Int) ≤ (hh : Int) := by omega
                go_wp2_with fail
                obtain ⟨HV, hHV⟩ : ∃ HV : Int, HV = -1 := ⟨_, rfl⟩
                rw [← hHV]
                clear hHV
                refine wp_forget (fun W => ∃ y, y = wr.heap.size ∧ Blk W y #[.int .u16 (x0 : Int), .int .u16 (x1 : Int), .int .u16 (x2 : Int), .int .u16 (x3 : Int)] ∧ Blk W w.heap.size #[.slice none 0 0, .slice none 0 0] ∧ Blk W z #[.slice (some ⟨g, 0, none⟩) k ec, .slice none 0 0] ∧ Hid (SOwn W (z + 1) 84 5 (.slice (some ⟨g, 0, none⟩) k ec) k (fun i => estC (ix ql i) (cv i) (.slice none 0 0))) ∧ Hid (Fam C5.c W (z + 1) 86 5 k (fun b => (Value.slice (some ⟨g, 0, none⟩) k ec).ownBlock = some b) cv cl) ∧ Below w.heap.size w W ∧ y + 1 ≤ W.heap.size)
                  ⟨_, rfl, Blk.new wr _ _, J0.out.alloc _, J1.out.alloc _, HOW.out.on ((Below.refl _ _).alloc (Nat.le_refl _) _), HFA.out.on ((Below.refl _ _).alloc (Nat.le_refl _) _), HB.out.alloc hzb _, by simp⟩ ?_
                rintro W ⟨y, hy, K5, K0, K1, hown, hfam, hbw, hyW⟩
                rw [← hy]
                have hgy : g < y := by omega
                have hzy : z < y := by omega
                have J0 := Lib.hid K0
                have J1 := Lib.hid K1
                have HYO := Lib.hid (show ∀ m, m < k → (cv m).ownBlock ≠ some y from fun m hm e => by have := (HFA.out.lt hm e).2; omega)
                have HOW := Lib.hid hown.out
                have HFA := Lib.hid hfam.out
                have HB := Lib.hid hbw
                have hzW := hbw.size
                have e3' : W.cell? ⟨g, i * 5 + 3, none⟩ = some (.slice ca ncl cc) := by
                  rcases HOW.out.form with ⟨h0, -⟩ | ⟨g', cap, e, h1, -, -, h2, h3⟩
                  · simp at h0
                  · simp only [Value.slice.injEq, Option.some.injEq, Addr.mk.injEq, true_and, and_true] at e
                    obtain ⟨rfl, -⟩ := e
                    have := h3 i 3 hik (by omega)
                    rw [Nat.zero_add] at this; rw [this, ← hcv]; rfl
                have s1 := exc_but_cell (K1.cell 0) (rfl : _ = z)
                have s8 := exc_but_cell e3' (rfl : _ = g)
                have s11 := exc_but_cell (K5.cell 2) (rfl : _ = y)
                have s15 := exc_but_cell (K5.cell 3) (rfl : _ = y)
                have HAM := Lib.hid (fun W => amount_any x3 W y3)
                have HX := Lib.hid (amt_fits x3)
                unfold ofQ at HX
                generalize rn (amt x3) = xn at *
                generalize rs (amt x3) = xs at *
                generalize rd (amt x3) = xd at *
                clear hy K5 K0 K1 hown hfam hbw z0 e3 c0 c1 c2' c3'
                obtain ⟨S, hS⟩ : ∃ S : Nat → World → Prop, S = fun k => if k = 1 ∨ k = 4 then Exc W (butB z) else if k = 8 then Exc W (butB g) else if k = 11 ∨ k = 15 then Exc W (butB y) else fun _ => True := ⟨_, rfl⟩
                have S0 : S 0 = fun _ => True := by subst hS; rfl
                have S1 : S 1 = Exc W (butB z) := by subst hS; rfl
                have S2 : S 2 = fun _ => True := by subst hS; rfl
                have S3 : S 3 = fun _ => True := by subst hS; rfl
                have S4 : S 4 = Exc W (butB z) := by subst hS; rfl
                have S5 : S 5 = fun _ => True := by subst hS; rfl
                have S6 : S 6 = fun _ => True := by subst hS; rfl
                have S7 : S 7 = fun _ => True := by subst hS; rfl
                have S8 : S 8 = Exc W (butB g) := by subst hS; rfl
                have S9 : S 9 = fun _ => True := by subst hS; rfl
                have S10 : S 10 = fun _ => True := by subst hS; rfl
                have S11 : S 11 = Exc W (butB y) := by subst hS; rfl
                have S12 : S 12 = fun _ => True := by subst hS; rfl
                have S13 : S 13 = fun _ => True := by subst hS; rfl
                have S14 : S 14 = fun _ => True := by subst hS; rfl
                have S15 : S 15 = Exc W (butB y) := by subst hS; rfl
                have S17 : S 17 = fun _ => True := by subst hS; rfl
                have S20 : S 20 = fun _ => True := by subst hS; rfl
                have S21 : S 21 = fun _ => True := by subst hS; rfl
                have hSK : ∀ k, k ∉ [1, 4, 8, 11, 15] → ∀ w, S k w := fun k hk w => by subst hS; simp at hk; simp [hk]
                have hSX : ∀ k W', Below W.heap.size W W' → S k W' := fun k W' h => by
                  subst hS
                  by_cases h1 : k = 1 ∨ k = 4
                  · simp only [if_pos h1]; exact exc_but h.os h.tape h.output h.size (h.block z (by omega))
                  · by_cases h2 : k = 8
                    · simp only [if_neg h1, if_pos h2]; exact exc_but h.os h.tape h.output h.size (h.block g (by omega))
                    · by_cases h3 : k = 11 ∨ k = 15
                      · simp only [if_neg h1, if_neg h2, if_pos h3]; exact exc_but h.os h.tape h.output h.size (h.block y (by omega))
                      · simp only [if_neg h1, if_neg h2, if_neg h3]
                have hSZ : ∀ k W', k ∈ [1, 4, 11] → Exc W (butB z) W' → Exc W (butB y) W' → S k W' := fun k W' hk h1 h2 => by
                  subst hS
                  by_cases e1 : k = 1 ∨ k = 4
                  · simp only [if_pos e1]; exact h1
                  · have e2 : k = 11 := by simp at hk; omega
                    subst e2; exact h2
                clear hS
                have HSX := Lib.hid hSX
                have HSZ := Lib.hid hSZ
                refine wp_region_segsN S [16, 18, 19, 22] [1, 4, 8, 11, 15] [([0, 1, 2, 3, 4, 5, 6, 7, 8, 9, 10, 11, 12, 13, 14, 15], 16, [1, 4, 8, 11]), ([17], 18, [1, 4, 8, 11]), ([], 19, [1, 4, 11]), ([20, 21], 22, [])] [] (by kernel_rfl) (by kernel_rfl) (by kernel_rfl) (by kernel_rfl) hSK (fun k => hSX k _ (Below.refl _ _).drew) ?_
                clear hSX hSZ
                refine wpSegsN_cons ?_
                repeat (refine wpQS_cons ?_; simp only [getOps, gl9]; (try simp only [S0, S1, S2, S3, S4, S5, S6, S7, S8, S9, S10, S11, S12, S13, S14, S15]); (first | go_big_quiet_skip | (refine wpQuiet_step (fun K hK => ?_); go_simp; (try simp (disch := omega) only [ar9]); (first | (refine hK _ ?_; clear hK K) | (simp (disch := omega) only [if_pos, dif_pos, if_neg, dif_neg, ar9]; go_simp; refine hK _ ?_; clear hK K)))); refine wpQuiet_nil ?_)
                with_reducible refine wpQS_nil ?_
                (try simp only [getOps, gl9])
                go_step
                rename_i K9 hK9
                refine (HAM.out _).mono ?_
                rintro e w5 ⟨rfl, hb5⟩
                have hbW : Below W.heap.size W w5 := chain (Below.refl W.heap.size W).drew hb5 (Nat.le_refl _)
                have HW5 := Lib.hid hbW
                have hzs := hbW.size
                obtain ⟨v9, w9, hr9, hfam9, hb9, hk9, ⟨a99, cap99, rfl⟩⟩ := HFA.out.app (w := w5) (t := 81) hbW hik (⟨HV, (x2 : Int) % 3, ⟨xn, xs, xd⟩⟩ : C5) Tryz.underlying81 claimInfo (by omega) rfl (c5_one _) (by omega) (by omega) (by omega) (fun b hb => by have : g = b := Option.some.inj hb; omega)
                rw [hcv, hcl] at hr9
                have hgk : w9.heap[g]? = w5.heap[g]? := hk9 g (by omega) (fun e => HFA.out.out i g hik e.symm rfl)
                have hyk : w9.heap[y]? = W.heap[y]? := (hk9 y (by omega) (fun e => HYO.out i hik e.symm)).trans (hbW.block y (by omega))
                have hzk : w9.heap[z]? = W.heap[z]? := (hk9 z (by omega) (fun e => by have := (HFA.out.lt hik e.symm).1; omega)).trans (hbW.block z (by omega))
                have h0k : w9.heap[w.heap.size]? = W.heap[w.heap.size]? := (hk9 w.heap.size (by omega) (fun e => by have := (HFA.out.lt hik e.symm).1; omega)).trans (hbW.block w.heap.size (by omega))
                have ho9 : SOwn w9 (z + 1) 84 5 (.slice (some ⟨g, 0, none⟩) k ec) k (fun i => estC (ix ql i) (cv i) (.slice none 0 0)) := (HOW.out.on hbW).keepOwn fun b hb => by
                  obtain rfl : g = b := Option.some.inj hb
                  exact hgk
                have f9 := ho9.frozen (i * 5 + 3)
                have d9 : w9.cell? ⟨g, i * 5 + 3, none⟩ = some (.slice ca ncl cc) := by
                  rw [World.cell?_of_block (w := W) (a := ⟨g, i * 5 + 3, none⟩) (hgk.trans (hbW.block g (by omega)))]; exact e3'
                have HS9 := Lib.hid ((ho9.setAt i 3 (.slice a99 (ncl + 1) cap99) hik (by omega)).congr (G := fun m => estC (ix ql m) (upd1 cv i (.slice a99 (ncl + 1) cap99) m) (.slice none 0 0)) fun m hm => by
                  by_cases e : m = i
                  · subst e; simp [updF, upd1, estC]
                  · simp [updF, upd1, e])
                have hj0 : Blk w9 w.heap.size #[.slice none 0 0, .slice none 0 0] := J0.out.block h0k
                have hj1 : Blk w9 z #[.slice (some ⟨g, 0, none⟩) k ec, .slice none 0 0] := J1.out.block hzk
                have P0 := Lib.hid (hj0.setOther ⟨g, i * 5 + 3, none⟩ (.slice a99 (ncl + 1) cap99) (by simp; omega))
                have P1 := Lib.hid (hj1.setOther ⟨g, i * 5 + 3, none⟩ (.slice a99 (ncl + 1) cap99) (by simp; omega))
                rw [hcl] at hfam9
                have HFA9 := Lib.hid (hfam9.setCell ⟨g, i * 5 + 3, none⟩ (.slice a99 (ncl + 1) cap99) rfl)
                have HB9 := Lib.hid ((HB.out.trans ((hbW.mono (by omega)).trans (hb9.mono (by omega)))).setCell (p := ⟨g, i * 5 + 3, none⟩) (by simp; omega) (.slice a99 (ncl + 1) cap99))
                have HCF9 := Lib.hid (show ∀ m, m < k → (upd1 cl i (cl i ++ [(⟨HV, (x2 : Int) % 3, ⟨xn, xs, xd⟩⟩ : C5)]) m).length ≤ 6 ∧ ∀ q, q < (upd1 cl i (cl i ++ [(⟨HV, (x2 : Int) % 3, ⟨xn, xs, xd⟩⟩ : C5)]) m).length → (ix (upd1 cl i (cl i ++ [(⟨HV, (x2 : Int) % 3, ⟨xn, xs, xd⟩⟩ : C5)]) m) q).a.fits 1000 from fun m hm => by
                  by_cases e : m = i
                  · subst e
                    rw [upd1_same]
                    refine ⟨by rw [List.length_append, List.length_singleton]; omega, fun q hq => ?_⟩
                    rw [List.length_append, List.length_singleton] at hq
                    rw [ix_append]
                    by_cases hql : q < (cl m).length
                    · rw [if_pos hql]; exact (HCF.out m hm).2 q hql
                    · rw [if_neg hql, if_pos (by omega)]; exact HX.out
                  · rw [upd1_other e]; exact HCF.out m hm)
                have hz9 := hb9.size
                have HE9 := Lib.hid (show Exc W (butB z) w9 ∧ Exc W (butB y) w9 from ⟨exc_but (hb9.os.trans hbW.os) (hb9.tape.trans hbW.tape) (hb9.output.trans hbW.output) (Nat.le_trans hzs hz9) hzk, exc_but (hb9.os.trans hbW.os) (hb9.tape.trans hbW.tape) (hb9.output.trans hbW.output) (Nat.le_trans hzs hz9) hyk⟩)
                have HR9 := Lib.hid (show ∀ ty, (Builtin.append_ #[81, 81] ty #[.slice ca ncl cc, .slice (some ⟨w5.heap.size, 0, none⟩) 1 1]).run Tryz.prog (w5.alloc (.cells #[.int .i64 HV, .int .i64 ((x2 : Int) % 3), .bool xn, .string xs, .string xd] 86)) = .ok (.slice a99 (ncl + 1) cap99) w9 from hr9)
                have HGW := Lib.hid (show g < (w9.setCell ⟨g, i * 5 + 3, none⟩ (.slice a99 (ncl + 1) cap99)).heap.size from by simp only [World.size_setCell]; omega)
                clear hr9 hfam9 hb9 hk9 hgk hyk hzk h0k ho9 hj0 hj1 hb5 hbW e3' hcv
                refine hK9 _ _ ?_
                clear hK9 K9
                refine segQ_normal ⟨fun m hm => HSX.out m _ HW5.out, ?_⟩
                refine wpSegsN_cons ?_
                repeat (refine wpQS_cons ?_; simp only [getOps, gl9]; (try simp only [S17]); (first | go_big_quiet_skip | (refine wpQuiet_step (fun K hK => ?_); go_simp; (try simp (disch := omega) only [ar9]); (first | (refine hK _ ?_; clear hK K) | (simp (disch := omega) only [if_pos, dif_pos, if_neg, dif_neg, ar9]; go_simp; refine hK _ ?_; clear hK K)))); refine wpQuiet_nil ?_)
                with_reducible refine wpQS_nil ?_
                (try simp only [getOps, gl9])
                go_step
                rename_i K9 hK9
                refine hK9 _ _ ?_
                clear hK9 K9
                refine segQ_normal ⟨fun m hm => HSX.out m _ (HW5.out.alloc hzs (.cells #[.int .i64 HV, .int .i64 ((x2 : Int) % 3), .bool xn, .string xs, .string xd] 86)), ?_⟩
                refine wpSegsN_cons ?_
                repeat (refine wpQS_cons ?_; simp only [getOps, gl9]; (first | go_big_quiet_skip | (refine wpQuiet_step (fun K hK => ?_); go_simp; (try simp (disch := omega) only [ar9]); (first | (refine hK _ ?_; clear hK K) | (simp (disch := omega) only [if_pos, dif_pos, if_neg, dif_neg, ar9]; go_simp; refine hK _ ?_; clear hK K)))); refine wpQuiet_nil ?_)
                with_reducible refine wpQS_nil ?_
                (try simp only [getOps, gl9])
                refine Lib.wpList_append_run _ rfl _ _ _ _ rfl _ _ rfl rfl _ _ (HR9.out _) ?_
                refine segQ_normal ⟨fun m hm => HSZ.out m _ hm HE9.out.1 HE9.out.2, ?_⟩
                refine wpSegsN_cons ?_
                repeat (refine wpQS_cons ?_; simp only [getOps, gl9]; (try simp only [S20, S21]); (first | go_big_quiet_skip | (refine wpQuiet_step (fun K hK => ?_); go_simp; (try simp (disch := omega) only [ar9]); (first | (refine hK _ ?_; clear hK K) | (simp (disch := omega) only [if_pos, dif_pos, if_neg, dif_neg, ar9]; go_simp; refine hK _ ?_; clear hK K)))); refine wpQuiet_nil ?_)
                with_reducible refine wpQS_nil ?_
                (try simp only [getOps, gl9])
                go_step
                rename_i K9 hK9
                refine hK9 _ _ ?_
                clear hK9 K9
                refine segQ_normal ⟨fun k hk => by simp at hk, ?_⟩
                refine wpSegsN_nil ?_
                repeat (refine wpQS_cons ?_; simp only [getOps, gl9]; (first | go_big_quiet_skip | (refine wpQuiet_step (fun K hK => ?_); go_simp; (try simp (disch := omega) only [ar9]); (first | (refine hK _ ?_; clear hK K) | (simp (disch := omega) only [if_pos, dif_pos, if_neg, dif_neg, ar9]; go_simp; refine hK _ ?_; clear hK K)))); refine wpQuiet_nil ?_)
                with_reducible refine wpQS_nil ?_
                go_wp2
                go_roundw
                case rel => exact ⟨j + 1, _, _, by go_num, by omega, P0.out, P1.out, HS9, HFA9, HCF9, HB9.out, HGW.out⟩
                case measure => simp [intOf]; omega
              · have hB1 : decide ((k : Int) ≤ (hh : Int)) = false := by simp; omega
                have hB2 : ¬ (k : Int) ≤ (hh : Int) := by omega
                go_wp2_with fail
                obtain ⟨HV, hHV⟩ : ∃ HV : Int, HV = (hh : Int) := ⟨_, rfl⟩
                rw [← hHV]
                clear hHV
                refine wp_forget (fun W => ∃ y, y = wr.heap.size ∧ Blk W y #[.int .u16 (x0 : Int), .int .u16 (x1 : Int), .int .u16 (x2 : Int), .int .u16 (x3 : Int)] ∧ Blk W w.heap.size #[.slice none 0 0, .slice none 0 0] ∧ Blk W z #[.slice (some ⟨g, 0, none⟩) k ec, .slice none 0 0] ∧ Hid (SOwn W (z + 1) 84 5 (.slice (some ⟨g, 0, none⟩) k ec) k (fun i => estC (ix ql i) (cv i) (.slice none 0 0))) ∧ Hid (Fam C5.c W (z + 1) 86 5 k (fun b => (Value.slice (some ⟨g, 0, none⟩) k ec).ownBlock = some b) cv cl) ∧ Below w.heap.size w W ∧ y + 1 ≤ W.heap.size)
                  ⟨_, rfl, Blk.new wr _ _, J0.out.alloc _, J1.out.alloc _, HOW.out.on ((Below.refl _ _).alloc (Nat.le_refl _) _), HFA.out.on ((Below.refl _ _).alloc (Nat.le_refl _) _), HB.out.alloc hzb _, by simp⟩ ?_
                rintro W ⟨y, hy, K5, K0, K1, hown, hfam, hbw, hyW⟩
                rw [← hy]
                have hgy : g < y := by omega
                have hzy : z < y := by omega
                have J0 := Lib.hid K0
                have J1 := Lib.hid K1
                have HYO := Lib.hid (show ∀ m, m < k → (cv m).ownBlock ≠ some y from fun m hm e => by have := (HFA.out.lt hm e).2; omega)
                have HOW := Lib.hid hown.out
                have HFA := Lib.hid hfam.out
                have HB := Lib.hid hbw
                have hzW := hbw.size
                have e3' : W.cell? ⟨g, i * 5 + 3, none⟩ = some (.slice ca ncl cc) := by
                  rcases HOW.out.form with ⟨h0, -⟩ | ⟨g', cap, e, h1, -, -, h2, h3⟩
                  · simp at h0
                  · simp only [Value.slice.injEq, Option.some.injEq, Addr.mk.injEq, true_and, and_true] at e
                    obtain ⟨rfl, -⟩ := e
                    have := h3 i 3 hik (by omega)
                    rw [Nat.zero_add] at this; rw [this, ← hcv]; rfl
                have s1 := exc_but_cell (K1.cell 0) (rfl : _ = z)
                have s8 := exc_but_cell e3' (rfl : _ = g)
                have s11 := exc_but_cell (K5.cell 2) (rfl : _ = y)
                have s15 := exc_but_cell (K5.cell 3) (rfl : _ = y)
                have HAM := Lib.hid (fun W => amount_any x3 W y3)
                have HX := Lib.hid (amt_fits x3)
                unfold ofQ at HX
                generalize rn (amt x3) = xn at *
                generalize rs (amt x3) = xs at *
                generalize rd (amt x3) = xd at *
                clear hy K5 K0 K1 hown hfam hbw z0 e3 c0 c1 c2' c3'
                obtain ⟨S, hS⟩ : ∃ S : Nat → World → Prop, S = fun k => if k = 1 ∨ k = 4 then Exc W (butB z) else if k = 8 then Exc W (butB g) else if k = 11 ∨ k = 15 then Exc W (butB y) else fun _ => True := ⟨_, rfl⟩
                have S0 : S 0 = fun _ => True := by subst hS; rfl
                have S1 : S 1 = Exc W (butB z) := by subst hS; rfl
                have S2 : S 2 = fun _ => True := by subst hS; rfl
                have S3 : S 3 = fun _ => True := by subst hS; rfl
                have S4 : S 4 = Exc W (butB z) := by subst hS; rfl
                have S5 : S 5 = fun _ => True := by subst hS; rfl
                have S6 : S 6 = fun _ => True := by subst hS; rfl
                have S7 : S 7 = fun _ => True := by subst hS; rfl
                have S8 : S 8 = Exc W (butB g) := by subst hS; rfl
                have S9 : S 9 = fun _ => True := by subst hS; rfl
                have S10 : S 10 = fun _ => True := by subst hS; rfl
                have S11 : S 11 = Exc W (butB y) := by subst hS; rfl
                have S12 : S 12 = fun _ => True := by subst hS; rfl
                have S13 : S 13 = fun _ => True := by subst hS; rfl
                have S14 : S 14 = fun _ => True := by subst hS; rfl
                have S15 : S 15 = Exc W (butB y) := by subst hS; rfl
                have S17 : S 17 = fun _ => True := by subst hS; rfl
                have S20 : S 20 = fun _ => True := by subst hS; rfl
                have S21 : S 21 = fun _ => True := by subst hS; rfl
                have hSK : ∀ k, k ∉ [1, 4, 8, 11, 15] → ∀ w, S k w := fun k hk w => by subst hS; simp at hk; simp [hk]
                have hSX : ∀ k W', Below W.heap.size W W' → S k W' := fun k W' h => by
                  subst hS
                  by_cases h1 : k = 1 ∨ k = 4
                  · simp only [if_pos h1]; exact exc_but h.os h.tape h.output h.size (h.block z (by omega))
                  · by_cases h2 : k = 8
                    · simp only [if_neg h1, if_pos h2]; exact exc_but h.os h.tape h.output h.size (h.block g (by omega))
                    · by_cases h3 : k = 11 ∨ k = 15
                      · simp only [if_neg h1, if_neg h2, if_pos h3]; exact exc_but h.os h.tape h.output h.size (h.block y (by omega))
                      · simp only [if_neg h1, if_neg h2, if_neg h3]
                have hSZ : ∀ k W', k ∈ [1, 4, 11] → Exc W (butB z) W' → Exc W (butB y) W' → S k W' := fun k W' hk h1 h2 => by
                  subst hS
                  by_cases e1 : k = 1 ∨ k = 4
                  · simp only [if_pos e1]; exact h1
                  · have e2 : k = 11 := by simp at hk; omega
                    subst e2; exact h2
                clear hS
                have HSX := Lib.hid hSX
                have HSZ := Lib.hid hSZ
                refine wp_region_segsN S [16, 18, 19, 22] [1, 4, 8, 11, 15] [([0, 1, 2, 3, 4, 5, 6, 7, 8, 9, 10, 11, 12, 13, 14, 15], 16, [1, 4, 8, 11]), ([17], 18, [1, 4, 8, 11]), ([], 19, [1, 4, 11]), ([20, 21], 22, [])] [] (by kernel_rfl) (by kernel_rfl) (by kernel_rfl) (by kernel_rfl) hSK (fun k => hSX k _ (Below.refl _ _).drew) ?_
                clear hSX hSZ
                refine wpSegsN_cons ?_
                repeat (refine wpQS_cons ?_; simp only [getOps, gl9]; (try simp only [S0, S1, S2, S3, S4, S5, S6, S7, S8, S9, S10, S11, S12, S13, S14, S15]); (first | go_big_quiet_skip | (refine wpQuiet_step (fun K hK => ?_); go_simp; (try simp (disch := omega) only [ar9]); (first | (refine hK _ ?_; clear hK K) | (simp (disch := omega) only [if_pos, dif_pos, if_neg, dif_neg, ar9]; go_simp; refine hK _ ?_; clear hK K)))); refine wpQuiet_nil ?_)
                with_reducible refine wpQS_nil ?_
                (try simp only [getOps, gl9])
                go_step
                rename_i K9 hK9
                refine (HAM.out _).mono ?_
                rintro e w5 ⟨rfl, hb5⟩
                have hbW : Below W.heap.size W w5 := chain (Below.refl W.heap.size W).drew hb5 (Nat.le_refl _)
                have HW5 := Lib.hid hbW
                have hzs := hbW.size
                obtain ⟨v9, w9, hr9, hfam9, hb9, hk9, ⟨a99, cap99, rfl⟩⟩ := HFA.out.app (w := w5) (t := 81) hbW hik (⟨HV, (x2 : Int) % 3, ⟨xn, xs, xd⟩⟩ : C5) Tryz.underlying81 claimInfo (by omega) rfl (c5_one _) (by omega) (by omega) (by omega) (fun b hb => by have : g = b := Option.some.inj hb; omega)
                rw [hcv, hcl] at hr9
                have hgk : w9.heap[g]? = w5.heap[g]? := hk9 g (by omega) (fun e => HFA.out.out i g hik e.symm rfl)
                have hyk : w9.heap[y]? = W.heap[y]? := (hk9 y (by omega) (fun e => HYO.out i hik e.symm)).trans (hbW.block y (by omega))
                have hzk : w9.heap[z]? = W.heap[z]? := (hk9 z (by omega) (fun e => by have := (HFA.out.lt hik e.symm).1; omega)).trans (hbW.block z (by omega))
                have h0k : w9.heap[w.heap.size]? = W.heap[w.heap.size]? := (hk9 w.heap.size (by omega) (fun e => by have := (HFA.out.lt hik e.symm).1; omega)).trans (hbW.block w.heap.size (by omega))
                have ho9 : SOwn w9 (z + 1) 84 5 (.slice (some ⟨g, 0, none⟩) k ec) k (fun i => estC (ix ql i) (cv i) (.slice none 0 0)) := (HOW.out.on hbW).keepOwn fun b hb => by
                  obtain rfl : g = b := Option.some.inj hb
                  exact hgk
                have f9 := ho9.frozen (i * 5 + 3)
                have d9 : w9.cell? ⟨g, i * 5 + 3, none⟩ = some (.slice ca ncl cc) := by
                  rw [World.cell?_of_block (w := W) (a := ⟨g, i * 5 + 3, none⟩) (hgk.trans (hbW.block g (by omega)))]; exact e3'
                have HS9 := Lib.hid ((ho9.setAt i 3 (.slice a99 (ncl + 1) cap99) hik (by omega)).congr (G := fun m => estC (ix ql m) (upd1 cv i (.slice a99 (ncl + 1) cap99) m) (.slice none 0 0)) fun m hm => by
                  by_cases e : m = i
                  · subst e; simp [updF, upd1, estC]
                  · simp [updF, upd1, e])
                have hj0 : Blk w9 w.heap.size #[.slice none 0 0, .slice none 0 0] := J0.out.block h0k
                have hj1 : Blk w9 z #[.slice (some ⟨g, 0, none⟩) k ec, .slice none 0 0] := J1.out.block hzk
                have P0 := Lib.hid (hj0.setOther ⟨g, i * 5 + 3, none⟩ (.slice a99 (ncl + 1) cap99) (by simp; omega))
                have P1 := Lib.hid (hj1.setOther ⟨g, i * 5 + 3, none⟩ (.slice a99 (ncl + 1) cap99) (by simp; omega))
                rw [hcl] at hfam9
                have HFA9 := Lib.hid (hfam9.setCell ⟨g, i * 5 + 3, none⟩ (.slice a99 (ncl + 1) cap99) rfl)
                have HB9 := Lib.hid ((HB.out.trans ((hbW.mono (by omega)).trans (hb9.mono (by omega)))).setCell (p := ⟨g, i * 5 + 3, none⟩) (by simp; omega) (.slice a99 (ncl + 1) cap99))
                have HCF9 := Lib.hid (show ∀ m, m < k → (upd1 cl i (cl i ++ [(⟨HV, (x2 : Int) % 3, ⟨xn, xs, xd⟩⟩ : C5)]) m).length ≤ 6 ∧ ∀ q, q < (upd1 cl i (cl i ++ [(⟨HV, (x2 : Int) % 3, ⟨xn, xs, xd⟩⟩ : C5)]) m).length → (ix (upd1 cl i (cl i ++ [(⟨HV, (x2 : Int) % 3, ⟨xn, xs, xd⟩⟩ : C5)]) m) q).a.fits 1000 from fun m hm => by
                  by_cases e : m = i
                  · subst e
                    rw [upd1_same]
                    refine ⟨by rw [List.length_append, List.length_singleton]; omega, fun q hq => ?_⟩
                    rw [List.length_append, List.length_singleton] at hq
                    rw [ix_append]
                    by_cases hql : q < (cl m).length
                    · rw [if_pos hql]; exact (HCF.out m hm).2 q hql
                    · rw [if_neg hql, if_pos (by omega)]; exact HX.out
                  · rw [upd1_other e]; exact HCF.out m hm)
                have hz9 := hb9.size
                have HE9 := Lib.hid (show Exc W (butB z) w9 ∧ Exc W (butB y) w9 from ⟨exc_but (hb9.os.trans hbW.os) (hb9.tape.trans hbW.tape) (hb9.output.trans hbW.output) (Nat.le_trans hzs hz9) hzk, exc_but (hb9.os.trans hbW.os) (hb9.tape.trans hbW.tape) (hb9.output.trans hbW.output) (Nat.le_trans hzs hz9) hyk⟩)
                have HR9 := Lib.hid (show ∀ ty, (Builtin.append_ #[81, 81] ty #[.slice ca ncl cc, .slice (some ⟨w5.heap.size, 0, none⟩) 1 1]).run Tryz.prog (w5.alloc (.cells #[.int .i64 HV, .int .i64 ((x2 : Int) % 3), .bool xn, .string xs, .string xd] 86)) = .ok (.slice a99 (ncl + 1) cap99) w9 from hr9)
                have HGW := Lib.hid (show g < (w9.setCell ⟨g, i * 5 + 3, none⟩ (.slice a99 (ncl + 1) cap99)).heap.size from by simp only [World.size_setCell]; omega)
                clear hr9 hfam9 hb9 hk9 hgk hyk hzk h0k ho9 hj0 hj1 hb5 hbW e3' hcv
                refine hK9 _ _ ?_
                clear hK9 K9
                refine segQ_normal ⟨fun m hm => HSX.out m _ HW5.out, ?_⟩
                refine wpSegsN_cons ?_
                repeat (refine wpQS_cons ?_; simp only [getOps, gl9]; (try simp only [S17]); (first | go_big_quiet_skip | (refine wpQuiet_step (fun K hK => ?_); go_simp; (try simp (disch := omega) only [ar9]); (first | (refine hK _ ?_; clear hK K) | (simp (disch := omega) only [if_pos, dif_pos, if_neg, dif_neg, ar9]; go_simp; refine hK _ ?_; clear hK K)))); refine wpQuiet_nil ?_)
                with_reducible refine wpQS_nil ?_
                (try simp only [getOps, gl9])
                go_step
                rename_i K9 hK9
                refine hK9 _ _ ?_
                clear hK9 K9
                refine segQ_normal ⟨fun m hm => HSX.out m _ (HW5.out.alloc hzs (.cells #[.int .i64 HV, .int .i64 ((x2 : Int) % 3), .bool xn, .string xs, .string xd] 86)), ?_⟩
                refine wpSegsN_cons ?_
                repeat (refine wpQS_cons ?_; simp only [getOps, gl9]; (first | go_big_quiet_skip | (refine wpQuiet_step (fun K hK => ?_); go_simp; (try simp (disch := omega) only [ar9]); (first | (refine hK _ ?_; clear hK K) | (simp (disch := omega) only [if_pos, dif_pos, if_neg, dif_neg, ar9]; go_simp; refine hK _ ?_; clear hK K)))); refine wpQuiet_nil ?_)
                with_reducible refine wpQS_nil ?_
                (try simp only [getOps, gl9])
                refine Lib.wpList_append_run _ rfl _ _ _ _ rfl _ _ rfl rfl _ _ (HR9.out _) ?_
                refine segQ_normal ⟨fun m hm => HSZ.out m _ hm HE9.out.1 HE9.out.2, ?_⟩
                refine wpSegsN_cons ?_
                repeat (refine wpQS_cons ?_; simp only [getOps, gl9]; (try simp only [S20, S21]); (first | go_big_quiet_skip | (refine wpQuiet_step (fun K hK => ?_); go_simp; (try simp (disch := omega) only [ar9]); (first | (refine hK _ ?_; clear hK K) | (simp (disch := omega) only [if_pos, dif_pos, if_neg, dif_neg, ar9]; go_simp; refine hK _ ?_; clear hK K)))); refine wpQuiet_nil ?_)
                with_reducible refine wpQS_nil ?_
                (try simp only [getOps, gl9])
                go_step
                rename_i K9 hK9
                refine hK9 _ _ ?_
                clear hK9 K9
                refine segQ_normal ⟨fun k hk => by simp at hk, ?_⟩
                refine wpSegsN_nil ?_
                repeat (refine wpQS_cons ?_; simp only [getOps, gl9]; (first | go_big_quiet_skip | (refine wpQuiet_step (fun K hK => ?_); go_simp; (try simp (disch := omega) only [ar9]); (first | (refine hK _ ?_; clear hK K) | (simp (disch := omega) only [if_pos, dif_pos, if_neg, dif_neg, ar9]; go_simp; refine hK _ ?_; clear hK K)))); refine wpQuiet_nil ?_)
                with_reducible refine wpQS_nil ?_
                go_wp2
                go_roundw
                case rel => exact ⟨j + 1, _, _, by go_num, by omega, P0.out, P1.out, HS9, HFA9, HCF9, HB9.out, HGW.out⟩
                case measure => simp [intOf]; omega
        · obtain rfl : j = m2 := by omega
          have hnl9 : decide ((j : Int) < (j : Int)) = false := by simp
          have HEN := Lib.hid (ests_no HOW.out HFA.out)
          have HEG := Lib.hid (show ((List.range k).map fun i => (⟨ix ql i, cl i, []⟩ : Est)).length = k ∧ ∀ i, i < k → GoodE (ix ((List.range k).map fun i => (⟨ix ql i, cl i, []⟩ : Est)) i) from ⟨by simp, fun i hi => by
            rw [show ix ((List.range k).map fun i => (⟨ix ql i, cl i, []⟩ : Est)) i = ⟨ix ql i, cl i, []⟩ from by unfold ix; simp [List.getD, hi]]
            exact ⟨⟨HFI.out.2 i hi, fun m hm => (HCF.out i hi).2 m hm, fun i j l hi => absurd hi (by simp), by have := (HCF.out i hi).1; show (cl i).length ≤ _; omega, by simp, fun i hi => absurd hi (by simp), fun i j hi => absurd hi (by simp)⟩, (HCF.out i hi).1, by simp⟩⟩)
          clear HOW HFA HFI HCF H2 HL2
          go_wp2_with fail
          go_loopw [109] (fun i wr => ∃ q, ∃ el : List Est, i = .int .i64 (q : Nat) ∧ q ≤ m3 ∧ Blk wr w.heap.size #[.slice none 0 0, .slice none 0 0] ∧ Blk wr z #[.slice (some ⟨g, 0, none⟩) k ec, .slice none 0 0] ∧ Hid (NO wr (z + 1) 84 5 QEst (.slice (some ⟨g, 0, none⟩) k ec) el) ∧ Hid (el.length = k ∧ ∀ i, i < k → GoodE (ix el i)) ∧ Below w.heap.size w wr ∧ g < wr.heap.size) (fun i _ => m3 - (intOf i).toNat)
          case atStart => exact ⟨0, _, rfl, by omega, J0.out, J1.out, HEN, HEG, HB.out, hgw⟩
          case round =>
            clear J0 J1 HB hgw hz1 hzb HEN HEG
            obtain ⟨q, el, rfl, hq, K0, K1, hno, hgd, hbw, hgw⟩ := hrel
            have J0 := Lib.hid K0
            have J1 := Lib.hid K1
            have HNO := Lib.hid hno.out
            have HGD := Lib.hid hgd.out
            have HB := Lib.hid hbw
            have hz1 := K1.lt
            have hzb := hbw.size
            clear K0 K1 hno hgd hbw
            by_cases hlq : q < m3
            · rcases H3.out with h0 | ⟨b, off, rfl, hb, hr⟩
              · omega
              obtain ⟨c0, c1, c2'⟩ := row3 (hr.below HB.out hb) hlq (Below.refl wr.heap.size wr) (by omega)
              have y0 := HL3.out q 0 hlq
              have y1 := HL3.out q 1 hlq
              have y2 := HL3.out q 2 hlq
              generalize L3 q 0 = x0 at *
              generalize L3 q 1 = x1 at *
              generalize L3 q 2 = x2 at *
              have i1 : (0 : Int) ≤ (q : Int) := by omega
              have i2 : (q : Int) < (m3 : Int) := by omega
              obtain ⟨i, hi⟩ : ∃ i, i = x0 % k := ⟨_, rfl⟩
              have hik : i < k := by rw [hi]; exact Nat.mod_lt _ (by omega)
              have hie : (x0 : Int).tmod (k : Int) = (i : Int) := by rw [hi]; rfl
              have hie2 : (x0 : Int) % (k : Int) = (i : Int) := by rw [hi]; exact (Int.natCast_emod _ _).symm
              have hk0 : ¬ (k : Int) = 0 := by omega
              have hk2 : ¬ k = 0 := by omega
              clear hi
              have z0 : (wr.alloc (.cells #[.int .u16 (x0 : Int), .int .u16 (x1 : Int), .int .u16 (x2 : Int)] 87)).cell? ⟨z, 0, none⟩ = some (.slice (some ⟨g, 0, none⟩) k ec) := (J1.out.alloc _).cell 0
              obtain ⟨ca, cc, aa, ac, hcel, hfr, hC, hA⟩ := HNO.out.estAll HGD.out.1 hik
              have hge := HGD.out.2 i hik
              have e4 : (wr.alloc (.cells #[.int .u16 (x0 : Int), .int .u16 (x1 : Int), .int .u16 (x2 : Int)] 87)).cell? ⟨g, i * 5 + 4, none⟩ = some (.slice aa (ix el i).a.length ac) := by
                rw [cell_alloc_old hgw, hcel 4 (by omega)]; rfl
              have i3 : (0 : Int) ≤ (i : Int) := by omega
              have i4 : (i : Int) < (k : Int) := by omega
              have HA1 := Lib.hid hA
              have HC1 := Lib.hid hC
              have HCE := Lib.hid hcel
              have HGE := Lib.hid hge
              clear hr hC hA hcel hge hfr
              generalize hna : (ix el i).a.length = na at *
              by_cases hfull : na < 2
              · have hf1 : decide ((na : Int) < 2) = true := by simp; omega
                have hf2 : (na : Int) < 2 := by omega
                go_wp2_with fail
                refine wp_forget (fun W => ∃ y, y = wr.heap.size ∧ Blk W y #[.int .u16 (x0 : Int), .int .u16 (x1 : Int), .int .u16 (x2 : Int)] ∧ Blk W w.heap.size #[.slice none 0 0, .slice none 0 0] ∧ Blk W z #[.slice (some ⟨g, 0, none⟩) k ec, .slice none 0 0] ∧ Below wr.heap.size wr W ∧ y + 1 ≤ W.heap.size)
                  ⟨_, rfl, Blk.new wr _ _, J0.out.alloc _, J1.out.alloc _, (Below.refl _ _).alloc (Nat.le_refl _) _, by simp⟩ ?_
                rintro W ⟨y, hy, K5, K0, K1, hbR, hyW⟩
                rw [← hy]
                have hgy : g < y := by omega
                have hzy : z < y := by omega
                have J0 := Lib.hid K0
                have J1 := Lib.hid K1
                have HNO := Lib.hid (HNO.out.on qkeep_est hbR)
                obtain ⟨ca, cc, aa, ac, hcel, hfr, hC, hA⟩ := HNO.out.estAll HGD.out.1 hik
                have HB := Lib.hid (chain HB.out hbR (Nat.le_refl _))
                have hzW := HB.out.size
                have HAG := Lib.hid (fun V (h1 : V.heap = W.heap) => agree_any (El (z + 1) W (.slice (some ⟨g, 0, none⟩) k ec)) (ix el i) (.slice ca (ix el i).c.length cc) (.slice aa (ix el i).a.length ac) x0 x1 x2 V (hC.keep ⟨fun b _ _ => by rw [h1]⟩ fun _ h => h) (hA.keep ⟨fun b _ _ => by rw [h1]⟩ fun _ h => h) (by have := HGE.out.c; omega) (by omega) HGE.out.s.lt HGE.out.s.lp y0 y1 y2)
                unfold Est.v at HAG
                have s1 := exc_but_cell (K1.cell 0) (rfl : _ = z)
                have g0 := hcel 0 (by omega)
                have g1 := hcel 1 (by omega)
                have g2 := hcel 2 (by omega)
                have g3 := hcel 3 (by omega)
                have g4 := hcel 4 (by omega)
                rw [Nat.add_zero] at g0
                have s7a := exc_but_cell (show W.cell? ⟨g, i * 5, none⟩ = some (.bool (ix el i).m.n) from g0) (rfl : _ = g)
                have s7b := exc_but_cell (show W.cell? ⟨g, i * 5 + 1, none⟩ = some (.string (ix el i).m.s) from g1) (rfl : _ = g)
                have s7c := exc_but_cell (show W.cell? ⟨g, i * 5 + 2, none⟩ = some (.string (ix el i).m.d) from g2) (rfl : _ = g)
                have s7d := exc_but_cell (show W.cell? ⟨g, i * 5 + 3, none⟩ = some (.slice ca (ix el i).c.length cc) from g3) (rfl : _ = g)
                have s7e := exc_but_cell (show W.cell? ⟨g, i * 5 + 4, none⟩ = some (.slice aa (ix el i).a.length ac) from g4) (rfl : _ = g)
                have s8a := exc_but_cell (K5.cell 0) (rfl : _ = y)
                have s8b := exc_but_cell (K5.cell 1) (rfl : _ = y)
                have s8c := exc_but_cell (K5.cell 2) (rfl : _ = y)
                clear hy K5 K0 K1 hbR z0 e4 c0 c1 c2' hcel hC hA g0 g1 g2 g3 g4 HA1 HC1 HCE hfr
                obtain ⟨S, hS⟩ : ∃ S : Nat → World → Prop, S = fun k => if k = 1 ∨ k = 4 then Exc W (butB z) else if k = 7 then Exc W (butB g) else if k = 8 then Exc W (butB y) else fun _ => True := ⟨_, rfl⟩
                have S0 : S 0 = fun _ => True := by subst hS; rfl
                have S1 : S 1 = Exc W (butB z) := by subst hS; rfl
                have S2 : S 2 = fun _ => True := by subst hS; rfl
                have S3 : S 3 = fun _ => True := by subst hS; rfl
                have S4 : S 4 = Exc W (butB z) := by subst hS; rfl
                have S5 : S 5 = fun _ => True := by subst hS; rfl
                have S6 : S 6 = fun _ => True := by subst hS; rfl
                have S7 : S 7 = Exc W (butB g) := by subst hS; rfl
                have S8 : S 8 = Exc W (butB y) := by subst hS; rfl
                have S10 : S 10 = fun _ => True := by subst hS; rfl
                have S11 : S 11 = fun _ => True := by subst hS; rfl
                have hSK : ∀ k, k ∉ [1, 4, 7, 8] → ∀ w, S k w := fun k hk w => by subst hS; simp at hk; simp [hk]
                have hSX : ∀ k W', Below W.heap.size W W' → S k W' := fun k W' h => by
                  subst hS
                  by_cases h1 : k = 1 ∨ k = 4
                  · simp only [if_pos h1]; exact exc_but h.os h.tape h.output h.size (h.block z (by omega))
                  · by_cases h2 : k = 7
                    · simp only [if_neg h1, if_pos h2]; exact exc_but h.os h.tape h.output h.size (h.block g (by omega))
                    · by_cases h3 : k = 8
                      · simp only [if_neg h1, if_neg h2, if_pos h3]; exact exc_but h.os h.tape h.output h.size (h.block y (by omega))
                      · simp only [if_neg h1, if_neg h2, if_neg h3]
                clear hS
                have HSX := Lib.hid hSX
                have HNA := Lib.hid hna
                clear hna
                generalize hmn : (ix el i).m.n = mn at *
                generalize hms : (ix el i).m.s = ms at *
                generalize hmd : (ix el i).m.d = md at *
                generalize hlc : (ix el i).c.length = nc9 at *
                generalize hla : (ix el i).a.length = na9 at *
                have HLA := Lib.hid (And.intro hlc hla)
                clear hmn hms hmd hlc hla
                refine wp_region_segsN S [9, 12] [1, 4, 7, 8] [([0, 1, 2, 3, 4, 5, 6, 7, 8], 9, [1, 4]), ([10, 11], 12, [])] [] (by kernel_rfl) (by kernel_rfl) (by kernel_rfl) (by kernel_rfl) hSK (fun k => hSX k _ (Below.refl _ _).drew) ?_
                clear hSX
                refine wpSegsN_cons ?_
                repeat (refine wpQS_cons ?_; simp only [getOps, gl9]; (try simp only [S0, S1, S2, S3, S4, S5, S6, S7, S8]); (first | go_big_quiet_skip | (refine wpQuiet_step (fun K hK => ?_); go_simp; (try simp (disch := omega) only [ar9]); (first | (refine hK _ ?_; clear hK K) | (simp (disch := omega) only [if_pos, dif_pos, if_neg, dif_neg, ar9]; go_simp; refine hK _ ?_; clear hK K)))); refine wpQuiet_nil ?_)
                with_reducible refine wpQS_nil ?_
                (try simp only [getOps, gl9])
                go_step
                rename_i K9 hK9
                refine (HAG.out W.drew rfl).mono ?_
                rintro e w5 ⟨v, t, rfl, hra, ht3, htf, hb5⟩
                have hbW : Below W.heap.size W w5 := chain (Below.refl W.heap.size W).drew hb5 (Nat.le_refl _)
                obtain ⟨va, vn, vc, rfl⟩ : ∃ a n c, v = .slice a n c := by obtain ⟨G, hS, -⟩ := hra; obtain ⟨x, y, h, -, -⟩ := hS.form; exact ⟨x, _, y, h⟩
                have HW5 := Lib.hid hbW
                have hzs := hbW.size
                have hNA9 := HNO.out.agrs HGD.out.1 hik hbW (by omega) hra
                have HN9 := Lib.hid hNA9
                have HG9 := Lib.hid (show (el.set i ⟨(ix el i).m, (ix el i).c, (ix el i).a ++ [t]⟩).length = k ∧ ∀ m, m < k → GoodE (ix (el.set i ⟨(ix el i).m, (ix el i).c, (ix el i).a ++ [t]⟩) m) from ⟨by rw [List.length_set]; exact HGD.out.1, fun m hm => by
                  by_cases e : m = i
                  · subst e
                    rw [show ix (el.set m ⟨(ix el m).m, (ix el m).c, (ix el m).a ++ [t]⟩) m = ⟨(ix el m).m, (ix el m).c, (ix el m).a ++ [t]⟩ from by unfold ix; simp [List.getD, HGD.out.1, hm]]
                    exact HGE.out.more (by have := HNA.out; have := HLA.out.2; omega) ht3 (by rw [← HLA.out.1] at htf; exact htf)
                  · rw [show ix (el.set i ⟨(ix el i).m, (ix el i).c, (ix el i).a ++ [t]⟩) m = ix el m from by unfold ix; simp [List.getD, List.getElem?_set, Ne.symm e]]
                    exact HGD.out.2 m hm⟩)
                obtain ⟨xa, xb, xc, xd, hcel5, hfr5, -, -⟩ := (HNO.out.on qkeep_est hbW).estAll HGD.out.1 hik
                have d9 := hcel5 4 (by omega)
                have d9' : ∃ u, w5.cell? ⟨g, i * 5 + 4, none⟩ = some u := ⟨_, d9⟩
                obtain ⟨u9, d99⟩ := d9'
                have f9 := hfr5 (i * 5 + 4)
                have P0 := Lib.hid ((J0.out.on hbW).setOther ⟨g, i * 5 + 4, none⟩ (.slice va vn vc) (by simp; omega))
                have P1 := Lib.hid ((J1.out.on hbW).setOther ⟨g, i * 5 + 4, none⟩ (.slice va vn vc) (by simp; omega))
                have HB9 := Lib.hid ((HB.out.trans (hbW.mono (by omega))).setCell (p := ⟨g, i * 5 + 4, none⟩) (by simp; omega) (.slice va vn vc))
                have HGW := Lib.hid (show g < (w5.setCell ⟨g, i * 5 + 4, none⟩ (.slice va vn vc)).heap.size from by simp only [World.size_setCell]; omega)
                clear hra ht3 htf hb5 hbW hNA9 hcel5 hfr5 d9
                refine hK9 _ _ ?_
                clear hK9 K9
                refine segQ_normal ⟨fun m hm => HSX.out m _ HW5.out, ?_⟩
                refine wpSegsN_cons ?_
                repeat (refine wpQS_cons ?_; simp only [getOps, gl9]; (try simp only [S10, S11]); (first | go_big_quiet_skip | (refine wpQuiet_step (fun K hK => ?_); go_simp; (try simp (disch := omega) only [ar9]); (first | (refine hK _ ?_; clear hK K) | (simp (disch := omega) only [if_pos, dif_pos, if_neg, dif_neg, ar9]; go_simp; refine hK _ ?_; clear hK K)))); refine wpQuiet_nil ?_)
                with_reducible refine wpQS_nil ?_
                (try simp only [getOps, gl9])
                go_step
                rename_i K9 hK9
                refine hK9 _ _ ?_
                clear hK9 K9
                refine segQ_normal ⟨fun k hk => by simp at hk, ?_⟩
                refine wpSegsN_nil ?_
                repeat (refine wpQS_cons ?_; simp only [getOps, gl9]; (first | go_big_quiet_skip | (refine wpQuiet_step (fun K hK => ?_); go_simp; (try simp (disch := omega) only [ar9]); (first | (refine hK _ ?_; clear hK K) | (simp (disch := omega) only [if_pos, dif_pos, if_neg, dif_neg, ar9]; go_simp; refine hK _ ?_; clear hK K)))); refine wpQuiet_nil ?_)
                with_reducible refine wpQS_nil ?_
                go_wp2
                go_roundw
                case rel => exact ⟨q + 1, _, by go_num, by omega, P0.out, P1.out, HN9, HG9, HB9.out, HGW.out⟩
                case measure => simp [intOf]; omega
              · have hf1 : decide ((na : Int) < 2) = false := by simp; omega
                have hf2 : ¬ (na : Int) < 2 := by omega
                have hbA : Below wr.heap.size wr (wr.alloc (.cells #[.int .u16 (x0 : Int), .int .u16 (x1 : Int), .int .u16 (x2 : Int)] 87)) := (Below.refl _ _).alloc (Nat.le_refl _) _
                have P0 := Lib.hid (J0.out.on hbA)
                have P1 := Lib.hid (J1.out.on hbA)
                have HN9 := Lib.hid (HNO.out.on qkeep_est hbA)
                have HB9 := Lib.hid (chain HB.out hbA (Nat.le_refl _))
                have hgA := hbA.size
                clear hbA hna
                go_wp2
                go_roundw
                case rel => exact ⟨q + 1, el, by go_num, by omega, P0.out, P1.out, HN9, HGD, HB9.out, by omega⟩
                case measure => simp [intOf]; omega
            · obtain rfl : q = m3 := by omega
              have hnl9 : decide ((q : Int) < (q : Int)) = false := by simp
              have HRE := Lib.hid (show REsts wr (Fr (z + 1) wr) (.slice (some ⟨g, 0, none⟩) k ec) el from HNO.out.toRL qkeep_est)
              clear HNO H3 HL3
              go_wp2_with fail
              go_loopw [141] (fun i wr => ∃ j dv, ∃ dl : List Dbt, i = .int .i64 (j : Nat) ∧ j ≤ m4 ∧ Blk wr w.heap.size #[.slice none 0 0, .slice none 0 0] ∧ Blk wr z #[.slice (some ⟨g, 0, none⟩) k ec, dv] ∧ Hid (REsts wr (Fr (z + 1) wr) (.slice (some ⟨g, 0, none⟩) k ec) el) ∧ Hid (RDbts wr (Fr (z + 1) wr) dv dl) ∧ Hid (dl.length ≤ 3 ∧ ∀ i, i < dl.length → (ix dl i).w.fits 1000 ∧ (ix dl i).l.length ≤ 4) ∧ Below w.heap.size w wr) (fun i _ => m4 - (intOf i).toNat)
              case atStart => exact ⟨0, _, [], rfl, by omega, J0.out, J1.out, HRE, RL.nil _ _ _ _, ⟨by simp, fun i hi => absurd hi (by simp)⟩, HB.out⟩
              case round =>
                clear J0 J1 HB hgw hz1 hzb HRE
                obtain ⟨j, dv, dl, rfl, hj, K0, K1, hre, hrd, hdf, hbw⟩ := hrel
                have J0 := Lib.hid K0
                have J1 := Lib.hid K1
                have HRE := Lib.hid hre.out
                have HRD := Lib.hid hrd.out
                have HDF := Lib.hid hdf.out
                have HB := Lib.hid hbw
                have hz1 := K1.lt
                have hzb := hbw.size
                obtain ⟨da, dc, rfl⟩ : ∃ a c, dv = .slice a dl.length c := by obtain ⟨G, hS, -⟩ := HRD.out; obtain ⟨x, y, h, -, -⟩ := hS.form; exact ⟨x, y, h⟩
                have z0 := K1.cell 0
                have z1 := K1.cell 1
                clear K0 hre hrd hdf hbw
                by_cases hlj : j < m4
                · rcases H4.out with h0 | ⟨b, off, rfl, hb, hr⟩
                  · omega
                  obtain ⟨c0, c1, c2'⟩ := row3 (hr.below HB.out hb) hlj (Below.refl wr.heap.size wr) (by omega)
                  have y0 := HL4.out j 0 hlj
                  have y1 := HL4.out j 1 hlj
                  have y2 := HL4.out j 2 hlj
                  generalize L4 j 0 = x0 at *
                  generalize L4 j 1 = x1 at *
                  generalize L4 j 2 = x2 at *
                  have i1 : (0 : Int) ≤ (j : Int) := by omega
                  have i2 : (j : Int) < (m4 : Int) := by omega
                  have hbA : Below wr.heap.size wr (wr.alloc (.cells #[.int .u16 (x0 : Int), .int .u16 (x1 : Int), .int .u16 (x2 : Int)] 87)) := (Below.refl _ _).alloc (Nat.le_refl _) _
                  have q0 : (wr.alloc (.cells #[.int .u16 (x0 : Int), .int .u16 (x1 : Int), .int .u16 (x2 : Int)] 87)).cell? ⟨z, 0, none⟩ = some (.slice (some ⟨g, 0, none⟩) k ec) := (J1.out.alloc _).cell 0
                  have q1 : (wr.alloc (.cells #[.int .u16 (x0 : Int), .int .u16 (x1 : Int), .int .u16 (x2 : Int)] 87)).cell? ⟨z, 1, none⟩ = some (.slice da dl.length dc) := (J1.out.alloc _).cell 1
                  have HOE := Lib.hid (owe_any (Fr (z + 1) wr) el dl (.slice (some ⟨g, 0, none⟩) k ec) (.slice da dl.length dc) x0 x1 x2 _ (HRE.out.on hbA) (HRD.out.on hbA) (by rw [HGD.out.1]; omega) (fun i hi => by have := (HGD.out.2 i (by rw [← HGD.out.1]; exact hi)).c; omega) (by have := HDF.out.1; omega) (fun i hi => by have := (HDF.out.2 i hi).2; omega) y0 y1 y2)
                  have HBA := Lib.hid hbA
                  clear hr hbA z0 z1 K1
                  generalize hdl : dl.length = nd at *
                  by_cases hfull : nd < 3
                  · have hf1 : decide ((nd : Int) < 3) = true := by simp; omega
                    have hf2 : (nd : Int) < 3 := by omega
                    go_wp2_with fail
                    refine HOE.out.mono ?_
                    rintro e w5 ⟨v, t, rfl, hrd, htw, htl, hb5⟩
                    obtain ⟨va, vn, vc, rfl⟩ : ∃ a n c, v = .slice a n c := by obtain ⟨G, hS, -⟩ := hrd; obtain ⟨x, y, h, -, -⟩ := hS.form; exact ⟨x, _, y, h⟩
                    have hbW := (boxes1 hb5).2
                    have hzs := hbW.size
                    have M8 := J1.out.on hbW
                    have c9 := M8.cell 1
                    have f9 := M8.frozen 1
                    have MS := Lib.hid (M8.set 1 (.slice va vn vc))
                    have P0 := Lib.hid ((J0.out.on hbW).setOther ⟨z, 1, none⟩ (.slice va vn vc) (by simp; omega))
                    have HRE9 := Lib.hid (show REsts (w5.setCell ⟨z, 1, none⟩ (.slice va vn vc)) (Fr (z + 1) (w5.setCell ⟨z, 1, none⟩ (.slice va vn vc))) (.slice (some ⟨g, 0, none⟩) k ec) el from HRE.out.keep ⟨fun b hb hl => by
                      rw [heap_setCell_other _ _ _ _ (by have := hb.1; simp; omega)]; exact hbW.block b hl⟩ fun b hb => ⟨hb.1, by have := hb.2; simp only [World.size_setCell]; omega⟩)
                    have HRD9 := Lib.hid (show RDbts (w5.setCell ⟨z, 1, none⟩ (.slice va vn vc)) (Fr (z + 1) (w5.setCell ⟨z, 1, none⟩ (.slice va vn vc))) (.slice va vn vc) (dl ++ [t]) from hrd.keep ⟨fun b hb hl => by
                      rw [heap_setCell_other _ _ _ _ (by rcases hb with hb | hb; (have := hb.1; simp; omega); (have := hb.1; simp at this; simp; omega))]⟩ fun b hb => ⟨by rcases hb with hb | hb; (exact hb.1); (have := hb.1; simp at this; omega), by rcases hb with hb | hb; (have := hb.2; simp only [World.size_setCell]; omega); (have := hb.2; simp only [World.size_setCell]; omega)⟩)
                    have HDF9 := Lib.hid (show (dl ++ [t]).length ≤ 3 ∧ ∀ i, i < (dl ++ [t]).length → (ix (dl ++ [t]) i).w.fits 1000 ∧ (ix (dl ++ [t]) i).l.length ≤ 4 from ⟨by rw [List.length_append, List.length_singleton]; omega, fun i hi => by
                      rw [List.length_append, List.length_singleton] at hi
                      rw [ix_append]
                      by_cases h : i < dl.length
                      · rw [if_pos h]; exact HDF.out.2 i (by omega)
                      · rw [if_neg h, if_pos (by omega)]; exact ⟨htw, htl⟩⟩)
                    have HB9 := Lib.hid ((chain HB.out hbW (Nat.le_refl _)).setCell (p := ⟨z, 1, none⟩) (by simp; omega) (.slice va vn vc))
                    clear hrd htw htl hb5 hbW M8
                    go_wp2
                    go_roundw
                    case rel => exact ⟨j + 1, _, _, by go_num, by omega, P0.out, MS.out, HRE9, HRD9, HDF9, HB9.out⟩
                    case measure => simp [intOf]; omega
                  · have hf1 : decide ((nd : Int) < 3) = false := by simp; omega
                    have hf2 : ¬ (nd : Int) < 3 := by omega
                    have P0 := Lib.hid (J0.out.on HBA.out)
                    have P1 := Lib.hid (J1.out.on HBA.out)
                    have hsA := HBA.out.size
                    have HRE9 := Lib.hid (HRE.out.keep (q := Fr (z + 1) (wr.alloc (.cells #[.int .u16 (x0 : Int), .int .u16 (x1 : Int), .int .u16 (x2 : Int)] 87))) (.of_below HBA.out) fun b hb => ⟨hb.1, Nat.lt_of_lt_of_le hb.2 hsA⟩)
                    have HRD9 := Lib.hid (HRD.out.keep (q := Fr (z + 1) (wr.alloc (.cells #[.int .u16 (x0 : Int), .int .u16 (x1 : Int), .int .u16 (x2 : Int)] 87))) (.of_below HBA.out) fun b hb => ⟨hb.1, Nat.lt_of_lt_of_le hb.2 hsA⟩)
                    have HB9 := Lib.hid (chain HB.out HBA.out (Nat.le_refl _))
                    have HDL := Lib.hid hdl
                    clear hsA HBA HOE hdl
                    go_wp2
                    go_roundw
                    case rel => exact ⟨j + 1, .slice da nd dc, dl, by go_num, by omega, P0.out, P1.out, HRE9, HRD9, by rw [HDL.out]; exact HDF, HB9.out⟩
                    case measure => simp [intOf]; omega
                · obtain rfl : j = m4 := by omega
                  have hnl9 : decide ((j : Int) < (j : Int)) = false := by simp
                  have r0 := J0.out.cell 0
                  have r1 := J0.out.cell 1
                  have f0 := J0.out.frozen 0
                  have f1 := J0.out.frozen 1
                  have HSG := Lib.hid (show SmallG 1000 ⟨el, dl⟩ from ⟨fun i hi => (HGD.out.2 i (by rw [← HGD.out.1]; exact hi)).s, fun i hi => (HDF.out.2 i hi).1, by show el.length ≤ _; rw [HGD.out.1]; omega, by show dl.length ≤ _; have := HDF.out.1; omega, fun i hi => by have := (HDF.out.2 i hi).2; show (ix dl i).l.length ≤ _; omega⟩)
                  clear K1
                  go_wp2
                  refine bodyPost_forget (fun V => Blk V w.heap.size #[.slice (some ⟨g, 0, none⟩) k ec, .slice da dl.length dc] ∧ REsts V (Fr w.heap.size V) (.slice (some ⟨g, 0, none⟩) k ec) el ∧ RDbts V (Fr w.heap.size V) (.slice da dl.length dc) dl ∧ Below w.heap.size w V)
                    ⟨by exact (J0.out.set 0 _).set 1 _, ?_, ?_, by exact (HB.out.setCell (p := ⟨w.heap.size, 0, none⟩) (by simp) _).setCell (p := ⟨w.heap.size, 1, none⟩) (by simp) _⟩ ?_
                  · refine HRE.out.keep ⟨fun b hb hl => ?_⟩ fun b hb => ⟨by have := hb.1; omega, ?_⟩
                    · have := hb.1
                      rw [heap_setCell_other _ _ _ _ (by simp; omega), heap_setCell_other _ _ _ _ (by simp; omega)]
                    · have := hb.2; simp only [World.size_setCell]; omega
                  · refine HRD.out.keep ⟨fun b hb hl => ?_⟩ fun b hb => ⟨by have := hb.1; omega, ?_⟩
                    · have := hb.1
                      rw [heap_setCell_other _ _ _ _ (by simp; omega), heap_setCell_other _ _ _ _ (by simp; omega)]
                    · have := hb.2; simp only [World.size_setCell]; omega
                  · rintro WR ⟨hr9, hn9, hd9, hb9⟩
                    have y0 : WR.cell? ⟨w.heap.size, 0, none⟩ = some (.slice (some ⟨g, 0, none⟩) k ec) := hr9.cell 0
                    have y1 : WR.cell? ⟨w.heap.size, 1, none⟩ = some (.slice da dl.length dc) := hr9.cell 1
                    exact bodyPost_ret (v := .agg #[.slice (some ⟨g, 0, none⟩) k ec, .slice da dl.length dc]) (by simp [results, Tryz.results22, go_sem, y0, y1]) rfl ⟨_, _, ⟨el, dl⟩, rfl, hn9, hd9, HSG.out, hb9⟩
end Go.Proofs.Ins
