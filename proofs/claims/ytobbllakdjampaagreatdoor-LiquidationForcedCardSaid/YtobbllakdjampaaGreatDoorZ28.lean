/- What a group without error is like: its lengths; what Forced gives of it. -/
import Derived.Test.YtobbllakdjampaaGreatDoorZ27
import Derived.Lib.SliceRun
import Derived.Test.YtobbllakdjampaaGreatDoorZ1
import Derived.Test.YtobbllakdjampaaGreatDoorZ21
import Derived.Test.YtobbllakdjampaaGreatDoorZ25

set_option linter.unusedSimpArgs false
set_option linter.unusedVariables false
namespace Go.Proofs.Ins
open Go.RowKit

theorem lg_one (x : Lg) : ∀ u ∈ x.c, u.oneCell' = true := by unfold Lg.c; simp [Value.oneCell']
theorem legInfo : (Tryz.prog.info? 118).map (fun i => (i.zero.map (fun z => z.cells.size), i.size, i.bytes)) = some (some 2, 2, 16) := by kernel_rfl
def RetLegs (w : World) (l : List Lg) : Ending → World → Prop := fun x w' => ∃ v', x = .returned v' ∧ RLegs w' (Fr w.heap.size w') v' l ∧ Below w.heap.size w w'
theorem RL.of_own {α : Type} [Inhabited α] {w : World} {B : Nat} {T : TypeId} {sz : Nat} {c : α → List Value} {v : Value} {l : List α} (h : SOwn w B T sz v l.length (fun i => c (ix l i))) : RL w (Fr B w) sz (QV c) v l := by
  refine RL.of_plain ?_
  rcases h.form with ⟨rfl, hn⟩ | ⟨g, cap, rfl, h1, h2, h3, h4, h5⟩
  · exact ⟨none, 0, by rw [hn], by omega, by omega, .inl hn, h.2⟩
  · exact ⟨_, cap, rfl, h2, h3, .inr ⟨g, 0, rfl, ⟨h1, h4⟩, h4, h5⟩, h.2⟩

set_option maxRecDepth 100000 in
set_option maxHeartbeats 1600000 in
theorem clone_legs (p : Nat → Prop) (l : List Lg) (v : Value) (w : World) (h : RLegs w p v l) (hl : l.length ≤ 1000000) :
    Calls Tryz.prog 83 #[v] w (RetLegs w l) := by
  have HP := Lib.hid h.plain
  have HPA := Lib.hid (RLegs.keep h (w' := w) ⟨fun _ _ _ => rfl⟩ fun _ h => h)
  obtain ⟨a, cap, rfl, -, -⟩ := h.plain.form
  unfold RetLegs
  clear h
  have q94 : ∀ (w : World) (a : Option Addr) (n c : Nat), (binOp .eql 94 (.slice a n c) (.slice none 0 0)).run Tryz.prog w = .ok (.bool a.isNone) w := fun w a n c => Lib.run_eql_slice_nil w _ _ a n c 0 0 Tryz.underlying94
  cases a with
  | none =>
    have hl0 : l = [] := by
      obtain ⟨a', cap', hv, -, -, h3, -⟩ := HP.out
      rcases h3 with h3 | ⟨b, off, ha, -⟩
      · exact List.length_eq_zero_iff.mp h3
      · simp only [Value.slice.injEq] at hv; rw [← hv.1] at ha; cases ha
    subst hl0
    go_enter Tryz.func83, Tryz.ntmps83
    go_wp2
    go_ret
    exact ⟨_, rfl, RL.nil _ _ _ _, Below.refl _ _⟩
  | some ad =>
    have hown : SOwn (w.alloc (.cells #[] 118)) w.heap.size 118 2 (.slice (some ⟨w.heap.size, 0, none⟩) 0 0) 0 (fun _ => []) := ⟨World.ownsRow_made w #[] 0 (Nat.le_refl _) (Nat.zero_le _) rfl, fun i hi => by omega⟩
    obtain ⟨v', w', hr, ho, hb⟩ := append_sl (t := 94) Tryz.underlying94 legInfo (by omega) hown (HP.out.keep (w' := w.alloc (.cells #[] 118)) fun b _ hb => Below.heap_alloc w _ b hb) (fun i hi u hu => lg_one _ u hu) (by omega) (by omega) (by simp)
    have HR := Lib.hid hr
    have HO := Lib.hid (show SOwn w' w.heap.size 118 2 v' l.length (fun i => (ix l i).c) from by rw [Nat.zero_add] at ho; exact ho.congr fun i hi => by simp)
    have HB := Lib.hid (((Below.refl _ _).alloc (Nat.le_refl _) (.cells #[] 118)).trans hb)
    clear hr ho hb hown
    go_enter Tryz.func83, Tryz.ntmps83
    go_wp2_with (at_builtin; refine Lib.wpList_append_run _ rfl _ _ _ _ rfl _ _ rfl rfl _ _ (HR.out _) ?_)
    go_ret
    exact ⟨_, rfl, RL.of_own HO.out, HB.out⟩
end Go.Proofs.Ins

set_option linter.unusedSimpArgs false
set_option linter.unusedVariables false
namespace Go.Proofs.Ins
open Go.RowKit

set_option maxRecDepth 100000 in
theorem samepart_eq (k : Int) (b n : Bool) (s d : ByteArray) (w : World) :
    Calls Tryz.prog 120 #[.agg #[.int .i64 k, .bool b, .bool n, .string s, .string d], .agg #[.int .i64 k, .bool b, .bool n, .string s, .string d]] w fun e w' => e = .returned (.bool true) ∧ Below w.heap.size w w' := by
  go_enter Tryz.func120, Tryz.ntmps120
  go_wp2
  go_ret
  exact ⟨rfl, ((Below.refl _ _).alloc (Nat.le_refl _) _).alloc (by simp) _⟩

set_option maxRecDepth 100000 in
set_option maxHeartbeats 1600000 in
theorem samelegs_eq (p p' : Nat → Prop) (l : List Lg) (v v' : Value) (w : World) (h1 : RLegs w p v l) (h2 : RLegs w p' v' l) (hl : l.length ≤ 1000000) :
    Calls Tryz.prog 58 #[v, v'] w fun e w' => e = .returned (.bool true) ∧ Below w.heap.size w w' := by
  obtain ⟨a1, c1, rfl, -, -⟩ := h1.plain.form
  obtain ⟨a2, c2, rfl, -, -⟩ := h2.plain.form
  have H1 := Lib.hid h1.plain
  have H2 := Lib.hid h2.plain
  clear h1 h2
  generalize hn : l.length = n at *
  go_enter Tryz.func58, Tryz.ntmps58
  go_wp2_with fail
  go_loopw [5] (fun i wr => ∃ k : Nat, i = .int .i64 k ∧ k ≤ n ∧ Below w.heap.size w wr) (fun i _ => n - (intOf i).toNat)
  case atStart => exact ⟨0, rfl, by omega, Below.refl _ _⟩
  case round =>
    obtain ⟨k, rfl, hk, hb⟩ := hrel
    have HB := Lib.hid hb
    clear hb
    by_cases hlt : k < n
    · obtain ⟨b1, o1, rfl, -, -, -⟩ := H1.out.get (by omega)
      obtain ⟨b2, o2, rfl, -, -, -⟩ := H2.out.get (by omega)
      have x0 := H1.out.cellAt rfl HB.out (i := k) (j := 0) hlt (by omega)
      have y0 := H2.out.cellAt rfl HB.out (i := k) (j := 0) hlt (by omega)
      rw [Nat.add_zero] at x0 y0
      have m0 := cell_regrown (show wr.cell? ⟨b1, o1 + k * 2, none⟩ = some (.int .i64 (ix l k).e) from x0)
      have m1 := cell_regrown (show wr.cell? ⟨b1, o1 + k * 2 + 1, none⟩ = some (.int .i64 (ix l k).k) from H1.out.cellAt rfl HB.out (i := k) (j := 1) hlt (by omega))
      have m2 := cell_regrown (show wr.cell? ⟨b2, o2 + k * 2, none⟩ = some (.int .i64 (ix l k).e) from y0)
      have m3 := cell_regrown (show wr.cell? ⟨b2, o2 + k * 2 + 1, none⟩ = some (.int .i64 (ix l k).k) from H2.out.cellAt rfl HB.out (i := k) (j := 1) hlt (by omega))
      have i1 : (0 : Int) ≤ (k : Int) := by omega
      have i2 : (k : Int) < (n : Int) := by omega
      clear x0 y0
      go_wp2_with fail
      refine wp_region_qb (by kernel_rfl) (by kernel_rfl) ?_
      repeat (first | go_big_quiet_skip | (refine wpQuiet_step (fun K hK => ?_); go_simp; (try simp (disch := omega) only [ar9]); (first | (refine hK _ ?_; clear hK K) | (apply Exists.intro; refine ⟨fun _ => ?_, hK _ ?_⟩; (fail); clear hK K))))
      clear m0 m1 m2 m3
      refine wpQuiet_nil ?_
      intro W1 hb9
      have HB := Lib.hid (chain HB.out hb9 (Nat.le_refl _))
      clear hb9
      go_wp2
      go_roundw
      case rel => exact ⟨k + 1, by go_num, by omega, HB.out⟩
      case measure => simp [intOf]; omega
    · obtain rfl : k = n := by omega
      have hnl : decide ((k : Int) < (k : Int)) = false := by simp
      go_wp2
      go_ret
      exact ⟨rfl, HB.out⟩

set_option maxRecDepth 100000 in
set_option maxHeartbeats 3200000 in
theorem sameagr_eq (p p' : Nat → Prop) (tl : Agr) (v v' : Value) (w : World) (h1 : RTiers w p v tl) (h2 : RTiers w p' v' tl) (hl : tl.length ≤ 1000000) (hll : ∀ j, j < tl.length → (ix tl j).length ≤ 1000000) :
    Calls Tryz.prog 90 #[.agg #[v], .agg #[v']] w fun e w' => e = .returned (.bool true) ∧ Below w.heap.size w w' := by
  have HPT := Lib.hid (fun k b n s d w => samepart_eq k b n s d w)
  have HLL := Lib.hid hll
  obtain ⟨G1, hS1, hQ1⟩ := h1
  obtain ⟨G2, hS2, hQ2⟩ := h2
  obtain ⟨a1, c1, rfl, -, -⟩ := hS1.form
  obtain ⟨a2, c2, rfl, -, -⟩ := hS2.form
  have HS1 := Lib.hid hS1
  have HS2 := Lib.hid hS2
  have HQ1 := Lib.hid (fun i hi => by
    obtain ⟨pv, hg, hR⟩ := hQ1 i hi
    obtain ⟨a3, c3, rfl, -, -⟩ := hR.plain.form
    exact (⟨a3, c3, hg, hR⟩ : ∃ a3 c3, G1 i = [.slice a3 (ix tl i).length c3] ∧ RParts w p (.slice a3 (ix tl i).length c3) (ix tl i)))
  have HQ2 := Lib.hid (fun i hi => by
    obtain ⟨pv, hg, hR⟩ := hQ2 i hi
    obtain ⟨a3, c3, rfl, -, -⟩ := hR.plain.form
    exact (⟨a3, c3, hg, hR⟩ : ∃ a3 c3, G2 i = [.slice a3 (ix tl i).length c3] ∧ RParts w p' (.slice a3 (ix tl i).length c3) (ix tl i)))
  clear hS1 hS2 hQ1 hQ2 hll
  generalize hn : tl.length = n at *
  go_enter Tryz.func90, Tryz.ntmps90
  go_wp2_with fail
  refine wp_forget (fun W => Blk W w.heap.size #[.slice a1 n c1] ∧ Blk W (w.heap.size + 1) #[.slice a2 n c2] ∧ Below w.heap.size w W) (duo w _ _ _ _) ?_
  rintro W ⟨K0, K1, hbel⟩
  have J0 := Lib.hid K0
  have J1 := Lib.hid K1
  have HB := Lib.hid hbel
  clear K0 K1 hbel
  go_loopw [5] (fun i wr => ∃ k : Nat, i = .int .i64 k ∧ k ≤ n ∧ Blk wr w.heap.size #[.slice a1 n c1] ∧ Blk wr (w.heap.size + 1) #[.slice a2 n c2] ∧ Below w.heap.size w wr) (fun i _ => n - (intOf i).toNat)
  case atStart => exact ⟨0, rfl, by omega, J0.out, J1.out, HB.out⟩
  case round =>
    obtain ⟨k, rfl, hk, K0, K1, hbel⟩ := hrel
    have J0 := Lib.hid K0
    have J1 := Lib.hid K1
    have HB := Lib.hid hbel
    have k0 : wr.cell? ⟨w.heap.size, 0, none⟩ = some (.slice a1 n c1) := K0.cell 0
    clear K0 K1 hbel
    by_cases hlt : k < n
    · obtain ⟨b1, o1, rfl, -, hb1, -⟩ := HS1.out.get (by omega)
      obtain ⟨b2, o2, rfl, -, hb2, -⟩ := HS2.out.get (by omega)
      obtain ⟨a3, c3, hg1, hR1⟩ := HQ1.out k hlt
      obtain ⟨a4, c4, hg2, hR2⟩ := HQ2.out k hlt
      have HX := Lib.hid (fun W (h : Below w.heap.size w W) => HS1.out.cellAt rfl h (i := k) (j := 0) hlt (by omega))
      have HY := Lib.hid (fun W (h : Below w.heap.size w W) => HS2.out.cellAt rfl h (i := k) (j := 0) hlt (by omega))
      rw [hg1, Nat.mul_one, Nat.add_zero] at HX
      rw [hg2, Nat.mul_one, Nat.add_zero] at HY
      have HP1 := Lib.hid hR1.plain
      have HP2 := Lib.hid hR2.plain
      have hln := HLL.out k hlt
      have i1 : (0 : Int) ≤ (k : Int) := by omega
      have i2 : (k : Int) < (n : Int) := by omega
      clear hg1 hg2 hR1 hR2 HQ1 HQ2 HS1 HS2 HLL
      generalize hnp : (ix tl k).length = np at *
      generalize ix tl k = pl at *
      have m0 := cell_regrown (show wr.cell? ⟨w.heap.size, 0, none⟩ = some (.slice (some ⟨b1, o1, none⟩) n c1) from J0.out.cell 0)
      have m1 := cell_regrown (show wr.cell? ⟨w.heap.size + 1, 0, none⟩ = some (.slice (some ⟨b2, o2, none⟩) n c2) from J1.out.cell 0)
      have m2 := cell_regrown (show wr.cell? ⟨b1, o1 + k, none⟩ = some (.slice a3 np c3) from HX.out wr HB.out)
      have m3 := cell_regrown (show wr.cell? ⟨b2, o2 + k, none⟩ = some (.slice a4 np c4) from HY.out wr HB.out)
      go_wp2_with fail
      refine wp_region_qb (by kernel_rfl) (by kernel_rfl) ?_
      repeat (first | go_big_quiet_skip | (refine wpQuiet_step (fun K hK => ?_); go_simp; (try simp (disch := omega) only [ar9]); (first | (refine hK _ ?_; clear hK K) | (apply Exists.intro; refine ⟨fun _ => ?_, hK _ ?_⟩; (fail); clear hK K))))
      clear m0 m1 m2 m3 k0
      refine wpQuiet_nil ?_
      intro W1 hb9
      have J0 := Lib.hid (J0.out.on hb9)
      have J1 := Lib.hid (J1.out.on hb9)
      have HB := Lib.hid (chain HB.out hb9 (Nat.le_refl _))
      clear hb9
      go_wp2_with fail
      go_loopw [6] (fun i wr => ∃ l : Nat, i = .int .i64 l ∧ l ≤ np ∧ Blk wr w.heap.size #[.slice (some ⟨b1, o1, none⟩) n c1] ∧ Blk wr (w.heap.size + 1) #[.slice (some ⟨b2, o2, none⟩) n c2] ∧ Below w.heap.size w wr) (fun i _ => np - (intOf i).toNat)
      case atStart => exact ⟨0, rfl, by omega, J0.out, J1.out, HB.out⟩
      case round =>
        obtain ⟨l, rfl, hl, K0, K1, hbel⟩ := hrel
        have J0 := Lib.hid K0
        have J1 := Lib.hid K1
        have HB := Lib.hid hbel
        have k0 : wr.cell? ⟨w.heap.size, 0, none⟩ = some (.slice (some ⟨b1, o1, none⟩) n c1) := K0.cell 0
        have k1 : wr.cell? ⟨b1, o1 + k, none⟩ = some (.slice a3 np c3) := HX.out wr HB.out
        clear K0 K1 hbel
        by_cases hll : l < np
        · obtain ⟨b3, o3, rfl, -, -, -⟩ := HP1.out.get (by omega)
          obtain ⟨b4, o4, rfl, -, -, -⟩ := HP2.out.get (by omega)
          have HD1 := Lib.hid (fun j (hj : j < 5) => HP1.out.cellAt rfl HB.out (i := l) (j := j) hll hj)
          have HD2 := Lib.hid (fun j (hj : j < 5) => HP2.out.cellAt rfl HB.out (i := l) (j := j) hll hj)
          have x0 := HD1.out 0 (by omega)
          have y0 := HD2.out 0 (by omega)
          rw [Nat.add_zero] at x0 y0
          have m0 := cell_regrown (show wr.cell? ⟨w.heap.size, 0, none⟩ = some (.slice (some ⟨b1, o1, none⟩) n c1) from J0.out.cell 0)
          have m1 := cell_regrown (show wr.cell? ⟨w.heap.size + 1, 0, none⟩ = some (.slice (some ⟨b2, o2, none⟩) n c2) from J1.out.cell 0)
          have m2 := cell_regrown (show wr.cell? ⟨b1, o1 + k, none⟩ = some (.slice (some ⟨b3, o3, none⟩) np c3) from HX.out wr HB.out)
          have m3 := cell_regrown (show wr.cell? ⟨b2, o2 + k, none⟩ = some (.slice (some ⟨b4, o4, none⟩) np c4) from HY.out wr HB.out)
          have p0 := cell_regrown (show wr.cell? ⟨b3, o3 + l * 5, none⟩ = some (.int .i64 (ix pl l).k) from x0)
          have p1 := cell_regrown (show wr.cell? ⟨b3, o3 + l * 5 + 1, none⟩ = some (.bool (ix pl l).b) from HD1.out 1 (by omega))
          have p2 := cell_regrown (show wr.cell? ⟨b3, o3 + l * 5 + 2, none⟩ = some (.bool (ix pl l).a.n) from HD1.out 2 (by omega))
          have p3 := cell_regrown (show wr.cell? ⟨b3, o3 + l * 5 + 3, none⟩ = some (.string (ix pl l).a.s) from HD1.out 3 (by omega))
          have p4 := cell_regrown (show wr.cell? ⟨b3, o3 + l * 5 + 4, none⟩ = some (.string (ix pl l).a.d) from HD1.out 4 (by omega))
          have q0 := cell_regrown (show wr.cell? ⟨b4, o4 + l * 5, none⟩ = some (.int .i64 (ix pl l).k) from y0)
          have q1 := cell_regrown (show wr.cell? ⟨b4, o4 + l * 5 + 1, none⟩ = some (.bool (ix pl l).b) from HD2.out 1 (by omega))
          have q2 := cell_regrown (show wr.cell? ⟨b4, o4 + l * 5 + 2, none⟩ = some (.bool (ix pl l).a.n) from HD2.out 2 (by omega))
          have q3 := cell_regrown (show wr.cell? ⟨b4, o4 + l * 5 + 3, none⟩ = some (.string (ix pl l).a.s) from HD2.out 3 (by omega))
          have q4 := cell_regrown (show wr.cell? ⟨b4, o4 + l * 5 + 4, none⟩ = some (.string (ix pl l).a.d) from HD2.out 4 (by omega))
          have i3 : (0 : Int) ≤ (l : Int) := by omega
          have i4 : (l : Int) < (np : Int) := by omega
          clear x0 y0 HD1 HD2
          generalize (ix pl l).k = kk at *
          generalize (ix pl l).b = bb at *
          generalize (ix pl l).a.n = an at *
          generalize (ix pl l).a.s = as' at *
          generalize (ix pl l).a.d = ad at *
          go_wp2_with fail
          refine wp_region_qb (by kernel_rfl) (by kernel_rfl) ?_
          repeat (first | go_big_quiet_skip | (refine wpQuiet_step (fun K hK => ?_); go_simp; (try simp (disch := omega) only [ar9]); (first | (refine hK _ ?_; clear hK K) | (apply Exists.intro; refine ⟨fun _ => ?_, hK _ ?_⟩; (first | with_reducible exact Calls.later (HPT.out _ _ _ _ _ _)); clear hK K))))
          clear m0 m1 m2 m3 p0 p1 p2 p3 p4 q0 q1 q2 q3 q4 k0 k1
          refine wpQuiet_nil ?_
          intro W2 hb9
          have J0 := Lib.hid (J0.out.on hb9)
          have J1 := Lib.hid (J1.out.on hb9)
          have HB := Lib.hid (chain HB.out hb9 (Nat.le_refl _))
          clear hb9
          go_wp2
          go_roundw
          case rel => exact ⟨l + 1, by go_num, by omega, J0.out, J1.out, HB.out⟩
          case measure => simp [intOf]; omega
        · obtain rfl : l = np := by omega
          have hnl : decide ((l : Int) < (l : Int)) = false := by simp
          go_wp2
          go_roundw
          case rel => exact ⟨k + 1, by go_num, by omega, J0.out, J1.out, HB.out⟩
          case measure => simp [intOf]; omega
    · obtain rfl : k = n := by omega
      have hnl : decide ((k : Int) < (k : Int)) = false := by simp
      go_wp2
      go_ret
      exact ⟨rfl, HB.out⟩
end Go.Proofs.Ins

set_option linter.unusedSimpArgs false
set_option linter.unusedVariables false
namespace Go.Proofs.Ins
open Go.RowKit

/-- The lengths of a valid group. -/
structure LimG (g : Grp) : Prop where
  le : g.e.length ≤ 8
  ld : g.d.length ≤ 16
  e : ∀ i, i < g.e.length → LimE (ix g.e i)
  l : ∀ i, i < g.d.length → (ix g.d i).l.length ≤ 8

theorem REsts.elem {w : World} {p : Nat → Prop} {l : List Est} {G : Nat → List Value} (hQ : ∀ i, i < l.length → QEst w p (G i) (ix l i)) (i : Nat) (hi : i < l.length) :
    ∃ a2 c2 a3 c3, G i = [.bool (ix l i).m.n, .string (ix l i).m.s, .string (ix l i).m.d, .slice a2 (ix l i).c.length c2, .slice a3 (ix l i).a.length c3] ∧ RClaims w p (.slice a2 (ix l i).c.length c2) (ix l i).c ∧ RAgrs w p (.slice a3 (ix l i).a.length c3) (ix l i).a := by
  obtain ⟨cv, av, hg, hC, hA⟩ := hQ i hi
  obtain ⟨a2, c2, rfl, -, -⟩ := hC.plain.form
  obtain ⟨a3, c3, rfl, -, -⟩ := (show ∃ a3 c3, av = .slice a3 (ix l i).a.length c3 ∧ True ∧ True from by obtain ⟨G, hS, -⟩ := hA; obtain ⟨x, y, h, -, -⟩ := hS.form; exact ⟨x, y, h, trivial, trivial⟩)
  exact ⟨a2, c2, a3, c3, hg, hC, hA⟩
theorem RDbts.elem {w : World} {p : Nat → Prop} {l : List Dbt} {G : Nat → List Value} (hQ : ∀ i, i < l.length → QDbt w p (G i) (ix l i)) (i : Nat) (hi : i < l.length) :
    ∃ a2 c2, G i = [.bool (ix l i).w.n, .string (ix l i).w.s, .string (ix l i).w.d, .slice a2 (ix l i).l.length c2] ∧ RLegs w p (.slice a2 (ix l i).l.length c2) (ix l i).l := by
  obtain ⟨lv, hg, hL⟩ := hQ i hi
  obtain ⟨a2, c2, rfl, -, -⟩ := hL.plain.form
  exact ⟨a2, c2, hg, hL⟩
theorem RAgrs.elem {w : World} {p : Nat → Prop} {l : List Agr} {G : Nat → List Value} (hQ : ∀ i, i < l.length → QAgr w p (G i) (ix l i)) (i : Nat) (hi : i < l.length) :
    ∃ a2 c2, G i = [.slice a2 (ix l i).length c2] ∧ RTiers w p (.slice a2 (ix l i).length c2) (ix l i) := by
  obtain ⟨v, hg, hA⟩ := hQ i hi
  obtain ⟨a3, c3, rfl, -, -⟩ := (show ∃ a3 c3, v = .slice a3 (ix l i).length c3 ∧ True ∧ True from by obtain ⟨G, hS, -⟩ := hA; obtain ⟨x, y, h, -, -⟩ := hS.form; exact ⟨x, y, h, trivial, trivial⟩)
  exact ⟨a3, c3, hg, hA⟩

set_option maxRecDepth 100000 in
set_option maxHeartbeats 3200000 in
theorem sameestate_eq (p p' : Nat → Prop) (e : Est) (cv av cv' av' : Value) (w : World) (h1 : RClaims w p cv e.c) (h2 : RAgrs w p av e.a) (h3 : RClaims w p' cv' e.c) (h4 : RAgrs w p' av' e.a) (hl : LimE e) :
    Calls Tryz.prog 57 #[e.v cv av, e.v cv' av'] w fun x w' => x = .returned (.bool true) ∧ Below w.heap.size w w' := by
  obtain ⟨lc, la, lt, lp⟩ := hl
  have HLT := Lib.hid lt
  have HLP := Lib.hid lp
  obtain ⟨a1, c1, rfl, -, -⟩ := h1.plain.form
  obtain ⟨a2, c2, rfl, -, -⟩ := h3.plain.form
  have HC1 := Lib.hid h1.plain
  have HC2 := Lib.hid h3.plain
  obtain ⟨G1, hS1, hQ1⟩ := h2
  obtain ⟨G2, hS2, hQ2⟩ := h4
  obtain ⟨a3, c3, rfl, -, -⟩ := hS1.form
  obtain ⟨a4, c4, rfl, -, -⟩ := hS2.form
  have HS1 := Lib.hid hS1
  have HS2 := Lib.hid hS2
  have HQ1 := Lib.hid (RAgrs.elem hQ1)
  have HQ2 := Lib.hid (RAgrs.elem hQ2)
  unfold Est.v
  clear h1 h3 hS1 hS2 hQ1 hQ2 lt lp
  generalize hcl : e.c = cl at *
  generalize hal : e.a = al at *
  generalize e.m = m at *
  clear hcl hal
  generalize m.n = mn at *
  generalize m.s = ms at *
  generalize m.d = md at *
  generalize hnc : cl.length = nc at *
  generalize hna : al.length = na at *
  go_enter Tryz.func57, Tryz.ntmps57
  go_wp2_with fail
  refine wp_forget (fun W => Blk W w.heap.size #[.bool mn, .string ms, .string md, .slice a1 nc c1, .slice a3 na c3] ∧ Blk W (w.heap.size + 1) #[.bool mn, .string ms, .string md, .slice a2 nc c2, .slice a4 na c4] ∧ Below w.heap.size w W) (duo w _ _ _ _) ?_
  rintro W ⟨K0, K1, hbel⟩
  have J0 := Lib.hid K0
  have J1 := Lib.hid K1
  have HB := Lib.hid hbel
  clear K0 K1 hbel
  go_loopw [5] (fun i wr => ∃ k : Nat, i = .int .i64 k ∧ k ≤ nc ∧ Blk wr w.heap.size #[.bool mn, .string ms, .string md, .slice a1 nc c1, .slice a3 na c3] ∧ Blk wr (w.heap.size + 1) #[.bool mn, .string ms, .string md, .slice a2 nc c2, .slice a4 na c4] ∧ Below w.heap.size w wr) (fun i _ => nc - (intOf i).toNat)
  case atStart => exact ⟨0, rfl, by omega, J0.out, J1.out, HB.out⟩
  case round =>
    obtain ⟨k, rfl, hk, K0, K1, hbel⟩ := hrel
    have J0 := Lib.hid K0
    have J1 := Lib.hid K1
    have HB := Lib.hid hbel
    have k3 : wr.cell? ⟨w.heap.size, 3, none⟩ = some (.slice a1 nc c1) := K0.cell 3
    have k4 : wr.cell? ⟨w.heap.size, 4, none⟩ = some (.slice a3 na c3) := K0.cell 4
    clear K0 K1 hbel
    by_cases hlt : k < nc
    · obtain ⟨b1, o1, rfl, -, -, -⟩ := HC1.out.get (by omega)
      obtain ⟨b2, o2, rfl, -, -, -⟩ := HC2.out.get (by omega)
      have HD1 := Lib.hid (fun j (hj : j < 5) => HC1.out.cellAt rfl HB.out (i := k) (j := j) hlt hj)
      have HD2 := Lib.hid (fun j (hj : j < 5) => HC2.out.cellAt rfl HB.out (i := k) (j := j) hlt hj)
      have x0 := HD1.out 0 (by omega)
      have y0 := HD2.out 0 (by omega)
      rw [Nat.add_zero] at x0 y0
      have m0 := cell_regrown (show wr.cell? ⟨w.heap.size, 3, none⟩ = some (.slice (some ⟨b1, o1, none⟩) nc c1) from J0.out.cell 3)
      have m1 := cell_regrown (show wr.cell? ⟨w.heap.size + 1, 3, none⟩ = some (.slice (some ⟨b2, o2, none⟩) nc c2) from J1.out.cell 3)
      have p0 := cell_regrown (show wr.cell? ⟨b1, o1 + k * 5, none⟩ = some (.int .i64 (ix cl k).h) from x0)
      have p1 := cell_regrown (show wr.cell? ⟨b1, o1 + k * 5 + 1, none⟩ = some (.int .i64 (ix cl k).r) from HD1.out 1 (by omega))
      have p2 := cell_regrown (show wr.cell? ⟨b1, o1 + k * 5 + 2, none⟩ = some (.bool (ix cl k).a.n) from HD1.out 2 (by omega))
      have p3 := cell_regrown (show wr.cell? ⟨b1, o1 + k * 5 + 3, none⟩ = some (.string (ix cl k).a.s) from HD1.out 3 (by omega))
      have p4 := cell_regrown (show wr.cell? ⟨b1, o1 + k * 5 + 4, none⟩ = some (.string (ix cl k).a.d) from HD1.out 4 (by omega))
      have q0 := cell_regrown (show wr.cell? ⟨b2, o2 + k * 5, none⟩ = some (.int .i64 (ix cl k).h) from y0)
      have q1 := cell_regrown (show wr.cell? ⟨b2, o2 + k * 5 + 1, none⟩ = some (.int .i64 (ix cl k).r) from HD2.out 1 (by omega))
      have q2 := cell_regrown (show wr.cell? ⟨b2, o2 + k * 5 + 2, none⟩ = some (.bool (ix cl k).a.n) from HD2.out 2 (by omega))
      have q3 := cell_regrown (show wr.cell? ⟨b2, o2 + k * 5 + 3, none⟩ = some (.string (ix cl k).a.s) from HD2.out 3 (by omega))
      have q4 := cell_regrown (show wr.cell? ⟨b2, o2 + k * 5 + 4, none⟩ = some (.string (ix cl k).a.d) from HD2.out 4 (by omega))
      have i1 : (0 : Int) ≤ (k : Int) := by omega
      have i2 : (k : Int) < (nc : Int) := by omega
      clear x0 y0 HD1 HD2 HQ1 HQ2 HS1 HS2 HLT HLP
      generalize (ix cl k).h = hh at *
      generalize (ix cl k).r = rr at *
      generalize (ix cl k).a.n = an at *
      generalize (ix cl k).a.s = as' at *
      generalize (ix cl k).a.d = ad at *
      go_wp2_with fail
      refine wp_region_qb (by kernel_rfl) (by kernel_rfl) ?_
      repeat (first | go_big_quiet_skip | (refine wpQuiet_step (fun K hK => ?_); go_simp; (try simp (disch := omega) only [ar9]); (first | (refine hK _ ?_; clear hK K) | (apply Exists.intro; refine ⟨fun _ => ?_, hK _ ?_⟩; (fail); clear hK K))))
      clear m0 m1 p0 p1 p2 p3 p4 q0 q1 q2 q3 q4 k3 k4
      refine wpQuiet_nil ?_
      intro W2 hb9
      have J0 := Lib.hid (J0.out.on hb9)
      have J1 := Lib.hid (J1.out.on hb9)
      have HB := Lib.hid (chain HB.out hb9 (Nat.le_refl _))
      clear hb9
      go_wp2
      go_roundw
      case rel => exact ⟨k + 1, by go_num, by omega, J0.out, J1.out, HB.out⟩
      case measure => simp [intOf]; omega
    · obtain rfl : k = nc := by omega
      have hnl : decide ((k : Int) < (k : Int)) = false := by simp
      clear HC1 HC2
      go_wp2_with fail
      clear k3 k4
      go_loopw [6] (fun i wr => ∃ q : Nat, i = .int .i64 q ∧ q ≤ na ∧ Blk wr w.heap.size #[.bool mn, .string ms, .string md, .slice a1 k c1, .slice a3 na c3] ∧ Blk wr (w.heap.size + 1) #[.bool mn, .string ms, .string md, .slice a2 k c2, .slice a4 na c4] ∧ Below w.heap.size w wr) (fun i _ => na - (intOf i).toNat)
      case atStart => exact ⟨0, rfl, by omega, J0.out, J1.out, HB.out⟩
      case round =>
        obtain ⟨q, rfl, hq, K0, K1, hbel⟩ := hrel
        have J0 := Lib.hid K0
        have J1 := Lib.hid K1
        have HB := Lib.hid hbel
        have k4 : wr.cell? ⟨w.heap.size, 4, none⟩ = some (.slice a3 na c3) := K0.cell 4
        clear K0 K1 hbel
        by_cases hlq : q < na
        · obtain ⟨b1, o1, rfl, -, -, -⟩ := HS1.out.get (by omega)
          obtain ⟨b2, o2, rfl, -, -, -⟩ := HS2.out.get (by omega)
          obtain ⟨a5, c5, hg1, hR1⟩ := HQ1.out q hlq
          obtain ⟨a6, c6, hg2, hR2⟩ := HQ2.out q hlq
          have x0 := HS1.out.cellAt rfl HB.out (i := q) (j := 0) hlq (by omega)
          have y0 := HS2.out.cellAt rfl HB.out (i := q) (j := 0) hlq (by omega)
          rw [hg1, Nat.mul_one, Nat.add_zero] at x0
          rw [hg2, Nat.mul_one, Nat.add_zero] at y0
          have HAG := Lib.hid (fun d9 os9 => (fun (h : Below w.heap.size w (Sort.grow (redrawn wr d9) os9)) => sameagr_eq p p' (ix al q) _ _ _ (hR1.on h) (hR2.on h) (by have := HLT.out q hlq; omega) (fun j hj => by have := HLP.out q j hlq hj; omega)) (HB.out.trans ((below_regrown wr d9 os9).mono HB.out.size)))
          have m0 := cell_regrown (show wr.cell? ⟨w.heap.size, 4, none⟩ = some (.slice (some ⟨b1, o1, none⟩) na c3) from J0.out.cell 4)
          have m1 := cell_regrown (show wr.cell? ⟨w.heap.size + 1, 4, none⟩ = some (.slice (some ⟨b2, o2, none⟩) na c4) from J1.out.cell 4)
          have p0 := cell_regrown (show wr.cell? ⟨b1, o1 + q, none⟩ = some (.slice a5 (ix al q).length c5) from x0)
          have q0 := cell_regrown (show wr.cell? ⟨b2, o2 + q, none⟩ = some (.slice a6 (ix al q).length c6) from y0)
          have i1 : (0 : Int) ≤ (q : Int) := by omega
          have i2 : (q : Int) < (na : Int) := by omega
          clear x0 y0 hg1 hg2 hR1 hR2 HQ1 HQ2 HS1 HS2 HLT HLP
          generalize (ix al q).length = nq at *
          go_wp2_with fail
          refine wp_region_qb (by kernel_rfl) (by kernel_rfl) ?_
          repeat (first | go_big_quiet_skip | (refine wpQuiet_step (fun K hK => ?_); go_simp; (try simp (disch := omega) only [ar9]); (first | (refine hK _ ?_; clear hK K) | (apply Exists.intro; refine ⟨fun _ => ?_, hK _ ?_⟩; (first | with_reducible exact Calls.later (HAG.out _ _)); clear hK K))))
          clear m0 m1 p0 q0 k4
          refine wpQuiet_nil ?_
          intro W2 hb9
          have J0 := Lib.hid (J0.out.on hb9)
          have J1 := Lib.hid (J1.out.on hb9)
          have HB := Lib.hid (chain HB.out hb9 (Nat.le_refl _))
          clear hb9
          go_wp2
          go_roundw
          case rel => exact ⟨q + 1, by go_num, by omega, J0.out, J1.out, HB.out⟩
          case measure => simp [intOf]; omega
        · obtain rfl : q = na := by omega
          have hnl : decide ((q : Int) < (q : Int)) = false := by simp
          go_wp2
          go_ret
          exact ⟨rfl, HB.out⟩

set_option maxRecDepth 100000 in
set_option maxHeartbeats 3200000 in
theorem samegroup_eq (p p' : Nat → Prop) (g : Grp) (v v' : Value) (w : World) (h1 : RGrp w p v g) (h2 : RGrp w p' v' g) (hl : LimG g) :
    Calls Tryz.prog 25 #[v, v'] w fun x w' => x = .returned (.bool true) ∧ Below w.heap.size w w' := by
  have HSE := Lib.hid (fun i (hi : i < g.e.length) cv av cv' av' w h1 h2 h3 h4 => (show Calls Tryz.prog 57 #[.agg #[.bool (ix g.e i).m.n, .string (ix g.e i).m.s, .string (ix g.e i).m.d, cv, av], .agg #[.bool (ix g.e i).m.n, .string (ix g.e i).m.s, .string (ix g.e i).m.d, cv', av']] w (fun x w' => x = .returned (.bool true) ∧ Below w.heap.size w w') from sameestate_eq p p' (ix g.e i) cv av cv' av' w h1 h2 h3 h4 (hl.e i hi)))
  have HSL := Lib.hid (fun i (hi : i < g.d.length) v v' w h1 h2 => samelegs_eq p p' (ix g.d i).l v v' w h1 h2 (by have := hl.l i hi; omega))
  have le := hl.le
  have ld := hl.ld
  obtain ⟨ev, dv, rfl, ⟨G1, hS1, hQ1⟩, ⟨D1, hT1, hU1⟩⟩ := h1
  obtain ⟨ev', dv', rfl, ⟨G2, hS2, hQ2⟩, ⟨D2, hT2, hU2⟩⟩ := h2
  obtain ⟨a1, c1, rfl, -, -⟩ := hS1.form
  obtain ⟨a2, c2, rfl, -, -⟩ := hS2.form
  obtain ⟨a3, c3, rfl, -, -⟩ := hT1.form
  obtain ⟨a4, c4, rfl, -, -⟩ := hT2.form
  have HS1 := Lib.hid hS1
  have HS2 := Lib.hid hS2
  have HT1 := Lib.hid hT1
  have HT2 := Lib.hid hT2
  have HQ1 := Lib.hid (REsts.elem hQ1)
  have HQ2 := Lib.hid (REsts.elem hQ2)
  have HU1 := Lib.hid (RDbts.elem hU1)
  have HU2 := Lib.hid (RDbts.elem hU2)
  clear hl hS1 hS2 hT1 hT2 hQ1 hQ2 hU1 hU2
  generalize hne : g.e.length = ne at *
  generalize hnd : g.d.length = nd at *
  go_enter Tryz.func25, Tryz.ntmps25
  go_wp2_with fail
  refine wp_forget (fun W => Blk W w.heap.size #[.slice a1 ne c1, .slice a3 nd c3] ∧ Blk W (w.heap.size + 1) #[.slice a2 ne c2, .slice a4 nd c4] ∧ Below w.heap.size w W) (duo w _ _ _ _) ?_
  rintro W ⟨K0, K1, hbel⟩
  have J0 := Lib.hid K0
  have J1 := Lib.hid K1
  have HB := Lib.hid hbel
  clear K0 K1 hbel
  go_loopw [5] (fun i wr => ∃ k : Nat, i = .int .i64 k ∧ k ≤ ne ∧ Blk wr w.heap.size #[.slice a1 ne c1, .slice a3 nd c3] ∧ Blk wr (w.heap.size + 1) #[.slice a2 ne c2, .slice a4 nd c4] ∧ Below w.heap.size w wr) (fun i _ => ne - (intOf i).toNat)
  case atStart => exact ⟨0, rfl, by omega, J0.out, J1.out, HB.out⟩
  case round =>
    obtain ⟨k, rfl, hk, K0, K1, hbel⟩ := hrel
    have J0 := Lib.hid K0
    have J1 := Lib.hid K1
    have HB := Lib.hid hbel
    have k0 : wr.cell? ⟨w.heap.size, 0, none⟩ = some (.slice a1 ne c1) := K0.cell 0
    have k1 : wr.cell? ⟨w.heap.size, 1, none⟩ = some (.slice a3 nd c3) := K0.cell 1
    clear K0 K1 hbel
    by_cases hlt : k < ne
    · obtain ⟨b1, o1, rfl, -, -, -⟩ := HS1.out.get (by omega)
      obtain ⟨b2, o2, rfl, -, -, -⟩ := HS2.out.get (by omega)
      obtain ⟨x1, y1, x2, y2, hg1, hR1, hA1⟩ := HQ1.out k hlt
      obtain ⟨x3, y3, x4, y4, hg2, hR2, hA2⟩ := HQ2.out k hlt
      have HD1 := Lib.hid (fun j (hj : j < 5) => HS1.out.cellAt rfl HB.out (i := k) (j := j) hlt hj)
      have HD2 := Lib.hid (fun j (hj : j < 5) => HS2.out.cellAt rfl HB.out (i := k) (j := j) hlt hj)
      rw [hg1] at HD1
      rw [hg2] at HD2
      have HAG := Lib.hid (fun d9 os9 => (fun (h : Below w.heap.size w (Sort.grow (redrawn wr d9) os9)) => HSE.out k hlt _ _ _ _ _ (hR1.on h) (hA1.on h) (hR2.on h) (hA2.on h)) (HB.out.trans ((below_regrown wr d9 os9).mono HB.out.size)))
      have z1 := HD1.out 0 (by omega)
      have z2 := HD2.out 0 (by omega)
      rw [Nat.add_zero] at z1 z2
      have m0 := cell_regrown (show wr.cell? ⟨w.heap.size, 0, none⟩ = some (.slice (some ⟨b1, o1, none⟩) ne c1) from J0.out.cell 0)
      have m1 := cell_regrown (show wr.cell? ⟨w.heap.size + 1, 0, none⟩ = some (.slice (some ⟨b2, o2, none⟩) ne c2) from J1.out.cell 0)
      have p0 := cell_regrown (show wr.cell? ⟨b1, o1 + k * 5, none⟩ = some (.bool (ix g.e k).m.n) from z1)
      have p1 := cell_regrown (show wr.cell? ⟨b1, o1 + k * 5 + 1, none⟩ = some (.string (ix g.e k).m.s) from HD1.out 1 (by omega))
      have p2 := cell_regrown (show wr.cell? ⟨b1, o1 + k * 5 + 2, none⟩ = some (.string (ix g.e k).m.d) from HD1.out 2 (by omega))
      have p3 := cell_regrown (show wr.cell? ⟨b1, o1 + k * 5 + 3, none⟩ = some (.slice x1 (ix g.e k).c.length y1) from HD1.out 3 (by omega))
      have p4 := cell_regrown (show wr.cell? ⟨b1, o1 + k * 5 + 4, none⟩ = some (.slice x2 (ix g.e k).a.length y2) from HD1.out 4 (by omega))
      have q0 := cell_regrown (show wr.cell? ⟨b2, o2 + k * 5, none⟩ = some (.bool (ix g.e k).m.n) from z2)
      have q1 := cell_regrown (show wr.cell? ⟨b2, o2 + k * 5 + 1, none⟩ = some (.string (ix g.e k).m.s) from HD2.out 1 (by omega))
      have q2 := cell_regrown (show wr.cell? ⟨b2, o2 + k * 5 + 2, none⟩ = some (.string (ix g.e k).m.d) from HD2.out 2 (by omega))
      have q3 := cell_regrown (show wr.cell? ⟨b2, o2 + k * 5 + 3, none⟩ = some (.slice x3 (ix g.e k).c.length y3) from HD2.out 3 (by omega))
      have q4 := cell_regrown (show wr.cell? ⟨b2, o2 + k * 5 + 4, none⟩ = some (.slice x4 (ix g.e k).a.length y4) from HD2.out 4 (by omega))
      have i1 : (0 : Int) ≤ (k : Int) := by omega
      have i2 : (k : Int) < (ne : Int) := by omega
      clear z1 z2 HD1 HD2 hg1 hg2 hR1 hR2 hA1 hA2 HQ1 HQ2 HU1 HU2 HSE HSL
      generalize (ix g.e k).m.n = mn at *
      generalize (ix g.e k).m.s = ms at *
      generalize (ix g.e k).m.d = md at *
      generalize (ix g.e k).c.length = nc at *
      generalize (ix g.e k).a.length = na at *
      go_wp2_with fail
      refine wp_region_qb (by kernel_rfl) (by kernel_rfl) ?_
      repeat (first | go_big_quiet_skip | (refine wpQuiet_step (fun K hK => ?_); go_simp; (try simp (disch := omega) only [ar9]); (first | (refine hK _ ?_; clear hK K) | (apply Exists.intro; refine ⟨fun _ => ?_, hK _ ?_⟩; (first | with_reducible exact Calls.later (HAG.out _ _)); clear hK K))))
      clear m0 m1 p0 p1 p2 p3 p4 q0 q1 q2 q3 q4 k0 k1
      refine wpQuiet_nil ?_
      intro W2 hb9
      have J0 := Lib.hid (J0.out.on hb9)
      have J1 := Lib.hid (J1.out.on hb9)
      have HB := Lib.hid (chain HB.out hb9 (Nat.le_refl _))
      clear hb9
      go_wp2
      go_roundw
      case rel => exact ⟨k + 1, by go_num, by omega, J0.out, J1.out, HB.out⟩
      case measure => simp [intOf]; omega
    · obtain rfl : k = ne := by omega
      have hnl : decide ((k : Int) < (k : Int)) = false := by simp
      clear HS1 HS2 HQ1 HQ2 HSE
      go_wp2_with fail
      clear k0 k1
      go_loopw [6] (fun i wr => ∃ q : Nat, i = .int .i64 q ∧ q ≤ nd ∧ Blk wr w.heap.size #[.slice a1 k c1, .slice a3 nd c3] ∧ Blk wr (w.heap.size + 1) #[.slice a2 k c2, .slice a4 nd c4] ∧ Below w.heap.size w wr) (fun i _ => nd - (intOf i).toNat)
      case atStart => exact ⟨0, rfl, by omega, J0.out, J1.out, HB.out⟩
      case round =>
        obtain ⟨q, rfl, hq, K0, K1, hbel⟩ := hrel
        have J0 := Lib.hid K0
        have J1 := Lib.hid K1
        have HB := Lib.hid hbel
        have k1 : wr.cell? ⟨w.heap.size, 1, none⟩ = some (.slice a3 nd c3) := K0.cell 1
        clear K0 K1 hbel
        by_cases hlq : q < nd
        · obtain ⟨b1, o1, rfl, -, -, -⟩ := HT1.out.get (by omega)
          obtain ⟨b2, o2, rfl, -, -, -⟩ := HT2.out.get (by omega)
          obtain ⟨x1, y1, hg1, hR1⟩ := HU1.out q hlq
          obtain ⟨x3, y3, hg2, hR2⟩ := HU2.out q hlq
          have HD1 := Lib.hid (fun j (hj : j < 4) => HT1.out.cellAt rfl HB.out (i := q) (j := j) hlq hj)
          have HD2 := Lib.hid (fun j (hj : j < 4) => HT2.out.cellAt rfl HB.out (i := q) (j := j) hlq hj)
          rw [hg1] at HD1
          rw [hg2] at HD2
          have HAG := Lib.hid (fun d9 os9 => (fun (h : Below w.heap.size w (Sort.grow (redrawn wr d9) os9)) => HSL.out q hlq _ _ _ (hR1.on h) (hR2.on h)) (HB.out.trans ((below_regrown wr d9 os9).mono HB.out.size)))
          have z1 := HD1.out 0 (by omega)
          have z2 := HD2.out 0 (by omega)
          rw [Nat.add_zero] at z1 z2
          have m0 := cell_regrown (show wr.cell? ⟨w.heap.size, 1, none⟩ = some (.slice (some ⟨b1, o1, none⟩) nd c3) from J0.out.cell 1)
          have m1 := cell_regrown (show wr.cell? ⟨w.heap.size + 1, 1, none⟩ = some (.slice (some ⟨b2, o2, none⟩) nd c4) from J1.out.cell 1)
          have p0 := cell_regrown (show wr.cell? ⟨b1, o1 + q * 4, none⟩ = some (.bool (ix g.d q).w.n) from z1)
          have p1 := cell_regrown (show wr.cell? ⟨b1, o1 + q * 4 + 1, none⟩ = some (.string (ix g.d q).w.s) from HD1.out 1 (by omega))
          have p2 := cell_regrown (show wr.cell? ⟨b1, o1 + q * 4 + 2, none⟩ = some (.string (ix g.d q).w.d) from HD1.out 2 (by omega))
          have p3 := cell_regrown (show wr.cell? ⟨b1, o1 + q * 4 + 3, none⟩ = some (.slice x1 (ix g.d q).l.length y1) from HD1.out 3 (by omega))
          have q0 := cell_regrown (show wr.cell? ⟨b2, o2 + q * 4, none⟩ = some (.bool (ix g.d q).w.n) from z2)
          have q1 := cell_regrown (show wr.cell? ⟨b2, o2 + q * 4 + 1, none⟩ = some (.string (ix g.d q).w.s) from HD2.out 1 (by omega))
          have q2 := cell_regrown (show wr.cell? ⟨b2, o2 + q * 4 + 2, none⟩ = some (.string (ix g.d q).w.d) from HD2.out 2 (by omega))
          have q3 := cell_regrown (show wr.cell? ⟨b2, o2 + q * 4 + 3, none⟩ = some (.slice x3 (ix g.d q).l.length y3) from HD2.out 3 (by omega))
          have i1 : (0 : Int) ≤ (q : Int) := by omega
          have i2 : (q : Int) < (nd : Int) := by omega
          clear z1 z2 HD1 HD2 hg1 hg2 hR1 hR2 HU1 HU2 HSL
          generalize (ix g.d q).w.n = wn at *
          generalize (ix g.d q).w.s = ws at *
          generalize (ix g.d q).w.d = wd at *
          generalize (ix g.d q).l.length = nl at *
          go_wp2_with fail
          refine wp_region_qb (by kernel_rfl) (by kernel_rfl) ?_
          repeat (first | go_big_quiet_skip | (refine wpQuiet_step (fun K hK => ?_); go_simp; (try simp (disch := omega) only [ar9]); (first | (refine hK _ ?_; clear hK K) | (apply Exists.intro; refine ⟨fun _ => ?_, hK _ ?_⟩; (first | with_reducible exact Calls.later (HAG.out _ _)); clear hK K))))
          clear m0 m1 p0 p1 p2 p3 q0 q1 q2 q3 k1
          refine wpQuiet_nil ?_
          intro W2 hb9
          have J0 := Lib.hid (J0.out.on hb9)
          have J1 := Lib.hid (J1.out.on hb9)
          have HB := Lib.hid (chain HB.out hb9 (Nat.le_refl _))
          clear hb9
          go_wp2
          go_roundw
          case rel => exact ⟨q + 1, by go_num, by omega, J0.out, J1.out, HB.out⟩
          case measure => simp [intOf]; omega
        · obtain rfl : q = nd := by omega
          have hnl : decide ((q : Int) < (q : Int)) = false := by simp
          go_wp2
          go_ret
          exact ⟨rfl, HB.out⟩
end Go.Proofs.Ins

set_option linter.unusedSimpArgs false
set_option linter.unusedVariables false
namespace Go.Proofs.Ins

theorem limE_of {e : Est} (h : chkE e = 0) : LimE e := by
  unfold chkE at h
  by_cases h1 : 24 < e.c.length ∨ 12 < e.a.length
  · rw [if_pos h1] at h; omega
  rw [if_neg h1] at h
  by_cases h2 : sg e.m.q < 0
  · rw [if_pos h2] at h; omega
  rw [if_neg h2] at h
  by_cases h3 : fnz (fun i => chkC (ix e.c i)) e.c.length ≠ 0
  · rw [if_pos h3] at h; exact absurd h h3
  rw [if_neg h3] at h
  have h4 := fun k (hk : k < e.a.length) => fnz_zero h k hk
  have h5 : ∀ k, k < e.a.length → longT (ix e.a k) = false := fun k hk => by
    cases hl : longT (ix e.a k)
    · rfl
    · have := h4 k hk
      unfold chkA at this
      rw [if_pos hl] at this; omega
  exact ⟨by omega, by omega, fun i hi => (longT_false.mp (h5 i hi)).1, fun i j hi hj => (longT_false.mp (h5 i hi)).2 j hj⟩
theorem limG_of {g : Grp} (h : chkG g = 0) : LimG g := by
  unfold chkG at h
  by_cases h1 : 8 < g.e.length ∨ 16 < g.d.length
  · rw [if_pos h1] at h; omega
  rw [if_neg h1] at h
  by_cases h2 : fnz (fun i => chkE (ix g.e i)) g.e.length ≠ 0
  · rw [if_pos h2] at h; exact absurd h h2
  rw [if_neg h2] at h
  by_cases h3 : fnz (fun i => fnz (chkH g i) (ix g.e i).c.length) g.e.length ≠ 0
  · rw [if_pos h3] at h; exact absurd h h3
  rw [if_neg h3] at h
  have h2' : fnz (fun i => chkE (ix g.e i)) g.e.length = 0 := by omega
  refine ⟨by omega, by omega, fun i hi => limE_of (fnz_zero h2' i hi), fun i hi => ?_⟩
  have h4 := fnz_zero h i hi
  unfold chkD at h4
  by_cases h5 : 8 < (ix g.d i).l.length
  · rw [if_pos h5] at h4; omega
  · omega
/-- The lengths are those of the group it was made of. -/
theorem LimE.fr {e : Est} (h : LimE e) (f : Rat) : LimE (frE f e) := by
  refine ⟨by simpa [frE] using h.c, by simpa [frE] using h.a, fun i hi => ?_, fun i j hi hj => ?_⟩
  · have hi' : i < e.a.length := by simpa [frE] using hi
    have e1 : ix (frE f e).a i = clA (ix e.a i) := ix_map clA hi'
    rw [e1]; simpa [clA] using h.t i hi'
  · have hi' : i < e.a.length := by simpa [frE] using hi
    have e1 : ix (frE f e).a i = clA (ix e.a i) := ix_map clA hi'
    rw [e1] at hj ⊢
    have hj' : j < (ix e.a i).length := by simpa [clA] using hj
    have e2 : ix (clA (ix e.a i)) j = clT (ix (ix e.a i) j) := ix_map clT hj'
    rw [e2]; simpa [clT] using h.l i j hi' hj'
theorem LimG.fr {g : Grp} (h : LimG g) (f : Rat) : LimG (frG f g) := by
  refine ⟨by simpa [frG] using h.le, by simpa [frG] using h.ld, fun i hi => ?_, fun i hi => ?_⟩
  · have hi' : i < g.e.length := by simpa [frG] using hi
    have e1 : ix (frG f g).e i = frE f (ix g.e i) := ix_map (frE f) hi'
    rw [e1]; exact (h.e i hi').fr f
  · have hi' : i < g.d.length := by simpa [frG] using hi
    have e1 : ix (frG f g).d i = clD (ix g.d i) := ix_map clD hi'
    rw [e1]; exact h.l i hi'
theorem LimG.empty : LimG ⟨[], []⟩ := ⟨Nat.zero_le _, Nat.zero_le _, fun i hi => absurd hi (Nat.not_lt_zero i), fun i hi => absurd hi (Nat.not_lt_zero i)⟩
end Go.Proofs.Ins
