/- As SegN, but where two acts may come up in either order. -/
import Derived.Test.YtobbllakdjampaaGreatDoorZ29
import Derived.Test.YtobbllakdjampaaGreatDoorZ17
import Derived.Test.YtobbllakdjampaaGreatDoorZ16

set_option linter.unusedSimpArgs false
set_option linter.unusedVariables false
namespace Go.Proofs.Ins
open Go.RowKit

/-- n slices of the call's own, in blocks of their own, none of which meets X. -/
structure Fam {α : Type} [Inhabited α] (c : α → List Value) (w : World) (B : Nat) (T : TypeId) (sz n : Nat) (X : Nat → Prop) (vv : Nat → Value) (ls : Nat → List α) : Prop where
  own : ∀ i, i < n → SOwn w B T sz (vv i) (ls i).length (fun j => c (ix (ls i) j))
  dis : ∀ i j b, i < n → j < n → i ≠ j → (vv i).ownBlock = some b → (vv j).ownBlock ≠ some b
  out : ∀ i b, i < n → (vv i).ownBlock = some b → ¬ X b
def upd1 {β : Type} (f : Nat → β) (i : Nat) (x : β) (k : Nat) : β := if k = i then x else f k
theorem upd1_same {β : Type} (f : Nat → β) (i : Nat) (x : β) : upd1 f i x i = x := if_pos rfl
theorem upd1_other {β : Type} {f : Nat → β} {i k : Nat} {x : β} (h : k ≠ i) : upd1 f i x k = f k := if_neg h

theorem SOwn.own_lt {w : World} {B : Nat} {T : TypeId} {sz n : Nat} {v : Value} {F : Nat → List Value} (h : SOwn w B T sz v n F) {g : Nat} (hg : v.ownBlock = some g) : B ≤ g ∧ g < w.heap.size := by
  rcases h.form with ⟨rfl, -⟩ | ⟨g', cap, rfl, h1, -, -, h2, -⟩
  · cases hg
  · have : g' = g := Option.some.inj hg
    omega
theorem SOwn.keepOwn {w w' : World} {B : Nat} {T : TypeId} {sz n : Nat} {v : Value} {F : Nat → List Value} (h : SOwn w B T sz v n F) (hk : ∀ b, v.ownBlock = some b → w'.heap[b]? = w.heap[b]?) : SOwn w' B T sz v n F := by
  obtain ⟨⟨h1, h2⟩, h3⟩ := h
  refine ⟨⟨h1, ?_⟩, h3⟩
  rcases h2 with h2 | ⟨g, cap, cur, rfl, hb2, hg, hn, hm, hs, ht⟩
  · exact .inl h2
  · exact .inr ⟨g, cap, cur, rfl, hb2, (hk g rfl).trans hg, hn, hm, hs, ht⟩
/-- 'append(s, x)': what it leaves alone, too. -/
theorem SOwn.app {P : Program} {w0 w : World} {B : Nat} {T t : TypeId} {sz bytes n : Nat} {v : Value} {F : Nat → List Value} {E : List Value} (h : SOwn w0 B T sz v n F) (hb : Below w0.heap.size w0 w)
    (h1 : P.underlying t = some (.slice T)) (h2 : (P.info? T).map (fun i => (i.zero.map (fun z => z.cells.size), i.size, i.bytes)) = some (some sz, sz, bytes)) (hsz : 0 < sz)
    (hE : E.length = sz) (h1c : ∀ u ∈ E, u.oneCell' = true) (hn : (n + 1) * bytes ≤ 140737488355328) (hn2 : n + 1 ≤ 4294967296) (hbase : B ≤ w0.heap.size) :
    ∃ v' w', (∀ ty, (Builtin.append_ #[t, t] ty #[v, .slice (some ⟨w.heap.size, 0, none⟩) 1 1]).run P (w.alloc (.cells E.toArray T)) = .ok v' w') ∧ SOwn w' B T sz v' (n + 1) (fun j => if j < n then F j else E) ∧ Below B w w' ∧
      (∀ b, b < w.heap.size → some b ≠ v.ownBlock → w'.heap[b]? = w.heap[b]?) ∧ (∀ b, v'.ownBlock = some b → v.ownBlock = some b ∨ w.heap.size ≤ b) := by
  obtain ⟨i, z, hi, hz, hzs, hsize, hbb⟩ := info_sz h2
  have hS1 := h.on hb
  have hsb := hb.size
  have hnews : ∀ j u, E[j]? = some u → (w.alloc (.cells E.toArray T)).cell? ((⟨w.heap.size, 0, none⟩ : Addr).add j) = some u := fun j u hj => by
    have e : (⟨w.heap.size, 0, none⟩ : Addr).add j = ⟨w.heap.size, j, none⟩ := by unfold Addr.add; split <;> simp_all
    rw [e, cell_of_row _ _ _ _ _ (0, 0) (heap_alloc_new w _)]
    simpa using hj
  obtain ⟨v', w', hr, ho, hg, -, hblk⟩ := run_append_own_at (P := P) (w := w.alloc (.cells E.toArray T)) B t 0 T i z sz bytes h1 hi hz hsize hbb hzs hsz v n _ (World.ownsRow.alloc hS1.1 _) ⟨w.heap.size, 0, none⟩ 1 1 E (by rw [hE, Nat.one_mul]) hnews h1c (by unfold maxLen; omega) hn (by simp; omega)
  have hbl : Below B w w' := ((Below.refl _ _).alloc (by omega) _).trans (below_grownS (World.ownsRow.alloc hS1.1 _) hg (by simp; omega))
  refine ⟨v', w', fun ty => hr, ⟨?_, fun i hi => ?_⟩, hbl, fun b hlt hne => (hg.block b (by rw [World.size_alloc]; omega) hne).trans (Below.heap_alloc w _ b hlt), fun b hb2 => ?_⟩
  · have e : (List.range n).flatMap F ++ E = (List.range (n + 1)).flatMap (fun j => if j < n then F j else E) := by
      rw [List.range_succ, List.flatMap_append]
      congr 1
      · rw [List.flatMap_def, List.flatMap_def]
        congr 1
        exact List.map_congr_left fun j hj => by rw [if_pos (by simpa using hj)]
      · simp
    rw [← e]; exact ho
  · dsimp only
    split
    · rename_i hlt; exact h.2 i hlt
    · exact hE
  · rcases hblk with e | e
    · rw [e] at hb2; exact .inl hb2
    · rw [e] at hb2
      have := Option.some.inj hb2
      rw [World.size_alloc] at this
      exact .inr (by omega)

section
variable {α : Type} [Inhabited α] {c : α → List Value} {w w' : World} {B : Nat} {T : TypeId} {sz n : Nat} {X : Nat → Prop} {vv : Nat → Value} {ls : Nat → List α}
theorem Fam.lt (h : Fam c w B T sz n X vv ls) {i b : Nat} (hi : i < n) (hb : (vv i).ownBlock = some b) : B ≤ b ∧ b < w.heap.size := (h.own i hi).own_lt hb
theorem Fam.keep (h : Fam c w B T sz n X vv ls) (hk : ∀ i b, i < n → (vv i).ownBlock = some b → w'.heap[b]? = w.heap[b]?) : Fam c w' B T sz n X vv ls :=
  ⟨fun i hi => (h.own i hi).keepOwn fun b hb => hk i b hi hb, h.dis, h.out⟩
theorem Fam.on (h : Fam c w B T sz n X vv ls) (hb : Below w.heap.size w w') : Fam c w' B T sz n X vv ls := h.keep fun i b hi hbb => hb.block b (h.lt hi hbb).2
theorem Fam.setCell (h : Fam c w B T sz n X vv ls) (a : Addr) (u : Value) (ha : X a.block) : Fam c (w.setCell a u) B T sz n X vv ls :=
  h.keep fun i b hi hbb => heap_setCell_other w a b u (fun e => h.out i b hi hbb (by rw [e]; exact ha))
theorem Fam.nil (c : α → List Value) (w : World) (B : Nat) (T : TypeId) (sz n : Nat) (X : Nat → Prop) : Fam c w B T sz n X (fun _ => .slice none 0 0) (fun _ => []) :=
  ⟨fun i hi => SOwn.nil _ _ _ _ _, fun i j b _ _ _ h => (by cases h), fun i b _ h => (by cases h)⟩
theorem Fam.app {P : Program} {w0 : World} {t : TypeId} {bytes : Nat} (h : Fam c w0 B T sz n X vv ls) (hb : Below w0.heap.size w0 w) {i : Nat} (hi : i < n) (x : α)
    (h1 : P.underlying t = some (.slice T)) (h2 : (P.info? T).map (fun i => (i.zero.map (fun z => z.cells.size), i.size, i.bytes)) = some (some sz, sz, bytes)) (hsz : 0 < sz)
    (hE : (c x).length = sz) (h1c : ∀ u ∈ c x, u.oneCell' = true) (hn : ((ls i).length + 1) * bytes ≤ 140737488355328) (hn2 : (ls i).length + 1 ≤ 4294967296) (hbase : B ≤ w0.heap.size) (hX : ∀ b, X b → b < w0.heap.size) :
    ∃ v' w', (∀ ty, (Builtin.append_ #[t, t] ty #[vv i, .slice (some ⟨w.heap.size, 0, none⟩) 1 1]).run P (w.alloc (.cells (c x).toArray T)) = .ok v' w') ∧ Fam c w' B T sz n X (upd1 vv i v') (upd1 ls i (ls i ++ [x])) ∧ Below B w w' ∧
      (∀ b, b < w.heap.size → some b ≠ (vv i).ownBlock → w'.heap[b]? = w.heap[b]?) ∧ ∃ a cap, v' = .slice a ((ls i).length + 1) cap := by
  obtain ⟨v', w', hr, ho, hbl, hkeep, hblk⟩ := (h.own i hi).app (P := P) (E := c x) hb h1 h2 hsz hE h1c hn hn2 hbase
  have hsb := hb.size
  refine ⟨v', w', hr, ⟨fun k hk => ?_, fun k j b hk hj hne hkb => ?_, fun k b hk hkb => ?_⟩, hbl, hkeep, ?_⟩
  · by_cases e : k = i
    · subst e
      rw [upd1_same, upd1_same, List.length_append, List.length_singleton]
      refine ho.congr fun j hj => ?_
      rw [ix_append]
      by_cases hlt : j < (ls k).length
      · rw [if_pos hlt, if_pos hlt]
      · rw [if_neg hlt, if_neg hlt, if_pos (by omega)]
    · rw [upd1_other e, upd1_other e]
      refine (h.own k hk).keepOwn fun b hbb => ?_
      have hlt := (h.lt hk hbb).2
      rw [hkeep b (by omega) (fun e2 => h.dis k i b hk hi e hbb e2.symm)]
      exact hb.block b hlt
  · by_cases e : k = i
    · subst e
      rw [upd1_same] at hkb
      rw [upd1_other (Ne.symm hne)]
      intro hjb
      rcases hblk b hkb with e2 | e2
      · exact h.dis k j b hk hj hne e2 hjb
      · have := (h.lt hj hjb).2; omega
    · rw [upd1_other e] at hkb
      by_cases e2 : j = i
      · subst e2
        rw [upd1_same]
        intro hjb
        rcases hblk b hjb with e3 | e3
        · exact h.dis k j b hk hj hne hkb e3
        · have := (h.lt hk hkb).2; omega
      · rw [upd1_other e2]; exact h.dis k j b hk hj hne hkb
  · by_cases e : k = i
    · subst e
      rw [upd1_same] at hkb
      rcases hblk b hkb with e2 | e2
      · exact h.out k b hk e2
      · intro hx; have := hX b hx; omega
    · rw [upd1_other e] at hkb; exact h.out k b hk hkb
  · rcases ho.form with ⟨-, h0⟩ | ⟨g, cap, e, -⟩
    · omega
    · exact ⟨_, cap, e⟩
theorem Fam.form (h : Fam c w B T sz n X vv ls) {i : Nat} (hi : i < n) : ∃ a cap, vv i = .slice a (ls i).length cap := by
  rcases (h.own i hi).form with ⟨e, hn⟩ | ⟨g, cap, e, -⟩
  · exact ⟨none, 0, by rw [e, hn]⟩
  · exact ⟨_, cap, e⟩
/-- As a slice that reads, in its own block. -/
theorem Fam.rl (h : Fam c w B T sz n X vv ls) {i : Nat} (hi : i < n) : RL w (fun b => B ≤ b ∧ (vv i).ownBlock = some b) sz (QV c) (vv i) (ls i) := by
  refine RL.of_plain ?_
  have ho := h.own i hi
  rcases ho.form with ⟨e, hn⟩ | ⟨g, cap, e, h1, h2, h3, h4, h5⟩
  · rw [e]; exact ⟨none, 0, by rw [hn], by omega, by omega, .inl hn, ho.2⟩
  · rw [e]; exact ⟨_, cap, rfl, h2, h3, .inr ⟨g, 0, rfl, ⟨h1, rfl⟩, h4, h5⟩, ho.2⟩
end
end Go.Proofs.Ins

set_option linter.unusedSimpArgs false
set_option linter.unusedVariables false
namespace Go.Proofs.Ins
open Go.RowKit

def RetB (w : World) : Ending → World → Prop := fun x w' => (∃ b, x = .returned (.bool b)) ∧ Below w.heap.size w w'

set_option maxRecDepth 100000 in
set_option maxHeartbeats 1600000 in
theorem free_any (p : Nat → Prop) (x0 x1 x2 cv av : Value) (l : List Agr) (c : Int) (w : World) (hA : RAgrs w p av l) (hl : l.length ≤ 140737488351232) (lt : ∀ i, i < l.length → (ix l i).length ≤ 140737488351232) (lp : ∀ i j, i < l.length → j < (ix l i).length → (ix (ix l i) j).length ≤ 140737488351232) :
    Calls Tryz.prog 77 #[.agg #[x0, x1, x2, cv, av], .int .i64 c] w (RetB w) := by
  obtain ⟨G, hS, hQ⟩ := hA
  obtain ⟨aa, cap, rfl, -, -⟩ := hS.form
  have HS := Lib.hid hS
  have HQ := Lib.hid hQ
  have HLT := Lib.hid lt
  have HLP := Lib.hid lp
  unfold RetB
  clear hS hQ lt lp
  generalize hn : l.length = n at *
  go_enter Tryz.func77, Tryz.ntmps77
  go_wp2_with fail
  refine wp_forget (fun W => Below w.heap.size w W) ((Below.refl _ _).alloc (Nat.le_refl _) _) ?_
  intro W hbel
  have HB := Lib.hid hbel
  clear hbel
  go_loopw [14] (fun i wr => ∃ q : Nat, i = .int .i64 q ∧ q ≤ n ∧ Below w.heap.size w wr) (fun i _ => n - (intOf i).toNat)
  case atStart => exact ⟨0, rfl, by omega, HB.out⟩
  case round =>
    obtain ⟨q, rfl, hq, hbel⟩ := hrel
    have HB := Lib.hid hbel
    by_cases hlt : q < n
    · obtain ⟨b, off, rfl, -, -, -⟩ := HS.out.get (by omega)
      have c0 := HS.out.cellAt rfl HB.out (i := q) (j := 0) hlt (by omega)
      obtain ⟨v2, hG, hR⟩ := HQ.out q hlt
      obtain ⟨GT, hST, hQT⟩ := hR
      obtain ⟨a2, cap2, rfl, -, -⟩ := hST.form
      rw [hG, Nat.mul_one, Nat.add_zero] at c0
      have c1 : wr.cell? ⟨b, off + q, none⟩ = some (.slice a2 (ix l q).length cap2) := c0
      have HST := Lib.hid hST
      have HQT := Lib.hid hQT
      have l2 := HLT.out q hlt
      have HLP2 := Lib.hid (fun j hj => HLP.out q j hlt hj)
      have i1 : (0 : Int) ≤ (q : Int) := by omega
      have i2 : (q : Int) < (n : Int) := by omega
      clear c0 hG hST hQT hbel
      generalize hn2 : (ix l q).length = n2 at *
      generalize ix l q = ak at *
      go_wp2_with fail
      refine wp_forget (fun W => Below w.heap.size w W) (HB.out.alloc (by have := HB.out.size; omega) _) ?_
      intro W hbel
      have HB2 := Lib.hid hbel
      clear hbel
      go_loopw [21] (fun i wr => ∃ j : Nat, i = .int .i64 j ∧ j ≤ n2 ∧ Below w.heap.size w wr) (fun i _ => n2 - (intOf i).toNat)
      case atStart => exact ⟨0, rfl, by omega, HB2.out⟩
      case round =>
        obtain ⟨j, rfl, hj, hbel⟩ := hrel
        have HB := Lib.hid hbel
        by_cases hlj : j < n2
        · obtain ⟨b2, off2, rfl, -, -, -⟩ := HST.out.get (by omega)
          have d0 := HST.out.cellAt rfl HB.out (i := j) (j := 0) hlj (by omega)
          obtain ⟨v3, hG3, hR3⟩ := HQT.out j hlj
          obtain ⟨a3, cap3, rfl, -, -⟩ := hR3.plain.form
          rw [hG3, Nat.mul_one, Nat.add_zero] at d0
          have d1 : wr.cell? ⟨b2, off2 + j, none⟩ = some (.slice a3 (ix ak j).length cap3) := d0
          have HP := Lib.hid hR3.plain
          have l3 := HLP2.out j hlj
          have j1 : (0 : Int) ≤ (j : Int) := by omega
          have j2 : (j : Int) < (n2 : Int) := by omega
          clear d0 hG3 hR3 hbel
          generalize hn3 : (ix ak j).length = n3 at *
          generalize ix ak j = tk at *
          go_wp2_with fail
          go_loopw [27] (fun i wr => ∃ m : Nat, i = .int .i64 m ∧ m ≤ n3 ∧ Below w.heap.size w wr) (fun i _ => n3 - (intOf i).toNat)
          case atStart => exact ⟨0, rfl, by omega, HB.out⟩
          case round =>
            obtain ⟨m, rfl, hm, hbel⟩ := hrel
            have HB := Lib.hid hbel
            by_cases hlm : m < n3
            · obtain ⟨b4, off4, rfl, -, -, -⟩ := HP.out.get (by omega)
              have e0 := HP.out.cellAt rfl HB.out (i := m) (j := 0) hlm (by omega)
              have e1 : wr.cell? ⟨b4, off4 + m * 5 + 1, none⟩ = some (.bool (ix tk m).b) := HP.out.cellAt rfl HB.out (i := m) (j := 1) hlm (by omega)
              have e2 : wr.cell? ⟨b4, off4 + m * 5 + 2, none⟩ = some (.bool (ix tk m).a.n) := HP.out.cellAt rfl HB.out (i := m) (j := 2) hlm (by omega)
              have e3 : wr.cell? ⟨b4, off4 + m * 5 + 3, none⟩ = some (.string (ix tk m).a.s) := HP.out.cellAt rfl HB.out (i := m) (j := 3) hlm (by omega)
              have e4 : wr.cell? ⟨b4, off4 + m * 5 + 4, none⟩ = some (.string (ix tk m).a.d) := HP.out.cellAt rfl HB.out (i := m) (j := 4) hlm (by omega)
              rw [Nat.add_zero] at e0
              have e0' : wr.cell? ⟨b4, off4 + m * 5, none⟩ = some (.int .i64 (ix tk m).k) := e0
              have m1 : (0 : Int) ≤ (m : Int) := by omega
              have m2 : (m : Int) < (n3 : Int) := by omega
              have HB9 := Lib.hid (HB.out.alloc (by have := HB.out.size; omega) (.cells #[.int .i64 (ix tk m).k, .bool (ix tk m).b, .bool (ix tk m).a.n, .string (ix tk m).a.s, .string (ix tk m).a.d] 112))
              clear e0 hbel
              generalize (ix tk m).k = x at *
              generalize (ix tk m).b = xb at *
              generalize (ix tk m).a.n = xn at *
              generalize (ix tk m).a.s = xs at *
              generalize (ix tk m).a.d = xd at *
              by_cases hx : x = c
              · subst hx
                go_wp2
                go_ret
                exact ⟨⟨_, rfl⟩, HB9.out⟩
              · have hx2 : (x == c) = false := by simp [hx]
                go_wp2
                go_roundw
                case rel => exact ⟨m + 1, by go_num, by omega, HB9.out⟩
                case measure => simp [intOf]; omega
            · obtain rfl : m = n3 := by omega
              have hnl : decide ((m : Int) < (m : Int)) = false := by simp
              go_wp2
              go_roundw
              case rel => exact ⟨j + 1, by go_num, by omega, HB.out⟩
              case measure => simp [intOf]; omega
        · obtain rfl : j = n2 := by omega
          have hnl : decide ((j : Int) < (j : Int)) = false := by simp
          go_wp2
          go_roundw
          case rel => exact ⟨q + 1, by go_num, by omega, HB.out⟩
          case measure => simp [intOf]; omega
    · obtain rfl : q = n := by omega
      have hnl : decide ((q : Int) < (q : Int)) = false := by simp
      go_wp2
      go_ret
      exact ⟨⟨_, rfl⟩, HB.out⟩

set_option maxRecDepth 100000 in
set_option maxHeartbeats 1600000 in
theorem taken_any (p : Nat → Prop) (ev dv : Value) (l : List Dbt) (c d : Int) (w : World) (hA : RDbts w p dv l) (hl : l.length ≤ 140737488351232) (lt : ∀ i, i < l.length → (ix l i).l.length ≤ 140737488351232) :
    Calls Tryz.prog 78 #[.agg #[ev, dv], .int .i64 c, .int .i64 d] w (RetB w) := by
  obtain ⟨G, hS, hQ⟩ := hA
  obtain ⟨aa, cap, rfl, -, -⟩ := hS.form
  have HS := Lib.hid hS
  have HQ := Lib.hid (RDbts.elem hQ)
  have HLT := Lib.hid lt
  unfold RetB
  clear hS hQ lt
  generalize hn : l.length = n at *
  go_enter Tryz.func78, Tryz.ntmps78
  go_wp2_with fail
  refine wp_forget (fun W => Below w.heap.size w W) ((Below.refl _ _).alloc (Nat.le_refl _) _) ?_
  intro W hbel
  have HB := Lib.hid hbel
  clear hbel
  go_loopw [14] (fun i wr => ∃ q : Nat, i = .int .i64 q ∧ q ≤ n ∧ Below w.heap.size w wr) (fun i _ => n - (intOf i).toNat)
  case atStart => exact ⟨0, rfl, by omega, HB.out⟩
  case round =>
    obtain ⟨q, rfl, hq, hbel⟩ := hrel
    have HB := Lib.hid hbel
    by_cases hlt : q < n
    · obtain ⟨b, off, rfl, -, -, -⟩ := HS.out.get (by omega)
      obtain ⟨a2, c2, hG, hR⟩ := HQ.out q hlt
      have d0 := HS.out.cellAt rfl HB.out (i := q) (j := 0) hlt (by omega)
      have d1 := HS.out.cellAt rfl HB.out (i := q) (j := 1) hlt (by omega)
      have d2 := HS.out.cellAt rfl HB.out (i := q) (j := 2) hlt (by omega)
      have d3 := HS.out.cellAt rfl HB.out (i := q) (j := 3) hlt (by omega)
      rw [hG] at d0 d1 d2 d3
      rw [Nat.add_zero] at d0
      have e0 : wr.cell? ⟨b, off + q * 4, none⟩ = some (.bool (ix l q).w.n) := d0
      have e1 : wr.cell? ⟨b, off + q * 4 + 1, none⟩ = some (.string (ix l q).w.s) := d1
      have e2 : wr.cell? ⟨b, off + q * 4 + 2, none⟩ = some (.string (ix l q).w.d) := d2
      have e3 : wr.cell? ⟨b, off + q * 4 + 3, none⟩ = some (.slice a2 (ix l q).l.length c2) := d3
      have HP := Lib.hid hR.plain
      have l2 := HLT.out q hlt
      have i1 : (0 : Int) ≤ (q : Int) := by omega
      have i2 : (q : Int) < (n : Int) := by omega
      have HB9 := Lib.hid (HB.out.alloc (by have := HB.out.size; omega) (.cells #[.bool (ix l q).w.n, .string (ix l q).w.s, .string (ix l q).w.d, .slice a2 (ix l q).l.length c2] 96))
      clear d0 d1 d2 d3 hG hR hbel
      generalize (ix l q).w.n = xn at *
      generalize (ix l q).w.s = xs at *
      generalize (ix l q).w.d = xd at *
      generalize (ix l q).l = ll at *
      generalize hn2 : ll.length = n2 at *
      go_wp2_with fail
      go_loopw [21] (fun i wr => ∃ j : Nat, i = .int .i64 j ∧ j ≤ n2 ∧ Below w.heap.size w wr) (fun i _ => n2 - (intOf i).toNat)
      case atStart => exact ⟨0, rfl, by omega, HB9.out⟩
      case round =>
        obtain ⟨j, rfl, hj, hbel⟩ := hrel
        have HB := Lib.hid hbel
        by_cases hlj : j < n2
        · obtain ⟨b4, off4, rfl, -, -, -⟩ := HP.out.get (by omega)
          have e0 := HP.out.cellAt rfl HB.out (i := j) (j := 0) hlj (by omega)
          have e1 : wr.cell? ⟨b4, off4 + j * 2 + 1, none⟩ = some (.int .i64 (ix ll j).k) := HP.out.cellAt rfl HB.out (i := j) (j := 1) hlj (by omega)
          rw [Nat.add_zero] at e0
          have e0' : wr.cell? ⟨b4, off4 + j * 2, none⟩ = some (.int .i64 (ix ll j).e) := e0
          have m1 : (0 : Int) ≤ (j : Int) := by omega
          have m2 : (j : Int) < (n2 : Int) := by omega
          have HB9 := Lib.hid (HB.out.alloc (by have := HB.out.size; omega) (.cells #[.int .i64 (ix ll j).e, .int .i64 (ix ll j).k] 118))
          clear e0 hbel
          generalize (ix ll j).k = x at *
          generalize (ix ll j).e = y at *
          by_cases hx : y = c
          · subst hx
            by_cases hx2 : x = d
            · subst hx2
              go_wp2
              go_ret
              exact ⟨⟨_, rfl⟩, HB9.out⟩
            · have hx3 : (x == d) = false := by simp [hx2]
              go_wp2
              go_roundw
              case rel => exact ⟨j + 1, by go_num, by omega, HB9.out⟩
              case measure => simp [intOf]; omega
          · have hx2 : (y == c) = false := by simp [hx]
            go_wp2
            go_roundw
            case rel => exact ⟨j + 1, by go_num, by omega, HB9.out⟩
            case measure => simp [intOf]; omega
        · obtain rfl : j = n2 := by omega
          have hnl : decide ((j : Int) < (j : Int)) = false := by simp
          go_wp2
          go_roundw
          case rel => exact ⟨q + 1, by go_num, by omega, HB.out⟩
          case measure => simp [intOf]; omega
    · obtain rfl : q = n := by omega
      have hnl : decide ((q : Int) < (q : Int)) = false := by simp
      go_wp2
      go_ret
      exact ⟨⟨_, rfl⟩, HB.out⟩
end Go.Proofs.Ins

set_option linter.unusedSimpArgs false
set_option linter.unusedVariables false
namespace Go.Proofs.Ins
open Go.RowKit

/-- A plan: what only reads, then one act, or one of two; behind an act the classes that are to be shown. -/
inductive NTree where
  | fin (qs : List Nat)
  | one (qs : List Nat) (i : Nat) (ks : List Nat) (t : NTree)
  | two (qs : List Nat) (i : Nat) (ks : List Nat) (t : NTree) (j : Nat) (ls : List Nat) (u : NTree)
def NTree.len : NTree → Nat
  | .fin qs => qs.length
  | .one qs _ _ t => t.len + 1 + qs.length
  | .two qs _ _ t _ _ _ => t.len + 1 + qs.length
def wpNT (P : Program) (l : List Oper) (Q : Exit → Act → World → Prop) (S : Nat → World → Prop) : NTree → Act → World → Prop
  | .fin qs, a, w => wpQS P l S (fun a' => Q .normal a' w) qs a
  | .one qs i ks t, a, w => wpQS P l S (fun a' => wpList P l.toArray (segQ Q fun a2 w2 => (∀ k ∈ ks, S k w2) ∧ wpNT P l Q S t a2 w2) (getOps l [i]) a' w) qs a
  | .two qs i ks t j ls u, a, w => wpQS P l S (fun a' => wpList P l.toArray (segQ Q fun a2 w2 => (∀ k ∈ ks, S k w2) ∧ wpNT P l Q S t a2 w2) (getOps l [i]) a' w ∧
      wpList P l.toArray (segQ Q fun a2 w2 => (∀ k ∈ ls, S k w2) ∧ wpNT P l Q S u a2 w2) (getOps l [j]) a' w) qs a
def ntB (md : Region.Mode) (ops : Array Oper) (acts K : List Nat) : NTree → Array Bool → Bool
  | .fin qs, listed => qs.all (fun q => !acts.contains q && okB md ops acts listed q) && (match quietB md ops qs listed with
    | some l' => (Region.ready md ops l').isEmpty
    | none => false)
  | .one qs i ks t, listed => qs.all (fun q => !acts.contains q && okB md ops acts listed q) && (match quietB md ops qs listed with
    | some l' => decide (Region.ready md ops l' = [i]) && (K.all (fun k => ks.contains k || !okB md ops acts (l'.setIfInBounds i true) k) && ntB md ops acts K t (l'.setIfInBounds i true))
    | none => false)
  | .two qs i ks t j ls u, listed => qs.all (fun q => !acts.contains q && okB md ops acts listed q) && (match quietB md ops qs listed with
    | some l' => decide (Region.ready md ops l' = [i, j]) && decide (t.len = u.len) && (K.all (fun k => ks.contains k || !okB md ops acts (l'.setIfInBounds i true) k) && ntB md ops acts K t (l'.setIfInBounds i true)) &&
        (K.all (fun k => ls.contains k || !okB md ops acts (l'.setIfInBounds j true) k) && ntB md ops acts K u (l'.setIfInBounds j true))
    | none => false)

section
variable {P : Program} {l : List Oper} {S : Nat → World → Prop} {Q : Exit → Act → World → Prop} {a : Act} {w : World}
theorem wpNT_one {qs : List Nat} {i : Nat} {ks : List Nat} {t : NTree}
    (h : wpQS P l S (fun a' => wpList P l.toArray (segQ Q fun a2 w2 => (∀ k ∈ ks, S k w2) ∧ wpNT P l Q S t a2 w2) (getOps l [i]) a' w) qs a) : wpNT P l Q S (.one qs i ks t) a w := h
theorem wpNT_two {qs : List Nat} {i j : Nat} {ks ls : List Nat} {t u : NTree}
    (h : wpQS P l S (fun a' => wpList P l.toArray (segQ Q fun a2 w2 => (∀ k ∈ ks, S k w2) ∧ wpNT P l Q S t a2 w2) (getOps l [i]) a' w ∧
      wpList P l.toArray (segQ Q fun a2 w2 => (∀ k ∈ ls, S k w2) ∧ wpNT P l Q S u a2 w2) (getOps l [j]) a' w) qs a) : wpNT P l Q S (.two qs i ks t j ls u) a w := h
theorem wpNT_forget {t : NTree} (R : World → Prop) (hR : R w) (h : ∀ W, R W → wpNT P l Q S t a W) : wpNT P l Q S t a w := h w hR
theorem wpNT_fin {qs : List Nat} (h : wpQS P l S (fun a' => Q .normal a' w) qs a) : wpNT P l (NoPan Q) S (.fin qs) a w := h
end

section
variable {P : Program} {ops : Array Oper} {md : Region.Mode} {Q : Exit → Act → World → Prop} {S : Nat → World → Prop} {acts : List Nat}
theorem ntB_quiet {listed : Array Bool} {qs : List Nat} (hA : qs.all (fun q => !acts.contains q && okB md ops acts listed q) = true) : (∀ q ∈ qs, acts.contains q = false) ∧ ∀ q ∈ qs, OkS md ops (fun m => acts.contains m) listed q := by
  rw [List.all_eq_true] at hA
  exact ⟨fun q hq => by have := hA q hq; simp at this; simpa using this.1, fun q hq => okB_iff.mp (by have := hA q hq; simp at this; exact this.2)⟩
theorem ntB_keep {l' : Array Bool} {i : Nat} {K ks : List Nat} {w : World} (hK : ∀ k, k ∉ K → ∀ w, S k w) (hkk : K.all (fun k => ks.contains k || !okB md ops acts (l'.setIfInBounds i true) k) = true) (h : ∀ k ∈ ks, S k w) :
    SL md ops (fun m => acts.contains m) S (l'.setIfInBounds i true) w := fun k hk => by
  by_cases hmem : k ∈ K
  · have h4 := (List.all_eq_true.mp hkk) k hmem
    rw [okB_iff.mpr hk] at h4
    simp at h4
    exact h k h4
  · exact hK k hmem w

theorem nt_all (hs : Region.noSelect ops = true) (hQ : ∀ c a d v w, Q (.panic c) (Act.put a d v) w → Q (.panic c) a w) (l : List Oper) (hl : l.toArray = ops) (K : List Nat) (hK : ∀ k, k ∉ K → ∀ w, S k w) :
    ∀ (t : NTree) (listed : Array Bool) (a : Act) (w : World) (f : Nat), ntB md ops acts K t listed = true → SL md ops (fun m => acts.contains m) S listed w → wpNT P l Q S t a w →
      wpAnyL P md ops Q S (fun m => acts.contains m) (f + t.len) listed a w
  | .fin qs, listed, a, w, f, hB, hS, h => by
    unfold ntB at hB
    rw [Bool.and_eq_true] at hB
    obtain ⟨hA, hB⟩ := hB
    cases hq : quietB md ops qs listed with
    | none => rw [hq] at hB; cases hB
    | some l' =>
      rw [hq] at hB
      unfold wpNT at h
      exact segsN_quiet hs hQ l hl qs listed l' a f (ntB_quiet hA).1 (ntB_quiet hA).2 hS hq h (fun a' ha _ => wpAnyL_done (by simpa using hB) ha f)
  | .one qs i ks t, listed, a, w, f, hB, hS, h => by
    unfold ntB at hB
    rw [Bool.and_eq_true] at hB
    obtain ⟨hA, hB⟩ := hB
    cases hq : quietB md ops qs listed with
    | none => rw [hq] at hB; cases hB
    | some l' =>
      rw [hq] at hB
      simp only [Bool.and_eq_true, decide_eq_true_eq] at hB
      obtain ⟨hr, hkk, hB2⟩ := hB
      unfold wpNT at h
      have e : f + (NTree.one qs i ks t).len = (f + t.len + 1) + qs.length := by show f + (t.len + 1 + qs.length) = _; omega
      rw [e]
      refine segsN_quiet hs hQ l hl qs listed l' a _ (ntB_quiet hA).1 (ntB_quiet hA).2 hS hq h (fun a' ha hS2 => ?_)
      refine wpAnyL_all hr (by simp) (fun j hj => ?_)
      have hji : j = i := by simpa using hj
      subst hji
      refine wpOp_mono (fun a2 w2 h2 => ?_) (wpOp_ready hl (md := md) (l' := l') (by rw [hr]; simp) ha)
      have hSL := ntB_keep hK hkk h2.1
      exact ⟨hSL, nt_all hs hQ l hl K hK t _ a2 w2 f hB2 hSL h2.2⟩
  | .two qs i ks t j ls u, listed, a, w, f, hB, hS, h => by
    unfold ntB at hB
    rw [Bool.and_eq_true] at hB
    obtain ⟨hA, hB⟩ := hB
    cases hq : quietB md ops qs listed with
    | none => rw [hq] at hB; cases hB
    | some l' =>
      rw [hq] at hB
      simp only [Bool.and_eq_true, decide_eq_true_eq] at hB
      obtain ⟨⟨⟨hr, hlen⟩, hkk, hB2⟩, hkk2, hB3⟩ := hB
      unfold wpNT at h
      have e : f + (NTree.two qs i ks t j ls u).len = (f + t.len + 1) + qs.length := by show f + (t.len + 1 + qs.length) = _; omega
      rw [e]
      refine segsN_quiet hs hQ l hl qs listed l' a _ (ntB_quiet hA).1 (ntB_quiet hA).2 hS hq h (fun a' ha hS2 => ?_)
      refine wpAnyL_all hr (by simp) (fun m hm => ?_)
      rcases (show m = i ∨ m = j by simpa using hm) with hmi | hmi
      · subst hmi
        refine wpOp_mono (fun a2 w2 h2 => ?_) (wpOp_ready hl (md := md) (l' := l') (by rw [hr]; simp) ha.1)
        have hSL := ntB_keep hK hkk h2.1
        exact ⟨hSL, nt_all hs hQ l hl K hK t _ a2 w2 f hB2 hSL h2.2⟩
      · subst hmi
        refine wpOp_mono (fun a2 w2 h2 => ?_) (wpOp_ready hl (md := md) (l' := l') (by rw [hr]; simp) ha.2)
        have hSL := ntB_keep hK hkk2 h2.1
        rw [hlen]
        exact ⟨hSL, nt_all hs hQ l hl K hK u _ a2 w2 f hB3 hSL h2.2⟩
end

/-- A region by a plan, with a class for each operation that reads. -/
theorem wp_region_nt {P : Program} {id : Nat} {Q : Exit → Act → World → Prop} {a : Act} {w : World} {l : List Oper} (S : Nat → World → Prop) (acts K : List Nat) (t : NTree) (hm : P.follows .mixedOrders = true)
    (hs : Region.noSelect l.toArray = true) (hB : ntB .any l.toArray acts K t (Array.replicate l.toArray.size false) = true) (hn : t.len = l.toArray.size)
    (hK : ∀ k, k ∉ K → ∀ w, S k w) (hS : ∀ k, S k w.drew)
    (h : wpNT P l (NoPan Q) S t a w.drew) : (Code.region id l.toArray true).wp P Q a w := by
  refine Code.wp_mono NoPan.imp (wp_region_L (S := S) (act := fun m => acts.contains m) hm ?_)
  have := nt_all (md := .any) (P := P) (S := S) (Q := NoPan Q) (acts := acts) hs (fun _ _ _ _ _ h => h) l rfl K hK t (Array.replicate l.toArray.size false) a w.drew 0 hB (fun k _ => hS k) h
  rw [Nat.zero_add, hn] at this
  exact this
end Go.Proofs.Ins
