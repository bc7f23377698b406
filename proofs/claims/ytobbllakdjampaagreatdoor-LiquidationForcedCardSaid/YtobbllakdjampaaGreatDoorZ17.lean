/- The walks of insolvencyref17.earlier and agreement. -/
import Derived.Test.YtobbllakdjampaaGreatDoorZ14
import Derived.Test.YtobbllakdjampaaGreatDoorZ9
import Derived.Test.YtobbllakdjampaaGreatDoorZ16

set_option linter.unusedSimpArgs false
set_option linter.unusedVariables false
namespace Go.Proofs.Ins
open Go.RowKit

/-- Block b holds just n elements of sz cells, and may be written. -/
def Own (w : World) (b sz n : Nat) (F : Nat → List Value) : Prop :=
  ∃ c T, w.heap[b]? = some (.cells c T (0, 0)) ∧ c.size = n * sz ∧ ∀ i j, i < n → j < sz → c[i * sz + j]? = (F i)[j]?

theorem Own.lt {w : World} {b sz n : Nat} {F : Nat → List Value} (h : Own w b sz n F) : b < w.heap.size := by
  obtain ⟨c, T, hc, _⟩ := h
  exact (Array.getElem?_eq_some_iff.mp hc).1
theorem Own.frozen {w : World} {b sz n : Nat} {F : Nat → List Value} (h : Own w b sz n F) (j : Nat) : w.frozen? ⟨b, j, none⟩ = false := by
  obtain ⟨c, T, hc, _⟩ := h
  exact frozen_of_row w b j c T hc
theorem Own.block {w w' : World} {b sz n : Nat} {F : Nat → List Value} (h : Own w b sz n F) (hb : w'.heap[b]? = w.heap[b]?) : Own w' b sz n F := by
  obtain ⟨c, T, hc, r⟩ := h
  exact ⟨c, T, hb.trans hc, r⟩
theorem Own.below {w w' : World} {b sz n B : Nat} {F : Nat → List Value} (h : Own w b sz n F) (hb : Below B w w') (hB : b < B) : Own w' b sz n F := h.block (hb.block b hB)
theorem Own.on {w w' : World} {b sz n : Nat} {F : Nat → List Value} (h : Own w b sz n F) (hb : Below w.heap.size w w') : Own w' b sz n F := h.below hb h.lt
theorem Own.alloc {w : World} {b sz n : Nat} {F : Nat → List Value} (h : Own w b sz n F) (o : Obj) : Own (w.alloc o) b sz n F := h.block (Below.heap_alloc w o b h.lt)
theorem Own.setOther {w : World} {b sz n : Nat} {F : Nat → List Value} (h : Own w b sz n F) (a : Addr) (v : Value) (ha : b ≠ a.block) : Own (w.setCell a v) b sz n F := h.block (heap_setCell_other w a b v ha)
theorem Own.congr {w : World} {b sz n : Nat} {F G : Nat → List Value} (h : Own w b sz n F) (hg : ∀ i, i < n → F i = G i) : Own w b sz n G := by
  obtain ⟨c, T, hc, hn, hf⟩ := h
  exact ⟨c, T, hc, hn, fun i j hi hj => by rw [← hg i hi]; exact hf i j hi hj⟩
theorem Own.cell {w : World} {b sz n : Nat} {F : Nat → List Value} (h : Own w b sz n F) {i j : Nat} (hi : i < n) (hj : j < sz) : w.cell? ⟨b, i * sz + j, none⟩ = (F i)[j]? := by
  obtain ⟨c, T, hc, hn, hf⟩ := h
  rw [cell_of_row w b _ c T (0, 0) hc, hf i j hi hj]
theorem Own.reads {w : World} {b sz n : Nat} {F : Nat → List Value} (h : Own w b sz n F) : SReads w b 0 sz n F := fun i j hi hj => by
  rw [Nat.zero_add]; exact h.cell hi hj
theorem Own.arg {w : World} {b sz n : Nat} {F : Nat → List Value} (h : Own w b sz n F) : SArg w (some ⟨b, 0, none⟩) n sz F := .inr ⟨b, 0, rfl, h.lt, h.reads⟩

/-- The cells behind one store. -/
theorem cells_set {c : Array Value} {k : Nat} {v : Value} {m : Nat} : (c.setIfInBounds k v)[m]? = if k = m then (if m < c.size then some v else none) else c[m]? := by
  rw [Array.getElem?_setIfInBounds]
  by_cases e : k = m
  · subst e; rfl
  · rw [if_neg e, if_neg e]

/-- F with another element at i. -/
def updF (F : Nat → List Value) (i : Nat) (x : List Value) (k : Nat) : List Value := if k = i then x else F k
theorem updF_same (F : Nat → List Value) (i : Nat) (x : List Value) : updF F i x i = x := if_pos rfl
theorem updF_other {F : Nat → List Value} {i k : Nat} {x : List Value} (h : k ≠ i) : updF F i x k = F k := if_neg h

/-- One cell of one element is stored. -/
theorem Own.setAt {w : World} {b sz n : Nat} {F : Nat → List Value} (h : Own w b sz n F) (i j : Nat) (v : Value) (hi : i < n) (hj : j < sz) (hl : (F i).length = sz) :
    Own (w.setCell ⟨b, i * sz + j, none⟩ v) b sz n (updF F i ((F i).set j v)) := by
  obtain ⟨c, T, hc, hn, hf⟩ := h
  refine ⟨c.setIfInBounds (i * sz + j) v, T, ?_, by simpa using hn, fun i' j' hi' hj' => ?_⟩
  · rw [World.setCell]
    simp only [Array.getElem?_modify]
    simp [hc]
  · have hlt : i' * sz + j' < c.size := by
      rw [hn]
      have := Nat.mul_le_mul_right sz (show i' + 1 ≤ n by omega)
      rw [Nat.succ_mul] at this; omega
    rw [cells_set]
    by_cases e : i * sz + j = i' * sz + j'
    · have e1 : i = i' := by
        have h1 : (i * sz + j) / sz = i := by rw [Nat.mul_comm, Nat.mul_add_div (by omega), Nat.div_eq_of_lt hj, Nat.add_zero]
        have h2 : (i' * sz + j') / sz = i' := by rw [Nat.mul_comm, Nat.mul_add_div (by omega), Nat.div_eq_of_lt hj', Nat.add_zero]
        rw [← h1, ← h2, e]
      subst e1
      obtain rfl : j = j' := by omega
      rw [if_pos rfl, if_pos hlt, updF_same, List.getElem?_set]
      simp [hl, hj]
    · rw [if_neg e, hf i' j' hi' hj']
      by_cases e1 : i' = i
      · subst e1
        rw [updF_same, List.getElem?_set, if_neg (by omega)]
      · rw [updF_other e1]

/-- One element of one cell is stored. -/
theorem Own.set1 {w : World} {b n : Nat} {F : Nat → List Value} (h : Own w b 1 n F) (i : Nat) (v : Value) (hi : i < n) (hl : (F i).length = 1) : Own (w.setCell ⟨b, i, none⟩ v) b 1 n (updF F i [v]) := by
  have := h.setAt i 0 v hi (by omega) hl
  rw [Nat.mul_one, Nat.add_zero] at this
  match hF : F i, hl with
  | [x], _ => rw [hF] at this; exact this

/-- One element of three cells is stored. -/
theorem Own.set3 {w : World} {b n : Nat} {F : Nat → List Value} (h : Own w b 3 n F) (i : Nat) (x y z : Value) (hi : i < n) (hl : (F i).length = 3) :
    Own (((w.setCell ⟨b, i * 3, none⟩ x).setCell ⟨b, i * 3 + 1, none⟩ y).setCell ⟨b, i * 3 + 2, none⟩ z) b 3 n (updF F i [x, y, z]) := by
  have h1 := h.setAt i 0 x hi (by omega) hl
  have h2 := h1.setAt i 1 y hi (by omega) (by rw [updF_same]; simpa using hl)
  have h3 := h2.setAt i 2 z hi (by omega) (by rw [updF_same, updF_same]; simpa using hl)
  rw [Nat.add_zero] at h3
  refine h3.congr fun k hk => ?_
  match hF : F i, hl with
  | [p, q, r], _ =>
    by_cases e : k = i
    · subst e; simp [updF, hF]
    · simp [updF, e]

theorem madeCells_get (z : Array Value) (m k : Nat) (hk : k < m) (hz : 0 < z.size) : (madeCells z m)[k]? = z[k % z.size]? := by
  unfold madeCells
  have h2 : k % z.size < z.size := Nat.mod_lt _ hz
  simp [hk, h2, getElem!_pos]

theorem info_made {P : Program} {T : TypeId} {zs : List Value} {bytes : Nat} (h : (P.info? T).map (fun i => (i.zero.map (fun z => z.cells.toList), i.size, i.bytes)) = some (some zs, zs.length, bytes)) :
    ∃ i z, P.info? T = some i ∧ i.zero = some z ∧ z.cells.toList = zs ∧ i.size = zs.length ∧ i.bytes = bytes := by
  cases hi : P.info? T with
  | none => rw [hi] at h; cases h
  | some i =>
    rw [hi] at h
    simp only [Option.map_some, Option.some.injEq, Prod.mk.injEq] at h
    obtain ⟨h1, h2, h3⟩ := h
    cases hz : i.zero with
    | none => rw [hz] at h1; cases h1
    | some z =>
      rw [hz] at h1
      exact ⟨i, z, rfl, hz, Option.some.inj h1, h2, h3⟩

/-- 'make([]T, n)': n new elements, each of zero cells. -/
theorem wpList_makeS {P : Program} {w : World} {ops : Array Oper} {rest : List Oper} {o : Oper} {a : Act} {Q : Exit → Act → World → Prop}
    (l c : Operand) (t e : TypeId) (zs : List Value) (bytes n : Nat) (C : Int) (hg : o.guard = none) (hop : o.op = Op.makeSlice t l c)
    (h1 : P.underlying t = some (.slice e)) (h2 : (P.info? e).map (fun i => (i.zero.map (fun z => z.cells.toList), i.size, i.bytes)) = some (some zs, zs.length, bytes)) (hzs : 0 < zs.length)
    (hl : a.eval l = .int .i64 C) (hc : a.eval c = .int .i64 C) (hC : C = (n : Int)) (hn : n ≤ 4294967296) (hb : bytes ≤ 1024)
    (hK : ∀ w', Own w' w.heap.size zs.length n (fun _ => zs) → Below w.heap.size w w' → w'.heap.size = w.heap.size + 1 → wpList P ops Q rest (a.put o.dst (.slice (some ⟨w.heap.size, 0, none⟩) n n)) w') :
    wpList P ops Q (o :: rest) a w := by
  obtain ⟨i, z, hi, hz, hzc, hs, hbb⟩ := info_made h2
  refine wpList_plain hg fun K hK' => ?_
  have hrun := run_make (P := P) w t e i _ h1 hi hz .i64 .i64 n n (by omega) (by omega) (by
    rw [hbb]
    have h5 := Nat.mul_le_mul hb hn
    omega) (by omega)
  subst hC
  unfold Oper.wp
  simp [execOp, hop, hl, hc, hrun, Result.andThen]
  rw [hs]
  have hzz : z.cells.size = zs.length := by rw [← Array.length_toList, hzc]
  refine hK' _ _ (hK _ ⟨madeCells z.cells (n * zs.length), e, heap_alloc_new w _, size_madeCells _ _, fun i j hi hj => ?_⟩ ((Below.refl _ _).alloc (Nat.le_refl _) _) (by simp))
  have hlt : i * zs.length + j < n * zs.length := by
    have := Nat.mul_le_mul_right zs.length (show i + 1 ≤ n by omega)
    rw [Nat.succ_mul] at this; omega
  rw [madeCells_get _ _ _ hlt (by omega), hzz, Nat.mul_comm, Nat.mul_add_mod, Nat.mod_eq_of_lt hj, ← hzc, Array.getElem?_toList]
end Go.Proofs.Ins

set_option linter.unusedSimpArgs false
set_option linter.unusedVariables false
namespace Go.Proofs.Ins
open Go.RowKit

theorem duo (w : World) (vs us : Array Value) (T U : TypeId) : Blk ((w.alloc (.cells vs T)).alloc (.cells us U)) w.heap.size vs ∧ Blk ((w.alloc (.cells vs T)).alloc (.cells us U)) (w.heap.size + 1) us ∧ Below w.heap.size w ((w.alloc (.cells vs T)).alloc (.cells us U)) := by
  refine ⟨(Blk.new w vs T).alloc _, ?_, ((Below.refl _ _).alloc (Nat.le_refl _) _).alloc (by simp) _⟩
  have := Blk.new (w.alloc (.cells vs T)) us U
  rwa [World.size_alloc] at this
theorem SOwn.on {w w' : World} {base : Nat} {T : TypeId} {sz : Nat} {v : Value} {n : Nat} {F : Nat → List Value} (h : SOwn w base T sz v n F) (hb : Below w.heap.size w w') : SOwn w' base T sz v n F := h.below hb (Nat.le_refl _)
/-- The element at i. -/
def ix {α : Type} [Inhabited α] (l : List α) (i : Nat) : α := l.getD i default
theorem ix_lt {α : Type} [Inhabited α] {l : List α} {i : Nat} (h : i < l.length) : ix l i = l[i] := by unfold ix; simp [List.getD, h]
theorem ix_append {α : Type} [Inhabited α] (l : List α) (x : α) (i : Nat) : ix (l ++ [x]) i = if i < l.length then ix l i else if i = l.length then x else default := by
  unfold ix
  by_cases h : i < l.length
  · simp [List.getD, h, List.getElem?_append_left h]
  · rw [if_neg h]
    by_cases e : i = l.length
    · subst e; simp
    · rw [if_neg e]; simp [List.getD, List.getElem?_append_right (Nat.le_of_not_lt h)]
      rw [List.getElem?_eq_none]; rfl
      simp; omega
theorem ix_mem {α : Type} [Inhabited α] {l : List α} {i : Nat} (h : i < l.length) : ix l i ∈ l := by rw [ix_lt h]; exact List.getElem_mem h
theorem ix_take {α : Type} [Inhabited α] {l : List α} {i k : Nat} (h : i < k) : ix (l.take k) i = ix l i := by unfold ix; simp [List.getD, List.getElem?_take, h]
theorem take_succ_ix {α : Type} [Inhabited α] {l : List α} {k : Nat} (h : k < l.length) : l.take (k + 1) = l.take k ++ [ix l k] := by
  rw [ix_lt h, List.take_add_one]; simp [h]

structure C5 where
  h : Int
  r : Int
  a : R3
instance : Inhabited C5 := ⟨⟨0, 0, default⟩⟩
def C5.c (x : C5) : List Value := [.int .i64 x.h, .int .i64 x.r, .bool x.a.n, .string x.a.s, .string x.a.d]
structure Prt where
  k : Int
  b : Bool
  a : R3
instance : Inhabited Prt := ⟨⟨0, false, default⟩⟩
def Prt.c (x : Prt) : List Value := [.int .i64 x.k, .bool x.b, .bool x.a.n, .string x.a.s, .string x.a.d]
structure Lg where
  e : Int
  k : Int
instance : Inhabited Lg := ⟨⟨0, 0⟩⟩
def Lg.c (x : Lg) : List Value := [.int .i64 x.e, .int .i64 x.k]
abbrev Tier := List Prt
abbrev Agr := List Tier
structure Est where
  m : R3
  c : List C5
  a : List Agr
instance : Inhabited Est := ⟨⟨default, [], []⟩⟩
structure Dbt where
  w : R3
  l : List Lg
instance : Inhabited Dbt := ⟨⟨default, []⟩⟩
structure Grp where
  e : List Est
  d : List Dbt
instance : Inhabited Grp := ⟨⟨[], []⟩⟩

/-- A slice value of n elements of sz cells; its cells lie in a block that meets p. -/
def Sl (w : World) (p : Nat → Prop) (sz : Nat) (v : Value) (n : Nat) (G : Nat → List Value) : Prop :=
  ∃ a cap, v = .slice a n cap ∧ n ≤ cap ∧ cap ≤ 9223372036854775807 ∧ (n = 0 ∨ ∃ b off, a = some ⟨b, off, none⟩ ∧ p b ∧ b < w.heap.size ∧ SReads w b off sz n G) ∧ ∀ i, i < n → (G i).length = sz

theorem Sl.nil (w : World) (p : Nat → Prop) (sz : Nat) (G : Nat → List Value) : Sl w p sz (.slice none 0 0) 0 G := ⟨none, 0, rfl, Nat.le_refl _, by omega, .inl rfl, fun i hi => by omega⟩
theorem Sl.mono {w : World} {p q : Nat → Prop} {sz : Nat} {v : Value} {n : Nat} {G : Nat → List Value} (h : Sl w p sz v n G) (hp : ∀ b, p b → q b) : Sl w q sz v n G := by
  obtain ⟨a, cap, hv, h1, h2, h3, h4⟩ := h
  refine ⟨a, cap, hv, h1, h2, ?_, h4⟩
  rcases h3 with h3 | ⟨b, off, ha, hb, r⟩
  · exact .inl h3
  · exact .inr ⟨b, off, ha, hp b hb, r⟩
/-- What of it lies where it lay. -/
theorem Sl.keep {w w' : World} {p : Nat → Prop} {sz : Nat} {v : Value} {n : Nat} {G : Nat → List Value} (h : Sl w p sz v n G) (hb : ∀ b, p b → b < w.heap.size → w'.heap[b]? = w.heap[b]?) : Sl w' p sz v n G := by
  obtain ⟨a, cap, hv, h1, h2, h3, h4⟩ := h
  refine ⟨a, cap, hv, h1, h2, ?_, h4⟩
  rcases h3 with h3 | ⟨b, off, ha, hpb, hl, r⟩
  · exact .inl h3
  · have e := hb b hpb hl
    refine .inr ⟨b, off, ha, hpb, ?_, fun i j hi hj => ?_⟩
    · by_cases hlt : b < w'.heap.size
      · exact hlt
      · rw [Array.getElem?_eq_none (by omega), Array.getElem?_eq_getElem hl] at e; cases e
    · rw [World.cell?_of_block (w := w) (a := ⟨b, off + i * sz + j, none⟩) e]; exact r i j hi hj
theorem Sl.congr {w : World} {p : Nat → Prop} {sz : Nat} {v : Value} {n : Nat} {G G' : Nat → List Value} (h : Sl w p sz v n G) (hg : ∀ i, i < n → G i = G' i) : Sl w p sz v n G' := by
  obtain ⟨a, cap, hv, h1, h2, h3, h4⟩ := h
  refine ⟨a, cap, hv, h1, h2, ?_, fun i hi => by rw [← hg i hi]; exact h4 i hi⟩
  rcases h3 with h3 | ⟨b, off, ha, hpb, hl, r⟩
  · exact .inl h3
  · exact .inr ⟨b, off, ha, hpb, hl, fun i j hi hj => by rw [← hg i hi]; exact r i j hi hj⟩
theorem Sl.arg {w : World} {p : Nat → Prop} {sz : Nat} {v : Value} {n : Nat} {G : Nat → List Value} (h : Sl w p sz v n G) : ∃ a cap, v = .slice a n cap ∧ n ≤ cap ∧ cap ≤ 9223372036854775807 ∧ SArg w a n sz G := by
  obtain ⟨a, cap, hv, h1, h2, h3, h4⟩ := h
  refine ⟨a, cap, hv, h1, h2, ?_⟩
  rcases h3 with h3 | ⟨b, off, ha, hpb, hl, r⟩
  · exact .inl h3
  · exact .inr ⟨b, off, ha, hl, r⟩

/-- A slice value that reads as the list l, each element by Q. -/
def RL {α : Type} [Inhabited α] (w : World) (p : Nat → Prop) (sz : Nat) (Q : List Value → α → Prop) (v : Value) (l : List α) : Prop :=
  ∃ G, Sl w p sz v l.length G ∧ ∀ i, i < l.length → Q (G i) (ix l i)

theorem RL.nil {α : Type} [Inhabited α] (w : World) (p : Nat → Prop) (sz : Nat) (Q : List Value → α → Prop) : RL w p sz Q (.slice none 0 0) [] := ⟨fun _ => [], Sl.nil _ _ _ _, fun i hi => by cases hi⟩
theorem RL.imp {α : Type} [Inhabited α] {w w' : World} {p q : Nat → Prop} {sz : Nat} {Q Q' : List Value → α → Prop} {v : Value} {l : List α} (h : RL w p sz Q v l) (hp : ∀ b, p b → q b)
    (hb : ∀ b, p b → b < w.heap.size → w'.heap[b]? = w.heap[b]?) (hQ : ∀ c x, Q c x → Q' c x) : RL w' q sz Q' v l := by
  obtain ⟨G, h1, h2⟩ := h
  exact ⟨G, (h1.keep hb).mono hp, fun i hi => hQ _ _ (h2 i hi)⟩

/-- The plain kinds: an element is its own cells. -/
def QV {α : Type} (c : α → List Value) (cs : List Value) (x : α) : Prop := cs = c x
theorem RL.plain {α : Type} [Inhabited α] {w : World} {p : Nat → Prop} {sz : Nat} {c : α → List Value} {v : Value} {l : List α} (h : RL w p sz (QV c) v l) : Sl w p sz v l.length (fun i => c (ix l i)) := by
  obtain ⟨G, h1, h2⟩ := h
  exact h1.congr h2
theorem RL.of_plain {α : Type} [Inhabited α] {w : World} {p : Nat → Prop} {sz : Nat} {c : α → List Value} {v : Value} {l : List α} (h : Sl w p sz v l.length (fun i => c (ix l i))) : RL w p sz (QV c) v l := ⟨_, h, fun _ _ => rfl⟩

def RParts (w : World) (p : Nat → Prop) (v : Value) (l : List Prt) : Prop := RL w p 5 (QV Prt.c) v l
def RClaims (w : World) (p : Nat → Prop) (v : Value) (l : List C5) : Prop := RL w p 5 (QV C5.c) v l
def RLegs (w : World) (p : Nat → Prop) (v : Value) (l : List Lg) : Prop := RL w p 2 (QV Lg.c) v l
def QTier (w : World) (p : Nat → Prop) (cs : List Value) (t : Tier) : Prop := ∃ v, cs = [v] ∧ RParts w p v t
def RTiers (w : World) (p : Nat → Prop) (v : Value) (l : Agr) : Prop := RL w p 1 (QTier w p) v l
def QAgr (w : World) (p : Nat → Prop) (cs : List Value) (a : Agr) : Prop := ∃ v, cs = [v] ∧ RTiers w p v a
def RAgrs (w : World) (p : Nat → Prop) (v : Value) (l : List Agr) : Prop := RL w p 1 (QAgr w p) v l
def QEst (w : World) (p : Nat → Prop) (cs : List Value) (e : Est) : Prop := ∃ cv av, cs = [.bool e.m.n, .string e.m.s, .string e.m.d, cv, av] ∧ RClaims w p cv e.c ∧ RAgrs w p av e.a
def REsts (w : World) (p : Nat → Prop) (v : Value) (l : List Est) : Prop := RL w p 5 (QEst w p) v l
def QDbt (w : World) (p : Nat → Prop) (cs : List Value) (d : Dbt) : Prop := ∃ lv, cs = [.bool d.w.n, .string d.w.s, .string d.w.d, lv] ∧ RLegs w p lv d.l
def RDbts (w : World) (p : Nat → Prop) (v : Value) (l : List Dbt) : Prop := RL w p 4 (QDbt w p) v l
/-- A group value. -/
def RGrp (w : World) (p : Nat → Prop) (v : Value) (g : Grp) : Prop := ∃ ev dv, v = .agg #[ev, dv] ∧ REsts w p ev g.e ∧ RDbts w p dv g.d

/-- Between two worlds the blocks that meet p stay. -/
structure Keeps (p : Nat → Prop) (w w' : World) : Prop where
  block : ∀ b, p b → b < w.heap.size → w'.heap[b]? = w.heap[b]?
theorem Keeps.of_below {p : Nat → Prop} {w w' : World} (h : Below w.heap.size w w') : Keeps p w w' := ⟨fun b _ hb => h.block b hb⟩
theorem Keeps.of_below' {p : Nat → Prop} {w w' : World} {B : Nat} (h : Below B w w') (hp : ∀ b, p b → b < B) : Keeps p w w' := ⟨fun b hb _ => h.block b (hp b hb)⟩

section
variable {w w' : World} {p q : Nat → Prop} {v : Value} {cs : List Value}
theorem RParts.keep {l : List Prt} (h : RParts w p v l) (k : Keeps p w w') (hp : ∀ b, p b → q b) : RParts w' q v l := RL.imp h hp k.block fun _ _ h => h
theorem RClaims.keep {l : List C5} (h : RClaims w p v l) (k : Keeps p w w') (hp : ∀ b, p b → q b) : RClaims w' q v l := RL.imp h hp k.block fun _ _ h => h
theorem RLegs.keep {l : List Lg} (h : RLegs w p v l) (k : Keeps p w w') (hp : ∀ b, p b → q b) : RLegs w' q v l := RL.imp h hp k.block fun _ _ h => h
theorem QTier.keep {t : Tier} (h : QTier w p cs t) (k : Keeps p w w') (hp : ∀ b, p b → q b) : QTier w' q cs t := by obtain ⟨v, e, h⟩ := h; exact ⟨v, e, h.keep k hp⟩
theorem RTiers.keep {l : Agr} (h : RTiers w p v l) (k : Keeps p w w') (hp : ∀ b, p b → q b) : RTiers w' q v l := RL.imp h hp k.block fun _ _ h => h.keep k hp
theorem QAgr.keep {t : Agr} (h : QAgr w p cs t) (k : Keeps p w w') (hp : ∀ b, p b → q b) : QAgr w' q cs t := by obtain ⟨v, e, h⟩ := h; exact ⟨v, e, h.keep k hp⟩
theorem RAgrs.keep {l : List Agr} (h : RAgrs w p v l) (k : Keeps p w w') (hp : ∀ b, p b → q b) : RAgrs w' q v l := RL.imp h hp k.block fun _ _ h => h.keep k hp
theorem QEst.keep {t : Est} (h : QEst w p cs t) (k : Keeps p w w') (hp : ∀ b, p b → q b) : QEst w' q cs t := by obtain ⟨v, u, e, h1, h2⟩ := h; exact ⟨v, u, e, h1.keep k hp, h2.keep k hp⟩
theorem REsts.keep {l : List Est} (h : REsts w p v l) (k : Keeps p w w') (hp : ∀ b, p b → q b) : REsts w' q v l := RL.imp h hp k.block fun _ _ h => h.keep k hp
theorem QDbt.keep {t : Dbt} (h : QDbt w p cs t) (k : Keeps p w w') (hp : ∀ b, p b → q b) : QDbt w' q cs t := by obtain ⟨v, e, h1⟩ := h; exact ⟨v, e, h1.keep k hp⟩
theorem RDbts.keep {l : List Dbt} (h : RDbts w p v l) (k : Keeps p w w') (hp : ∀ b, p b → q b) : RDbts w' q v l := RL.imp h hp k.block fun _ _ h => h.keep k hp
theorem RGrp.keep {g : Grp} (h : RGrp w p v g) (k : Keeps p w w') (hp : ∀ b, p b → q b) : RGrp w' q v g := by obtain ⟨a, b, e, h1, h2⟩ := h; exact ⟨a, b, e, h1.keep k hp, h2.keep k hp⟩

theorem RParts.on {l : List Prt} (h : RParts w p v l) (k : Below w.heap.size w w') : RParts w' p v l := h.keep (.of_below k) fun _ h => h
theorem RClaims.on {l : List C5} (h : RClaims w p v l) (k : Below w.heap.size w w') : RClaims w' p v l := h.keep (.of_below k) fun _ h => h
theorem RLegs.on {l : List Lg} (h : RLegs w p v l) (k : Below w.heap.size w w') : RLegs w' p v l := h.keep (.of_below k) fun _ h => h
theorem RTiers.on {l : Agr} (h : RTiers w p v l) (k : Below w.heap.size w w') : RTiers w' p v l := h.keep (.of_below k) fun _ h => h
theorem RAgrs.on {l : List Agr} (h : RAgrs w p v l) (k : Below w.heap.size w w') : RAgrs w' p v l := h.keep (.of_below k) fun _ h => h
theorem REsts.on {l : List Est} (h : REsts w p v l) (k : Below w.heap.size w w') : REsts w' p v l := h.keep (.of_below k) fun _ h => h
theorem RDbts.on {l : List Dbt} (h : RDbts w p v l) (k : Below w.heap.size w w') : RDbts w' p v l := h.keep (.of_below k) fun _ h => h
theorem RGrp.on {g : Grp} (h : RGrp w p v g) (k : Below w.heap.size w w') : RGrp w' p v g := h.keep (.of_below k) fun _ h => h
end

/-- The cells of element i, in this world and in later ones. -/
theorem Sl.get {w : World} {p : Nat → Prop} {sz : Nat} {a : Option Addr} {n cap : Nat} {G : Nat → List Value} (h : Sl w p sz (.slice a n cap) n G) (hn : 0 < n) :
    ∃ b off, a = some ⟨b, off, none⟩ ∧ p b ∧ b < w.heap.size ∧ SReads w b off sz n G := by
  obtain ⟨a', cap', hv, h1, h2, h3, h4⟩ := h
  simp only [Value.slice.injEq] at hv
  obtain ⟨rfl, -, rfl⟩ := hv
  rcases h3 with h3 | h3
  · omega
  · exact h3
theorem Sl.form {w : World} {p : Nat → Prop} {sz : Nat} {v : Value} {n : Nat} {G : Nat → List Value} (h : Sl w p sz v n G) : ∃ a cap, v = .slice a n cap ∧ n ≤ cap ∧ cap ≤ 9223372036854775807 := by
  obtain ⟨a, cap, hv, h1, h2, _⟩ := h
  exact ⟨a, cap, hv, h1, h2⟩
/-- A slice of the call's own, as a slice that reads. -/
theorem SOwn.sl {w : World} {base : Nat} {T : TypeId} {sz : Nat} {v : Value} {n : Nat} {F : Nat → List Value} (h : SOwn w base T sz v n F) : Sl w (fun b => base ≤ b) sz v n F := by
  rcases h.form with ⟨rfl, rfl⟩ | ⟨g, cap, rfl, hb, hn, hm, hl, hr⟩
  · exact Sl.nil _ _ _ _
  · exact ⟨_, cap, rfl, hn, hm, .inr ⟨g, 0, rfl, hb, hl, hr⟩, h.2⟩
theorem Own.sl {w : World} {b sz n : Nat} {F : Nat → List Value} (h : Own w b sz n F) (hn : n ≤ 9223372036854775807) (hl : ∀ i, i < n → (F i).length = sz) : Sl w (fun x => x = b) sz (.slice (some ⟨b, 0, none⟩) n n) n F :=
  ⟨_, n, rfl, Nat.le_refl _, hn, .inr ⟨b, 0, rfl, rfl, h.lt, h.reads⟩, hl⟩
end Go.Proofs.Ins

set_option linter.unusedSimpArgs false
set_option linter.unusedVariables false
namespace Go.Proofs.Ins

/-- The first of n codes that is not 0; else 0. -/
def fnz (f : Nat → Int) : Nat → Int
  | 0 => 0
  | n + 1 => if fnz f n = 0 then f n else fnz f n
theorem fnz_none {f : Nat → Int} : ∀ {n : Nat}, (∀ i, i < n → f i = 0) → fnz f n = 0
  | 0, _ => rfl
  | n + 1, h => by
    unfold fnz; rw [if_pos (fnz_none fun i hi => h i (by omega))]; exact h n (by omega)
theorem fnz_hit {f : Nat → Int} {k : Nat} : ∀ {n : Nat}, (∀ i, i < k → f i = 0) → f k ≠ 0 → k < n → fnz f n = f k
  | 0, _, _, h => by omega
  | n + 1, h, h2, h3 => by
    unfold fnz
    by_cases e : k = n
    · subst e; rw [if_pos (fnz_none h)]
    · have := fnz_hit h h2 (show k < n by omega)
      rw [if_neg (by rw [this]; exact h2), this]
theorem fnz_zero {f : Nat → Int} : ∀ {n : Nat}, fnz f n = 0 → ∀ i, i < n → f i = 0
  | 0, _, i, hi => by omega
  | n + 1, h, i, hi => by
    unfold fnz at h
    by_cases e : fnz f n = 0
    · rw [if_pos e] at h
      by_cases e2 : i = n
      · rw [e2]; exact h
      · exact fnz_zero e i (by omega)
    · rw [if_neg e] at h; exact absurd h e
theorem fnz_congr {f g : Nat → Int} : ∀ {n : Nat}, (∀ i, i < n → f i = g i) → fnz f n = fnz g n
  | 0, _ => rfl
  | n + 1, h => by unfold fnz; rw [fnz_congr (n := n) fun i hi => h i (by omega), h n (by omega)]
/-- A claim. -/
def chkC (x : C5) : Int := if x.h < -1 ∨ 8 ≤ x.h then 19 else if x.r < 0 ∨ 7 < x.r then 1 else if sg x.a.q < 0 then 7 else 0
/-- Whether a claim occurs in an agreement. -/
def memT (t : Tier) (c : Int) : Bool := t.any fun p => p.k == c
def memA (a : Agr) (c : Int) : Bool := a.any fun t => memT t c
/-- Whether it occurs in one of the first k. -/
def earA (l : List Agr) (k : Nat) (c : Int) : Bool := (l.take k).any fun a => memA a c
/-- A part of the agreement k of an estate with n claims. -/
def chkP (n : Nat) (tk : Int → Bool) (p : Prt) : Int :=
  if p.k < -1 ∨ (n : Int) ≤ p.k then 1 else if p.k = -1 ∧ p.b = false then 21 else if p.b = true ∧ sg p.a.q < 0 then 7 else if p.k ≠ -1 ∧ tk p.k = true then 20 else 0
def longT (a : Agr) : Bool := decide (24 < a.length) || a.any fun t => decide (24 < t.length)
def chkT (n : Nat) (tk : Int → Bool) (t : Tier) : Int := fnz (fun i => chkP n tk (ix t i)) t.length
def chkA (n : Nat) (tk : Int → Bool) (a : Agr) : Int := if longT a = true then 2 else fnz (fun i => chkT n tk (ix a i)) a.length
/-- An estate. -/
def chkE (e : Est) : Int :=
  if 24 < e.c.length ∨ 12 < e.a.length then 2 else if sg e.m.q < 0 then 7
  else if fnz (fun i => chkC (ix e.c i)) e.c.length ≠ 0 then fnz (fun i => chkC (ix e.c i)) e.c.length
  else fnz (fun k => chkA e.c.length (earA e.a k) (ix e.a k)) e.a.length

theorem memT_ix {t : Tier} {c : Int} : memT t c = true ↔ ∃ i, i < t.length ∧ (ix t i).k = c := by
  unfold memT; rw [List.any_eq_true]
  constructor
  · rintro ⟨x, hx, h⟩
    obtain ⟨i, hi, rfl⟩ := List.getElem_of_mem hx
    exact ⟨i, hi, by rw [ix_lt hi]; simpa using h⟩
  · rintro ⟨i, hi, h⟩
    exact ⟨_, ix_mem hi, by simpa using h⟩
theorem memA_ix {a : Agr} {c : Int} : memA a c = true ↔ ∃ i, i < a.length ∧ memT (ix a i) c = true := by
  unfold memA; rw [List.any_eq_true]
  constructor
  · rintro ⟨x, hx, h⟩
    obtain ⟨i, hi, rfl⟩ := List.getElem_of_mem hx
    exact ⟨i, hi, by rw [ix_lt hi]; exact h⟩
  · rintro ⟨i, hi, h⟩
    exact ⟨_, ix_mem hi, h⟩
theorem earA_zero (l : List Agr) (c : Int) : earA l 0 c = false := by simp [earA]
theorem earA_succ {l : List Agr} {k : Nat} (h : k < l.length) (c : Int) : earA l (k + 1) c = (earA l k c || memA (ix l k) c) := by
  unfold earA; rw [take_succ_ix h, List.any_append]; simp
theorem longT_false {a : Agr} : longT a = false ↔ a.length ≤ 24 ∧ ∀ i, i < a.length → (ix a i).length ≤ 24 := by
  unfold longT
  rw [Bool.or_eq_false_iff, decide_eq_false_iff_not, List.any_eq_false]
  constructor
  · rintro ⟨h1, h2⟩
    exact ⟨by omega, fun i hi => by have := h2 _ (ix_mem hi); simp at this; omega⟩
  · rintro ⟨h1, h2⟩
    refine ⟨by omega, fun x hx => ?_⟩
    obtain ⟨i, hi, rfl⟩ := List.getElem_of_mem hx
    have := h2 i hi; rw [ix_lt hi] at this; simp; omega

/-- The legs that come before leg k of debt d. -/
def legsB (l : List Dbt) (d k : Nat) : List Lg := ((l.take d).flatMap fun x => x.l) ++ (ix l d).l.take k
def hasLg (s : List Lg) (x : Lg) : Bool := s.any fun y => y.e == x.e && y.k == x.k
/-- The holder of the claim that a leg is. -/
def holdL (l : List Est) (x : Lg) : Int := (ix (ix l x.e.toNat).c x.k.toNat).h
def chkL (g : Grp) (d k : Nat) : Int :=
  let x := ix (ix g.d d).l k
  if x.e < 0 ∨ (g.e.length : Int) ≤ x.e ∨ x.k < 0 ∨ ((ix g.e x.e.toNat).c.length : Int) ≤ x.k then 1
  else if hasLg (legsB g.d d k) x = true then 20
  else if holdL g.e x ≠ holdL g.e (ix (ix g.d d).l 0) then 19 else 0
def chkD (g : Grp) (d : Nat) : Int :=
  if 8 < (ix g.d d).l.length then 2 else if sg (ix g.d d).w.q < 0 then 7 else fnz (chkL g d) (ix g.d d).l.length
def chkH (g : Grp) (i k : Nat) : Int := if (g.e.length : Int) ≤ (ix (ix g.e i).c k).h ∨ (ix (ix g.e i).c k).h = (i : Int) then 19 else 0
/-- A group. -/
def chkG (g : Grp) : Int :=
  if 8 < g.e.length ∨ 16 < g.d.length then 2
  else if fnz (fun i => chkE (ix g.e i)) g.e.length ≠ 0 then fnz (fun i => chkE (ix g.e i)) g.e.length
  else if fnz (fun i => fnz (chkH g i) (ix g.e i).c.length) g.e.length ≠ 0 then fnz (fun i => fnz (chkH g i) (ix g.e i).c.length) g.e.length
  else fnz (chkD g) g.d.length

/-- No number of a group is long. -/
structure SmallE (k : Nat) (e : Est) : Prop where
  m : e.m.fits k
  c : ∀ i, i < e.c.length → (ix e.c i).a.fits k
  a : ∀ i j l, i < e.a.length → j < (ix e.a i).length → l < (ix (ix e.a i) j).length → (ix (ix (ix e.a i) j) l).a.fits k
  lc : e.c.length ≤ 140737488351232
  la : e.a.length ≤ 140737488351232
  lt : ∀ i, i < e.a.length → (ix e.a i).length ≤ 140737488351232
  lp : ∀ i j, i < e.a.length → j < (ix e.a i).length → (ix (ix e.a i) j).length ≤ 140737488351232
structure SmallG (k : Nat) (g : Grp) : Prop where
  e : ∀ i, i < g.e.length → SmallE k (ix g.e i)
  w : ∀ i, i < g.d.length → (ix g.d i).w.fits k
  le : g.e.length ≤ 140737488351232
  ld : g.d.length ≤ 140737488351232
  ll : ∀ i, i < g.d.length → (ix g.d i).l.length ≤ 140737488351232
end Go.Proofs.Ins

set_option linter.unusedSimpArgs false
set_option linter.unusedVariables false
namespace Go.Proofs.Ins
open Go.RowKit

/-- A fact about one kind of element, for each of the first k. -/
theorem all_next {p : Nat → Prop} {k : Nat} (h : ∀ i, i < k → p i) (h2 : p k) : ∀ i, i < k + 1 → p i := fun i hi => by
  by_cases e : i = k
  · rw [e]; exact h2
  · exact h i (by omega)
theorem memT_false {t : Tier} {c : Int} (h : ∀ i, i < t.length → (ix t i).k ≠ c) : memT t c = false := Bool.eq_false_iff.mpr fun h2 => by
  obtain ⟨i, hi, e⟩ := memT_ix.mp h2
  exact h i hi e
theorem memA_false {t : Agr} {c : Int} (h : ∀ i, i < t.length → memT (ix t i) c = false) : memA t c = false := Bool.eq_false_iff.mpr fun h2 => by
  obtain ⟨i, hi, e⟩ := memA_ix.mp h2
  rw [h i hi] at e; cases e
/-- The cells of a part, a claim, a leg. -/
theorem Sl.cellAt {w w' : World} {p : Nat → Prop} {sz n : Nat} {a : Option Addr} {cap : Nat} {G : Nat → List Value} (h : Sl w p sz (.slice a n cap) n G) {b off : Nat} (ha : a = some ⟨b, off, none⟩) (k : Below w.heap.size w w') {i j : Nat} (hi : i < n) (hj : j < sz) :
    w'.cell? ⟨b, off + i * sz + j, none⟩ = (G i)[j]? := by
  obtain ⟨b', off', ha', -, hl, hr⟩ := h.get (by omega)
  rw [ha] at ha'
  simp only [Option.some.injEq, Addr.mk.injEq, and_true] at ha'
  obtain ⟨rfl, rfl⟩ := ha'
  exact (hr.below k hl) i j hi hj

set_option maxRecDepth 100000 in
set_option maxHeartbeats 1600000 in
theorem member_any (p : Nat → Prop) (v : Value) (a : Agr) (c : Int) (w : World) (hA : RTiers w p v a) (la : a.length ≤ 140737488351232) (lp : ∀ i, i < a.length → (ix a i).length ≤ 140737488351232) :
    Calls Tryz.prog 155 #[.agg #[v], .int .i64 c] w fun e w' => e = .returned (.bool (memA a c)) ∧ Below w.heap.size w w' := by
  obtain ⟨G, hS, hQ⟩ := hA
  obtain ⟨aa, cap, rfl, -, -⟩ := hS.form
  have HYES := Lib.hid (fun i (h : i < a.length) (h2 : memT (ix a i) c = true) => memA_ix.mpr ⟨i, h, h2⟩)
  have HNO := Lib.hid (fun h => memA_false (t := a) (c := c) h)
  have HS := Lib.hid hS
  have HQ := Lib.hid hQ
  have HLP := Lib.hid lp
  generalize hT : memA a c = T at *
  clear hT hS hQ lp
  generalize hn : a.length = n at *
  go_enter Tryz.func155, Tryz.ntmps155
  go_wp2_with fail
  refine wp_forget (fun W => Blk W w.heap.size #[.slice aa n cap] ∧ Below w.heap.size w W) ⟨Blk.new _ _ _, (Below.refl _ _).alloc (Nat.le_refl _) _⟩ ?_
  rintro W ⟨hb0, hbel⟩
  have k0 : W.cell? ⟨w.heap.size, 0, none⟩ = some (.slice aa n cap) := hb0.cell 0
  have HB := Lib.hid hbel
  clear hbel hb0
  go_loopw [5, 6] (fun i _ wr => ∃ k : Nat, i = .int .i64 k ∧ k ≤ n ∧ wr = W ∧ Hid (∀ i, i < k → memT (ix a i) c = false)) (fun i _ _ => n - (intOf i).toNat)
  case atStart => exact ⟨0, rfl, by omega, rfl, fun i hi => by omega⟩
  case round =>
    obtain ⟨k, rfl, hk, rfl, hs⟩ := hrel
    by_cases hlt : k < n
    · obtain ⟨b, off, rfl, -, -, -⟩ := HS.out.get (by omega)
      have c0 := HS.out.cellAt rfl HB.out (i := k) (j := 0) hlt (by omega)
      obtain ⟨v2, hG, hR⟩ := HQ.out k hlt
      obtain ⟨a2, cap2, rfl, -, -⟩ := hR.plain.form
      rw [hG, Nat.mul_one, Nat.add_zero] at c0
      have c1 : wr.cell? ⟨b, off + k, none⟩ = some (.slice a2 (ix a k).length cap2) := c0
      have l2 := HLP.out k hlt
      have HP := Lib.hid hR.plain
      have HY2 := Lib.hid (fun j (h : j < (ix a k).length) (h2 : (ix (ix a k) j).k = c) => HYES.out k hlt (memT_ix.mpr ⟨j, h, h2⟩))
      have HN2 := Lib.hid (fun h => memT_false (t := ix a k) (c := c) h)
      have i1 : (0 : Int) ≤ (k : Int) := by omega
      have i2 : (k : Int) < (n : Int) := by omega
      have HSN := Lib.hid (fun h => all_next (p := fun i => memT (ix a i) c = false) hs.out h)
      clear c0 hR hG hs
      generalize hT2 : memT (ix a k) c = T2 at *
      generalize hn2 : (ix a k).length = n2 at *
      generalize hak : ix a k = ak at *
      clear hT2 hak
      go_wp2_with fail
      go_loopw [6] (fun i wr' => ∃ j : Nat, i = .int .i64 j ∧ j ≤ n2 ∧ wr' = wr ∧ Hid (∀ i, i < j → (ix ak i).k ≠ c)) (fun i _ => n2 - (intOf i).toNat)
      case atStart => exact ⟨0, rfl, by omega, rfl, fun i hi => by omega⟩
      case round =>
        obtain ⟨j, rfl, hj, rfl, hs2⟩ := hrel
        by_cases hlj : j < n2
        · obtain ⟨b2, off2, rfl, -, -, -⟩ := HP.out.get (by omega)
          have d0 := HP.out.cellAt rfl HB.out (i := j) (j := 0) hlj (by omega)
          rw [Nat.add_zero] at d0
          have d1 := (show _ = some (Value.int .i64 (ix ak j).k) from d0)
          have j1 : (0 : Int) ≤ (j : Int) := by omega
          have j2 : (j : Int) < (n2 : Int) := by omega
          have HYJ := Lib.hid (HY2.out j hlj)
          have HSJ := Lib.hid (fun h => all_next (p := fun i => (ix ak i).k ≠ c) hs2.out h)
          clear d0 hs2
          generalize (ix ak j).k = x at *
          by_cases hx : x = c
          · subst hx
            have HR := Lib.hid (HYJ.out rfl)
            go_wp2
            go_ret
            exact ⟨ret_bool HR.out.symm, HB.out⟩
          · have hx2 : (x == c) = false := by simp [hx]
            have HSK := Lib.hid (HSJ.out hx)
            go_wp2
            go_roundw
            case rel => exact ⟨j + 1, by go_num, by omega, by simp, HSK.out⟩
            case measure => simp [intOf]; omega
        · obtain rfl : j = n2 := by omega
          have HZ := Lib.hid (HSN.out (HN2.out hs2.out))
          have hnl : decide ((j : Int) < (j : Int)) = false := by simp
          go_wp2
          go_roundw
          case rel => exact ⟨k + 1, by go_num, by omega, by simp, HZ.out⟩
          case measure => simp [intOf]; omega
    · obtain rfl : k = n := by omega
      have HZ := Lib.hid (HNO.out hs.out)
      have hnl : decide ((k : Int) < (k : Int)) = false := by simp
      go_wp2
      go_ret
      exact ⟨ret_bool HZ.out.symm, HB.out⟩
end Go.Proofs.Ins

set_option linter.unusedSimpArgs false
set_option linter.unusedVariables false
namespace Go.Proofs.Ins
open Go.RowKit

theorem Blk.c5 {w : World} {b : Nat} {v0 v1 v2 v3 v4 : Value} (h : Blk w b #[v0, v1, v2, v3, v4]) :
    w.cell? ⟨b, 0, none⟩ = some v0 ∧ w.cell? ⟨b, 1, none⟩ = some v1 ∧ w.cell? ⟨b, 2, none⟩ = some v2 ∧ w.cell? ⟨b, 3, none⟩ = some v3 ∧ w.cell? ⟨b, 4, none⟩ = some v4 :=
  ⟨h.cell 0, h.cell 1, h.cell 2, h.cell 3, h.cell 4⟩
/-- An estate as one value. -/
def Est.v (e : Est) (cv av : Value) : Value := .agg #[.bool e.m.n, .string e.m.s, .string e.m.d, cv, av]

set_option maxRecDepth 100000 in
set_option maxHeartbeats 1600000 in
theorem earlier_any (p : Nat → Prop) (x0 x1 x2 cv av : Value) (l : List Agr) (k : Nat) (c : Int) (w : World) (hA : RAgrs w p av l) (hk : k ≤ l.length) (lt : ∀ i, i < l.length → (ix l i).length ≤ 140737488351232) (lp : ∀ i j, i < l.length → j < (ix l i).length → (ix (ix l i) j).length ≤ 140737488351232) (hl : l.length ≤ 140737488351232) :
    Calls Tryz.prog 135 #[.agg #[x0, x1, x2, cv, av], .int .i64 (k : Int), .int .i64 c] w fun e w' => e = .returned (.bool (earA l k c)) ∧ Below w.heap.size w w' := by
  obtain ⟨G, hS, hQ⟩ := hA
  obtain ⟨aa, cap, rfl, -, -⟩ := hS.form
  have HS := Lib.hid hS
  have HQ := Lib.hid hQ
  have HM := Lib.hid (fun i (h : i < l.length) v w (hR : RTiers w p v (ix l i)) => member_any p v (ix l i) c w hR (lt i h) (lp i · h))
  have HE := Lib.hid (fun i (h : i < l.length) => earA_succ h c)
  have HZ := Lib.hid (earA_zero l c)
  have HYES := Lib.hid (fun i (h : i < k) (h2 : memA (ix l i) c = true) => (show earA l k c = true by
    unfold earA; rw [List.any_eq_true]; refine ⟨_, ?_, h2⟩; rw [← ix_take h]; exact ix_mem (by rw [List.length_take]; omega)))
  clear hS hQ lt lp
  generalize hT : earA l k c = T at *
  have HT := Lib.hid hT
  generalize hmm : (fun i => memA (ix l i) c) = MM at *
  have HMM := Lib.hid hmm
  clear hT hmm
  generalize hn : l.length = n at *
  go_enter Tryz.func135, Tryz.ntmps135
  go_wp2_with fail
  refine wp_forget (fun W => Blk W w.heap.size #[x0, x1, x2, cv, .slice aa n cap] ∧ Below w.heap.size w W) ⟨Blk.new _ _ _, (Below.refl _ _).alloc (Nat.le_refl _) _⟩ ?_
  rintro W ⟨hb0, hbel⟩
  have J := Lib.hid hb0
  have HB := Lib.hid hbel
  clear hbel hb0
  go_loopw [7] (fun i wr => ∃ j : Nat, i = .int .i64 j ∧ j ≤ k ∧ Blk wr w.heap.size #[x0, x1, x2, cv, .slice aa n cap] ∧ Below w.heap.size w wr ∧ Hid (earA l j c = false)) (fun i _ => k - (intOf i).toNat)
  case atStart => exact ⟨0, rfl, by omega, J.out, HB.out, HZ.out⟩
  case round =>
    obtain ⟨j, rfl, hj, J, hbel, hs⟩ := hrel
    have J := Lib.hid J
    have HB := Lib.hid hbel
    by_cases hlt : j < k
    · obtain ⟨b, off, rfl, -, -, -⟩ := HS.out.get (by omega)
      have c0 := HS.out.cellAt rfl HB.out (i := j) (j := 0) (by omega) (by omega)
      obtain ⟨v2, hG, hR⟩ := HQ.out j (by omega)
      rw [hG, Nat.mul_one, Nat.add_zero] at c0
      have c1 : wr.cell? ⟨b, off + j, none⟩ = some v2 := c0
      have HC := Lib.hid (HM.out j (by omega) v2 wr (hR.on HB.out))
      have HEJ := Lib.hid (HE.out j (by omega))
      have HYJ := Lib.hid (HYES.out j hlt)
      obtain ⟨-, -, -, -, k4⟩ := J.out.c5
      have i1 : (0 : Int) ≤ (j : Int) := by omega
      have i2 : (j : Int) < (k : Int) := by omega
      have i3 : (j : Int) < (n : Int) := by omega
      clear c0 hG hR HM HYES HE HQ
      generalize memA (ix l j) c = mb at *
      go_wp2_with fail
      refine HC.out.mono ?_; rintro e w3 ⟨rfl, hb3⟩
      have J := Lib.hid (J.out.on hb3)
      have HB := Lib.hid (chain HB.out hb3 (Nat.le_refl _))
      clear hb3
      cases mb
      · have HF := Lib.hid (show earA l (j + 1) c = false by rw [HEJ.out, hs.out]; rfl)
        clear k4 c1
        go_wp2
        go_roundw
        case rel => exact ⟨j + 1, by go_num, by omega, J.out, HB.out, HF.out⟩
        case measure => simp [intOf]; omega
      · have HR := Lib.hid (HYJ.out rfl)
        clear k4 c1
        go_wp2
        go_ret
        exact ⟨ret_bool HR.out.symm, HB.out⟩
    · obtain rfl : j = k := by omega
      have HR := Lib.hid (show T = false by rw [← HT.out]; exact hs.out)
      have hnl : decide ((j : Int) < (j : Int)) = false := by simp
      go_wp2
      go_ret
      exact ⟨ret_bool HR.out.symm, HB.out⟩
end Go.Proofs.Ins
