/- A block that is known whole: a small struct of the call's own. -/
import Derived.Test.YtobbllakdjampaaGreatDoorMem
import Derived.Test.YtobbllakdjampaaGreatDoorQT
set_option linter.unusedSimpArgs false
set_option linter.unusedVariables false
namespace Go.Proofs.Ins
open Go.RowKit

/-- Block b holds just these cells, and may be written. -/
def Blk (w : World) (b : Nat) (vs : Array Value) : Prop := ∃ T, w.heap[b]? = some (.cells vs T (0, 0))

theorem Blk.lt {w : World} {b : Nat} {vs : Array Value} (h : Blk w b vs) : b < w.heap.size := by
  obtain ⟨T, h⟩ := h; exact (Array.getElem?_eq_some_iff.mp h).1
theorem Blk.cell {w : World} {b : Nat} {vs : Array Value} (h : Blk w b vs) (j : Nat) : w.cell? ⟨b, j, none⟩ = vs[j]? := by
  obtain ⟨T, h⟩ := h; exact cell_of_row w b j vs T (0, 0) h
theorem Blk.frozen {w : World} {b : Nat} {vs : Array Value} (h : Blk w b vs) (j : Nat) : w.frozen? ⟨b, j, none⟩ = false := by
  obtain ⟨T, h⟩ := h; exact frozen_of_row w b j vs T h
theorem Blk.block {w w' : World} {b : Nat} {vs : Array Value} (h : Blk w b vs) (hb : w'.heap[b]? = w.heap[b]?) : Blk w' b vs := by
  obtain ⟨T, h⟩ := h; exact ⟨T, hb.trans h⟩
theorem Blk.below {w w' : World} {b B : Nat} {vs : Array Value} (h : Blk w b vs) (hb : Below B w w') (hB : b < B) : Blk w' b vs := h.block (hb.block b hB)
/-- Of what was there nothing has turned. -/
theorem Blk.on {w w' : World} {b : Nat} {vs : Array Value} (h : Blk w b vs) (hb : Below w.heap.size w w') : Blk w' b vs := h.below hb h.lt
theorem Blk.alloc {w : World} {b : Nat} {vs : Array Value} (h : Blk w b vs) (o : Obj) : Blk (w.alloc o) b vs := h.block (Below.heap_alloc w o b h.lt)
theorem Blk.new (w : World) (vs : Array Value) (T : TypeId) : Blk (w.alloc (.cells vs T)) w.heap.size vs := ⟨T, heap_alloc_new w _⟩
theorem Blk.drew {w : World} {b : Nat} {vs : Array Value} (h : Blk w b vs) : Blk w.drew b vs := h.block rfl
theorem Blk.setOther {w : World} {b : Nat} {vs : Array Value} (h : Blk w b vs) (a : Addr) (v : Value) (ha : b ≠ a.block) : Blk (w.setCell a v) b vs := h.block (heap_setCell_other w a b v ha)
theorem Blk.set {w : World} {b : Nat} {vs : Array Value} (h : Blk w b vs) (i : Nat) (v : Value) : Blk (w.setCell ⟨b, i, none⟩ v) b (vs.setIfInBounds i v) := by
  obtain ⟨T, h⟩ := h
  refine ⟨T, ?_⟩
  rw [World.setCell]
  simp only [Array.getElem?_modify]
  simp [h]

/-- Three cells. -/
abbrev Blk3 (w : World) (b : Nat) (x y z : Value) : Prop := Blk w b #[x, y, z]
theorem Blk.get3 {w : World} {b : Nat} {x y z : Value} (h : Blk w b #[x, y, z]) :
    w.cell? ⟨b, 0, none⟩ = some x ∧ w.cell? ⟨b, 1, none⟩ = some y ∧ w.cell? ⟨b, 2, none⟩ = some z ∧ w.frozen? ⟨b, 0, none⟩ = false ∧ w.frozen? ⟨b, 1, none⟩ = false ∧ w.frozen? ⟨b, 2, none⟩ = false :=
  ⟨h.cell 0, h.cell 1, h.cell 2, h.frozen 0, h.frozen 1, h.frozen 2⟩
theorem Blk.later3 {w : World} {b : Nat} {x y z : Value} (h : Blk w b #[x, y, z]) :
    (∀ d os, (Sort.grow (redrawn w d) os).cell? ⟨b, 0, none⟩ = some x) ∧ (∀ d os, (Sort.grow (redrawn w d) os).cell? ⟨b, 1, none⟩ = some y) ∧ (∀ d os, (Sort.grow (redrawn w d) os).cell? ⟨b, 2, none⟩ = some z) :=
  ⟨cell_regrown (h.cell 0), cell_regrown (h.cell 1), cell_regrown (h.cell 2)⟩
theorem Blk.set3 {w : World} {b : Nat} {x y z : Value} (h : Blk w b #[x, y, z]) (x' y' z' : Value) :
    Blk (((w.setCell ⟨b, 0, none⟩ x').setCell ⟨b, 1, none⟩ y').setCell ⟨b, 2, none⟩ z') b #[x', y', z'] := ((h.set 0 x').set 1 y').set 2 z'
theorem Blk.set3Other {w : World} {b b2 : Nat} {vs : Array Value} (h : Blk w b vs) (hb : b ≠ b2) (x' y' z' : Value) :
    Blk (((w.setCell ⟨b2, 0, none⟩ x').setCell ⟨b2, 1, none⟩ y').setCell ⟨b2, 2, none⟩ z') b vs := ((h.setOther _ _ hb).setOther _ _ hb).setOther _ _ hb
theorem below_set3 {B b : Nat} {w w' : World} (h : Below B w w') (hb : B ≤ b) (x' y' z' : Value) :
    Below B w (((w'.setCell ⟨b, 0, none⟩ x').setCell ⟨b, 1, none⟩ y').setCell ⟨b, 2, none⟩ z') := ((h.setCell hb _).setCell hb _).setCell hb _
/-- A world and the one behind it. -/
theorem chain {B : Nat} {w0 w w' : World} (h : Below B w0 w) (h2 : Below w.heap.size w w') (hB : B ≤ w0.heap.size) : Below B w0 w' := h.trans (h2.mono (Nat.le_trans hB h.size))
theorem boxes1 {w w3 : World} {vs : Array Value} {T : TypeId} (h : Below (w.alloc (.cells vs T)).heap.size (w.alloc (.cells vs T)) w3) :
    Blk w3 w.heap.size vs ∧ Below w.heap.size w w3 :=
  ⟨(Blk.new w vs T).on h, chain ((Below.refl _ _).alloc (Nat.le_refl _) _) h (Nat.le_refl _)⟩
theorem boxes2 {w w3 : World} {vs us : Array Value} {T U : TypeId} (h : Below ((w.alloc (.cells vs T)).alloc (.cells us U)).heap.size ((w.alloc (.cells vs T)).alloc (.cells us U)) w3) :
    Blk w3 w.heap.size vs ∧ Blk w3 (w.heap.size + 1) us ∧ Below w.heap.size w w3 := by
  refine ⟨((Blk.new w vs T).alloc _).on h, ?_, chain (((Below.refl _ _).alloc (Nat.le_refl _) _).alloc (by simp) _) h (Nat.le_refl _)⟩
  have := (Blk.new (w.alloc (.cells vs T)) us U).on h
  rwa [World.size_alloc] at this
theorem boxes3 {w w3 : World} {vs us ts : Array Value} {T U V : TypeId} (h : Below (((w.alloc (.cells vs T)).alloc (.cells us U)).alloc (.cells ts V)).heap.size (((w.alloc (.cells vs T)).alloc (.cells us U)).alloc (.cells ts V)) w3) :
    Blk w3 w.heap.size vs ∧ Blk w3 (w.heap.size + 1) us ∧ Blk w3 (w.heap.size + 1 + 1) ts ∧ Below w.heap.size w w3 := by
  refine ⟨(((Blk.new w vs T).alloc _).alloc _).on h, ?_, ?_, chain ((((Below.refl _ _).alloc (Nat.le_refl _) _).alloc (by simp) _).alloc (by simp; omega) _) h (Nat.le_refl _)⟩
  · have := ((Blk.new (w.alloc (.cells vs T)) us U).alloc (.cells ts V)).on h
    rwa [World.size_alloc] at this
  · have := (Blk.new ((w.alloc (.cells vs T)).alloc (.cells us U)) ts V).on h
    rwa [World.size_alloc, World.size_alloc] at this

theorem bodyPost_forget {P : Program} {f : Func} {post : Ending → World → Prop} {x : Exit} {a : Act} {w : World} (R : World → Prop) (h : R w) (h2 : ∀ W, R W → bodyPost P f post x a W) : bodyPost P f post x a w := h2 w h
end Go.Proofs.Ins
