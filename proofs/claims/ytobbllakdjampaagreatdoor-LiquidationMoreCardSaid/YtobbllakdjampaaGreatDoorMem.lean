/- Facts on memory: a row of integers that the call itself made, a row that is read, numbers as limbs in memory. -/
import Derived.Test.YtobbllakdjampaaGreatDoorMath
import Derived.WalkKit
import Derived.WalkSpells
import Derived.WalkLawsBesides
set_option linter.unusedSimpArgs false
set_option linter.unusedVariables false
namespace Go.Proofs.Ins
open Go.RowKit

/-- Block b holds just n integers, and may be written. -/
def Row (w : World) (b : Nat) (T : TypeId) (k : IntKind) (n : Nat) (f : Nat → Nat) : Prop :=
  ∃ c, w.heap[b]? = some (.cells c T (0, 0)) ∧ c.size = n ∧ ∀ j, j < n → c[j]? = some (.int k (f j))

theorem Row.lt {w : World} {b : Nat} {T : TypeId} {k : IntKind} {n : Nat} {f : Nat → Nat} (h : Row w b T k n f) : b < w.heap.size := by
  obtain ⟨c, hc, _⟩ := h
  exact (Array.getElem?_eq_some_iff.mp hc).1

theorem Row.cell {w : World} {b : Nat} {T : TypeId} {k : IntKind} {n : Nat} {f : Nat → Nat} (h : Row w b T k n f) {j : Nat} (hj : j < n) : w.cell? ⟨b, j, none⟩ = some (.int k (f j)) := by
  obtain ⟨c, hc, hn, hf⟩ := h
  rw [cell_of_row w b j c T (0, 0) hc, hf j hj]

theorem Row.frozen {w : World} {b : Nat} {T : TypeId} {k : IntKind} {n : Nat} {f : Nat → Nat} (h : Row w b T k n f) (j : Nat) : w.frozen? ⟨b, j, none⟩ = false := by
  obtain ⟨c, hc, _⟩ := h
  exact frozen_of_row w b j c T hc

theorem Row.congr {w : World} {b : Nat} {T : TypeId} {k : IntKind} {n : Nat} {f g : Nat → Nat} (h : Row w b T k n f) (hg : ∀ j, j < n → f j = g j) : Row w b T k n g := by
  obtain ⟨c, hc, hn, hf⟩ := h
  exact ⟨c, hc, hn, fun j hj => by rw [← hg j hj]; exact hf j hj⟩

theorem Row.block {w w' : World} {b : Nat} {T : TypeId} {k : IntKind} {n : Nat} {f : Nat → Nat} (h : Row w b T k n f) (hb : w'.heap[b]? = w.heap[b]?) : Row w' b T k n f := by
  obtain ⟨c, hc, r⟩ := h
  exact ⟨c, hb.trans hc, r⟩

theorem Row.alloc {w : World} {b : Nat} {T : TypeId} {k : IntKind} {n : Nat} {f : Nat → Nat} (h : Row w b T k n f) (o : Obj) : Row (w.alloc o) b T k n f :=
  h.block (Below.heap_alloc w o b h.lt)

theorem Row.drew {w : World} {b : Nat} {T : TypeId} {k : IntKind} {n : Nat} {f : Nat → Nat} (h : Row w b T k n f) : Row w.drew b T k n f := h.block rfl

theorem Row.drewN {w : World} {b : Nat} {T : TypeId} {k : IntKind} {n : Nat} {f : Nat → Nat} (h : Row w b T k n f) (m : Nat) : Row (w.drewN m) b T k n f := h.block rfl

theorem Row.below {w w' : World} {b B : Nat} {T : TypeId} {k : IntKind} {n : Nat} {f : Nat → Nat} (h : Row w b T k n f) (hb : Below B w w') (hB : b < B) : Row w' b T k n f := h.block (hb.block b hB)

theorem Row.setOther {w : World} {b : Nat} {T : TypeId} {k : IntKind} {n : Nat} {f : Nat → Nat} (h : Row w b T k n f) (a : Addr) (v : Value) (ha : b ≠ a.block) : Row (w.setCell a v) b T k n f :=
  h.block (heap_setCell_other w a b v ha)

theorem Row.set {w : World} {b : Nat} {T : TypeId} {k : IntKind} {n : Nat} {f : Nat → Nat} (h : Row w b T k n f) (i v : Nat) : Row (w.setCell ⟨b, i, none⟩ (.int k v)) b T k n (upd f i v) := by
  obtain ⟨c, hc, hn, hf⟩ := h
  refine ⟨c.setIfInBounds i (.int k v), ?_, by simpa using hn, fun j hj => ?_⟩
  · rw [World.setCell]
    simp only [Array.getElem?_modify]
    simp [hc]
  · rw [Array.getElem?_setIfInBounds]
    by_cases e : i = j
    · subst e; simp [upd_same, hn, hj]
    · rw [if_neg e, upd_other f i v (Ne.symm e)]; exact hf j hj

theorem Row.made (w : World) (T : TypeId) (k : IntKind) (n : Nat) : Row (w.alloc (.cells (madeCells #[.int k 0] n) T)) w.heap.size T k n (fun _ => 0) := by
  refine ⟨_, heap_alloc_new w _, size_madeCells _ _, fun j hj => ?_⟩
  have : (madeCells #[Value.int k 0] n).toList = List.replicate n (.int k 0) := toList_madeCells_one _ _
  rw [← Array.getElem?_toList, this, List.getElem?_replicate, if_pos hj]; rfl

/-- Integers that are read: n of them from a place on. -/
def Reads (w : World) (b off : Nat) (k : IntKind) (n : Nat) (f : Nat → Nat) : Prop := ∀ j, j < n → w.cell? ⟨b, off + j, none⟩ = some (.int k (f j))

theorem Row.reads {w : World} {b : Nat} {T : TypeId} {k : IntKind} {n : Nat} {f : Nat → Nat} (h : Row w b T k n f) : Reads w b 0 k n f := fun j hj => by rw [Nat.zero_add]; exact h.cell hj

theorem Reads.lt {w : World} {b off : Nat} {k : IntKind} {n : Nat} {f : Nat → Nat} (h : Reads w b off k n f) (hn : 0 < n) : b < w.heap.size := block_lt_of_cell (h 0 hn)

theorem Reads.block {w w' : World} {b off : Nat} {k : IntKind} {n : Nat} {f : Nat → Nat} (h : Reads w b off k n f) (hb : w'.heap[b]? = w.heap[b]?) : Reads w' b off k n f := fun j hj => by
  rw [World.cell?_of_block (w := w) (a := ⟨b, off + j, none⟩) hb]; exact h j hj

theorem Reads.below {w w' : World} {b off B : Nat} {k : IntKind} {n : Nat} {f : Nat → Nat} (h : Reads w b off k n f) (hb : Below B w w') (hB : b < B) : Reads w' b off k n f := h.block (hb.block b hB)

/-- A slice value that reads as the limbs of x, without zeros at the end. -/
def Limbs (w : World) (a : Option Addr) (len : Nat) (x : Nat) : Prop :=
  ∃ f, lv f len = x ∧ Can f len ∧ (len = 0 ∨ ∃ b off, a = some ⟨b, off, none⟩ ∧ Reads w b off .u32 len f)

theorem Limbs.below {w w' : World} {B : Nat} {a : Option Addr} {len x : Nat} (h : Limbs w a len x) (hb : Below B w w') (hB : w.heap.size ≤ B) : Limbs w' a len x := by
  obtain ⟨f, h1, h2, h3⟩ := h
  refine ⟨f, h1, h2, ?_⟩
  rcases h3 with h3 | ⟨b, off, ha, hr⟩
  · exact .inl h3
  · by_cases hl : len = 0
    · exact .inl hl
    · exact .inr ⟨b, off, ha, hr.below hb (Nat.lt_of_lt_of_le (hr.lt (by omega)) hB)⟩

theorem Limbs.len_le {w : World} {a : Option Addr} {len x k : Nat} (h : Limbs w a len x) (hx : x < LB ^ k) : len ≤ k := by
  obtain ⟨f, rfl, h2, _⟩ := h
  by_cases hl : len = 0
  · omega
  · have := h2.ge (by omega)
    have h3 : LB ^ (len - 1) < LB ^ k := by omega
    have := (Nat.pow_lt_pow_iff_right (show 1 < LB by unfold LB; omega)).mp h3
    omega

theorem Limbs.zero_iff {w : World} {a : Option Addr} {len x : Nat} (h : Limbs w a len x) : x = 0 ↔ len = 0 := by
  obtain ⟨f, rfl, h2, _⟩ := h; exact h2.zero_iff

/-- 'make([]T, n)' for a type T of one cell: n new zeros. -/
theorem wpList_makeT {P : Program} {w : World} {ops : Array Oper} {rest : List Oper} {o : Oper} {a : Act} {Q : Exit → Act → World → Prop}
    (l c : Operand) (t e : TypeId) (k : IntKind) (bytes n : Nat) (C : Int) (hg : o.guard = none) (hop : o.op = Op.makeSlice t l c)
    (h1 : P.underlying t = some (.slice e)) (h2 : (P.info? e).map (fun i => (i.zero, i.size, i.bytes)) = some (some (.int k 0), 1, bytes))
    (hl : a.eval l = .int .i64 C) (hc : a.eval c = .int .i64 C) (hC : C = (n : Int)) (hn : n ≤ 4294967296) (hb : bytes ≤ 8)
    (hK : ∀ w', Row w' w.heap.size e k n (fun _ => 0) → Below w.heap.size w w' → w'.heap.size = w.heap.size + 1 → wpList P ops Q rest (a.put o.dst (.slice (some ⟨w.heap.size, 0, none⟩) n n)) w') :
    wpList P ops Q (o :: rest) a w := by
  obtain ⟨i, hi, hz, hs, hbb⟩ := info_parts h2
  refine wpList_plain hg fun K hK' => ?_
  have hrun := run_make (P := P) w t e i _ h1 hi hz .i64 .i64 n n (by omega) (by omega) (by
    rw [hbb]
    have h5 := Nat.mul_le_mul hb hn
    omega) (by omega)
  subst hC
  unfold Oper.wp
  simp [execOp, hop, hl, hc, hrun, Result.andThen]
  rw [hs, Nat.mul_one]
  exact hK' _ _ (hK _ (Row.made w e k n) ((Below.refl _ _).alloc (Nat.le_refl _) _) (by simp))

/-- 'a | b << s' where a lies below the place s. -/
theorem or_u32 (a b s : Nat) (ha : a < 2 ^ s) (hb : a + b * 2 ^ s < 4294967296) : bits BinOp.or .u32 (a : Int) ((b : Int) * 2 ^ s) = ((a + b * 2 ^ s : Nat) : Int) := by
  have h1 : ((b : Int) * 2 ^ s) = ((b * 2 ^ s : Nat) : Int) := by push_cast; rfl
  rw [h1]
  rw [(bits_nat .u32 32 (by decide) (fun n h0 h1 => by rw [IntKind.wrap_u32]; omega) a (b * 2 ^ s) (by omega) (by omega)).2]
  have h2 : a ||| b * 2 ^ s = a + b * 2 ^ s := by
    rw [Nat.or_comm, Nat.mul_comm, ← Nat.two_pow_add_eq_or_of_lt ha, Nat.add_comm]
  rw [← h2]

theorem ret_int {k : IntKind} {a b : Int} (h : a = b) : Ending.returned (.int k a) = .returned (.int k b) := by rw [h]
theorem ret_bool {a b : Bool} (h : a = b) : Ending.returned (.bool a) = .returned (.bool b) := by rw [h]
theorem ret_str {a b : ByteArray} (h : a = b) : Ending.returned (.string a) = .returned (.string b) := by rw [h]

theorem Below.drewN {B : Nat} {a w : World} (h : Below B a w) (m : Nat) : Below B a (w.drewN m) := below_drewN h m

end Go.Proofs.Ins
