/- A row of integers that the call appends to. -/
import Derived.Test.YtobbllakdjampaaGreatDoorMem
import Derived.Maps.AppendAt
import Derived.Laws.BytesArg
set_option linter.unusedSimpArgs false
set_option linter.unusedVariables false
namespace Go.Proofs.Ins
open Go.RowKit

/-- A slice value of the call's own (nil, or at the head of a block from base on) that holds n integers. -/
def ORow (w : World) (base : Nat) (T : TypeId) (k : IntKind) (v : Value) (n : Nat) (f : Nat → Nat) : Prop :=
  w.ownsRow base T 1 v n ((List.range n).map fun j => .int k (f j))

theorem ORow.nil (w : World) (base : Nat) (T : TypeId) (k : IntKind) (f : Nat → Nat) : ORow w base T k (.slice none 0 0) 0 f := ⟨rfl, .inl ⟨rfl, rfl⟩⟩

theorem ORow.alloc {w : World} {base : Nat} {T : TypeId} {k : IntKind} {v : Value} {n : Nat} {f : Nat → Nat} (h : ORow w base T k v n f) (o : Obj) : ORow (w.alloc o) base T k v n f := World.ownsRow.alloc h o

/-- What the value is, and what it reads as. -/
theorem ORow.form {w : World} {base : Nat} {T : TypeId} {k : IntKind} {v : Value} {n : Nat} {f : Nat → Nat} (h : ORow w base T k v n f) :
    (v = .slice none 0 0 ∧ n = 0) ∨ ∃ g cap, v = .slice (some ⟨g, 0, none⟩) n cap ∧ base ≤ g ∧ n ≤ cap ∧ cap ≤ 9223372036854775807 ∧ g < w.heap.size ∧ Reads w g 0 k n f := by
  have h0 := h
  obtain ⟨h1, h2⟩ := h
  rcases h2 with h2 | ⟨g, cap, cur, rfl, hb, hg, hn, hm, hs, ht⟩
  · exact .inl h2
  · refine .inr ⟨g, cap, rfl, hb, hn, hm, (Array.getElem?_eq_some_iff.mp hg).1, fun j hj => ?_⟩
    have := World.ownsRow.cellAt h0 j (by omega)
    rw [Nat.zero_add, this, List.getElem?_map, List.getElem?_range hj]; rfl

theorem ORow.below {w w' : World} {base B : Nat} {T : TypeId} {k : IntKind} {v : Value} {n : Nat} {f : Nat → Nat} (h : ORow w base T k v n f) (hb : Below B w w') (hB : w.heap.size ≤ B) : ORow w' base T k v n f := by
  obtain ⟨h1, h2⟩ := h
  refine ⟨h1, ?_⟩
  rcases h2 with h2 | ⟨g, cap, cur, rfl, hb2, hg, hn, hm, hs, ht⟩
  · exact .inl h2
  · exact .inr ⟨g, cap, cur, rfl, hb2, (hb.block g (Nat.lt_of_lt_of_le (Array.getElem?_eq_some_iff.mp hg).1 hB)).trans hg, hn, hm, hs, ht⟩

theorem ORow.congr {w : World} {base : Nat} {T : TypeId} {k : IntKind} {v : Value} {n : Nat} {f g : Nat → Nat} (h : ORow w base T k v n f) (hg : ∀ j, j < n → f j = g j) : ORow w base T k v n g := by
  have e : ((List.range n).map fun j => Value.int k (f j)) = (List.range n).map fun j => Value.int k (g j) := by
    apply List.map_congr_left
    intro j hj
    rw [hg j (by simpa using hj)]
  unfold ORow at *; rw [← e]; exact h

theorem below_grown {base : Nat} {w w' : World} {T : TypeId} {v : Value} {n : Nat} {xs : List Value} (h : w.ownsRow base T 1 v n xs) (hg : w.grownBy w' v.ownBlock) (hb : base ≤ w.heap.size) : Below base w w' := by
  refine (Below.refl _ _).grown hg hb ?_
  intro k hk
  rcases h.2 with ⟨rfl, _⟩ | ⟨g, cap, cur, rfl, hb2, _⟩
  · cases hk
  · have : g = k := Option.some.inj hk
    omega

/-- 'append(s, x..)', the x.. laid into a new block just before: the law for whatever list of integers. -/
theorem wpList_appendL {P : Program} {w : World} {ops : Array Oper} {rest : List Oper} {o : Oper} {a : Act} {Q : Exit → Act → World → Prop}
    (s x : Operand) (t T : TypeId) (k : IntKind) (bytes : Nat) (base : Nat) (v : Value) (n : Nat) (f : Nat → Nat) (ns : List Nat) (m : Nat)
    (hg : o.guard = none) (hop : o.op = .call { callee := .builtin .append, args := #[s, x], argTypes := #[t, t] })
    (h1 : P.underlying t = some (.slice T)) (h2 : (P.info? T).map (fun i => (i.zero, i.size, i.bytes)) = some (some (.int k 0), 1, bytes))
    (hs : a.eval s = v) (hm : ns.length = m) (hx : a.eval x = .slice (some ⟨w.heap.size, 0, none⟩) m m) (hown : ORow w base T k v n f) (hn : n + m ≤ 4294967296) (hb : bytes ≤ 8) (hbase : base ≤ w.heap.size)
    (h : ∀ v' w', ORow w' base T k v' (n + m) (fun j => if j < n then f j else ns.getD (j - n) 0) → Below base w w' → wpList P ops Q rest (a.put o.dst v') w') :
    wpList P ops Q (o :: rest) a (w.alloc (.cells (ns.map fun (y : Nat) => Value.int k y).toArray T)) := by
  obtain ⟨i, hi, hz, hsz, hbb⟩ := info_parts h2
  refine wpList_append_own _ hg s x t hop base T i (.int k 0) 1 bytes h1 hi hz hsz hbb rfl (by decide) v n _ hs (hown.alloc _) ⟨w.heap.size, 0, none⟩ m m (ns.map fun (y : Nat) => Value.int k y) hx (by rw [List.length_map, hm, Nat.mul_one]) ?_ ?_ (by unfold maxLen; omega) ?_ (by simp; omega) ?_
  · intro j u hj
    have e : (⟨w.heap.size, 0, none⟩ : Addr).add j = ⟨w.heap.size, j, none⟩ := by unfold Addr.add; split <;> simp_all
    rw [e, cell_of_row _ _ _ _ _ (0, 0) (heap_alloc_new w _)]
    simpa using hj
  · intro u hu
    obtain ⟨y, _, rfl⟩ := List.mem_map.mp hu
    rfl
  · have := Nat.mul_le_mul hn hb
    omega
  · intro v' w' ho hgr _
    refine h v' w' ?_ (((Below.refl _ _).alloc hbase _).trans (below_grown (hown.alloc _) hgr (by simp; omega)))
    unfold ORow
    have e : ((List.range n).map fun j => Value.int k (f j)) ++ (ns.map fun (y : Nat) => Value.int k y) = (List.range (n + m)).map fun j => Value.int k ((if j < n then f j else ns.getD (j - n) 0 : Nat) : Int) := by
      rw [List.range_add, List.map_append]
      congr 1
      · apply List.map_congr_left
        intro j hj
        rw [if_pos (by simpa using hj)]
      · rw [List.map_map]
        apply List.ext_getElem?
        intro j
        rw [List.getElem?_map, List.getElem?_map]
        by_cases hj : j < m
        · rw [List.getElem?_range hj, List.getElem?_eq_getElem (by omega)]
          simp only [Option.map_some, Function.comp]
          rw [if_neg (by omega), List.getD_eq_getElem?_getD, show n + j - n = j by omega, List.getElem?_eq_getElem (by omega)]
          rfl
        · rw [List.getElem?_eq_none (by omega), List.getElem?_eq_none (by simp; omega)]; rfl
    rw [← e]
    exact ho

/-- One integer. -/
theorem wpList_append1 {P : Program} {w : World} {ops : Array Oper} {rest : List Oper} {o : Oper} {a : Act} {Q : Exit → Act → World → Prop}
    (s x : Operand) (t T : TypeId) (k : IntKind) (bytes : Nat) (base : Nat) (v : Value) (n : Nat) (f : Nat → Nat) (y : Nat) (Y : Int)
    (hg : o.guard = none) (hop : o.op = .call { callee := .builtin .append, args := #[s, x], argTypes := #[t, t] })
    (h1 : P.underlying t = some (.slice T)) (h2 : (P.info? T).map (fun i => (i.zero, i.size, i.bytes)) = some (some (.int k 0), 1, bytes))
    (hs : a.eval s = v) (hx : a.eval x = .slice (some ⟨w.heap.size, 0, none⟩) 1 1) (hY : Y = (y : Int)) (hown : ORow w base T k v n f) (hn : n + 1 ≤ 4294967296) (hb : bytes ≤ 8) (hbase : base ≤ w.heap.size)
    (h : ∀ v' w', ORow w' base T k v' (n + 1) (upd f n y) → Below base w w' → wpList P ops Q rest (a.put o.dst v') w') :
    wpList P ops Q (o :: rest) a (w.alloc (.cells #[.int k Y] T)) := by
  subst hY
  refine wpList_appendL s x t T k bytes base v n f [y] 1 hg hop h1 h2 hs rfl hx hown hn hb hbase fun v' w' ho hbel => h v' w' (ho.congr fun j hj => ?_) hbel
  by_cases e : j = n
  · subst e; rw [upd_same, if_neg (by omega)]; simp
  · rw [upd_other _ _ _ e, if_pos (by omega)]

/-- Four integers. -/
theorem wpList_append4 {P : Program} {w : World} {ops : Array Oper} {rest : List Oper} {o : Oper} {a : Act} {Q : Exit → Act → World → Prop}
    (s x : Operand) (t T : TypeId) (k : IntKind) (bytes : Nat) (base : Nat) (v : Value) (n : Nat) (f : Nat → Nat) (y1 y2 y3 y4 : Nat) (Y1 Y2 Y3 Y4 : Int)
    (hg : o.guard = none) (hop : o.op = .call { callee := .builtin .append, args := #[s, x], argTypes := #[t, t] })
    (h1 : P.underlying t = some (.slice T)) (h2 : (P.info? T).map (fun i => (i.zero, i.size, i.bytes)) = some (some (.int k 0), 1, bytes))
    (hs : a.eval s = v) (hx : a.eval x = .slice (some ⟨w.heap.size, 0, none⟩) 4 4) (e1 : Y1 = (y1 : Int)) (e2 : Y2 = (y2 : Int)) (e3 : Y3 = (y3 : Int)) (e4 : Y4 = (y4 : Int)) (hown : ORow w base T k v n f) (hn : n + 4 ≤ 4294967296) (hb : bytes ≤ 8) (hbase : base ≤ w.heap.size)
    (h : ∀ v' w', ORow w' base T k v' (n + 4) (fun j => if j < n then f j else [y1, y2, y3, y4].getD (j - n) 0) → Below base w w' → wpList P ops Q rest (a.put o.dst v') w') :
    wpList P ops Q (o :: rest) a (w.alloc (.cells #[.int k Y1, .int k Y2, .int k Y3, .int k Y4] T)) := by
  subst e1; subst e2; subst e3; subst e4
  exact wpList_appendL s x t T k bytes base v n f [y1, y2, y3, y4] 4 hg hop h1 h2 hs rfl hx hown hn hb hbase h

/-- The bytes of a row of the call's own, as a string. -/
theorem ORow.str {P : Program} {w : World} {base n : Nat} {T src dst e : TypeId} {v : Value} {g : Nat → Nat} (h : ORow w base T .u8 v n g)
    (hs : P.underlying src = some (.slice e)) (he : P.underlying e = some (.int .u8)) (hd : P.underlying dst = some .string) :
    (convert src dst v).run P w = .ok (.string ⟨((List.range n).map fun j => UInt8.ofNat (g j)).toArray⟩) w := by
  rcases h.form with ⟨h1, h0⟩ | ⟨b, cap, rfl, _, _, _, _, hr⟩
  · subst h1; subst h0
    exact run_convert_bytes_nil (P := P) w src e hs he 0 0 dst hd
  have := run_convert_bytes_arg (P := P) w src e hs he b 0 n cap ((List.range n).map fun j => (g j : Int)) (by simp) (fun i hi => by
    rw [hr i hi, List.getD_eq_getElem?_getD, List.getElem?_map, List.getElem?_range hi]; rfl) dst hd
  rw [this]
  congr 2
  unfold strOfNums
  rw [List.map_map]
  congr 2

end Go.Proofs.Ins
