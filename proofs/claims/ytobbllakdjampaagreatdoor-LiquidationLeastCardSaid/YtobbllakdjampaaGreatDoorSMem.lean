/- Slices of structs: read, and appended to. -/
import Derived.Test.YtobbllakdjampaaGreatDoorMem2
import Derived.Test.YtobbllakdjampaaGreatDoorBlk
set_option linter.unusedSimpArgs false
set_option linter.unusedVariables false
namespace Go.Proofs.Ins
open Go.RowKit

/-- n elements of sz cells each, from a place on. -/
def SReads (w : World) (b off sz n : Nat) (F : Nat → List Value) : Prop := ∀ i j, i < n → j < sz → w.cell? ⟨b, off + i * sz + j, none⟩ = (F i)[j]?

theorem SReads.lt {w : World} {b off sz n : Nat} {F : Nat → List Value} (h : SReads w b off sz n F) (hF : ∀ i, i < n → (F i).length = sz) (hn : 0 < n) (hs : 0 < sz) : b < w.heap.size := by
  have h1 := h 0 0 hn hs
  have h2 := hF 0 hn
  rw [List.getElem?_eq_getElem (by omega)] at h1
  exact block_lt_of_cell h1

theorem SReads.below {w w' : World} {b off sz n B : Nat} {F : Nat → List Value} (h : SReads w b off sz n F) (hb : Below B w w') (hB : b < B) : SReads w' b off sz n F := fun i j hi hj => by
  rw [World.cell?_of_block (w := w) (a := ⟨b, off + i * sz + j, none⟩) (hb.block b hB)]; exact h i j hi hj

/-- What a slice value of n such elements is. -/
def SArg (w : World) (a : Option Addr) (n sz : Nat) (F : Nat → List Value) : Prop := n = 0 ∨ ∃ b off, a = some ⟨b, off, none⟩ ∧ b < w.heap.size ∧ SReads w b off sz n F

theorem SArg.on {w w' : World} {a : Option Addr} {n sz : Nat} {F : Nat → List Value} (h : SArg w a n sz F) (hb : Below w.heap.size w w') : SArg w' a n sz F := by
  rcases h with h | ⟨b, off, ha, hl, hr⟩
  · exact .inl h
  · exact .inr ⟨b, off, ha, Nat.lt_of_lt_of_le hl hb.size, hr.below hb hl⟩

/-- A slice of the call's own, of structs. -/
def SOwn (w : World) (base : Nat) (T : TypeId) (sz : Nat) (v : Value) (n : Nat) (F : Nat → List Value) : Prop :=
  w.ownsRow base T sz v n ((List.range n).flatMap F) ∧ ∀ i, i < n → (F i).length = sz

theorem SOwn.nil (w : World) (base : Nat) (T : TypeId) (sz : Nat) (F : Nat → List Value) : SOwn w base T sz (.slice none 0 0) 0 F := ⟨⟨by simp, .inl ⟨rfl, rfl⟩⟩, fun i hi => by omega⟩

theorem SOwn.below {w w' : World} {base B : Nat} {T : TypeId} {sz : Nat} {v : Value} {n : Nat} {F : Nat → List Value} (h : SOwn w base T sz v n F) (hb : Below B w w') (hB : w.heap.size ≤ B) : SOwn w' base T sz v n F := by
  obtain ⟨⟨h1, h2⟩, h3⟩ := h
  refine ⟨⟨h1, ?_⟩, h3⟩
  rcases h2 with h2 | ⟨g, cap, cur, rfl, hb2, hg, hn, hm, hs, ht⟩
  · exact .inl h2
  · exact .inr ⟨g, cap, cur, rfl, hb2, (hb.block g (Nat.lt_of_lt_of_le (Array.getElem?_eq_some_iff.mp hg).1 hB)).trans hg, hn, hm, hs, ht⟩

theorem flatMap_get {F : Nat → List Value} {sz : Nat} : ∀ (n : Nat), (∀ i, i < n → (F i).length = sz) → ∀ i j, i < n → j < sz → ((List.range n).flatMap F)[i * sz + j]? = (F i)[j]?
  | 0, _, i, j, hi, _ => by omega
  | n + 1, hF, i, j, hi, hj => by
    rw [List.range_succ, List.flatMap_append]
    have hlen : ((List.range n).flatMap F).length = n * sz := by
      clear hi
      induction n with
      | zero => simp
      | succ n ih =>
        rw [List.range_succ, List.flatMap_append, List.length_append, ih (fun i hi => hF i (by omega))]
        simp [hF n (by omega), Nat.succ_mul]
    by_cases h : i < n
    · have h4 : i * sz + j < n * sz := by
        have := Nat.mul_le_mul_right sz (show i + 1 ≤ n by omega)
        rw [Nat.succ_mul] at this; omega
      rw [List.getElem?_append_left (by omega)]
      exact flatMap_get n (fun i hi => hF i (by omega)) i j h hj
    · obtain rfl : i = n := by omega
      rw [List.getElem?_append_right (by omega), hlen, show i * sz + j - i * sz = j by omega]
      simp

theorem SOwn.form {w : World} {base : Nat} {T : TypeId} {sz : Nat} {v : Value} {n : Nat} {F : Nat → List Value} (h : SOwn w base T sz v n F) :
    (v = .slice none 0 0 ∧ n = 0) ∨ ∃ g cap, v = .slice (some ⟨g, 0, none⟩) n cap ∧ base ≤ g ∧ n ≤ cap ∧ cap ≤ 9223372036854775807 ∧ g < w.heap.size ∧ SReads w g 0 sz n F := by
  obtain ⟨h0, h3⟩ := h
  obtain ⟨h1, h2⟩ := h0
  rcases h2 with h2 | ⟨g, cap, cur, rfl, hb, hg, hn, hm, hs, ht⟩
  · exact .inl h2
  · refine .inr ⟨g, cap, rfl, hb, hn, hm, (Array.getElem?_eq_some_iff.mp hg).1, fun i j hi hj => ?_⟩
    have hlt : i * sz + j < n * sz := by
      have := Nat.mul_le_mul_right sz (show i + 1 ≤ n by omega)
      rw [Nat.succ_mul] at this; omega
    have := World.ownsRow.cellAt ⟨h1, .inr ⟨g, cap, cur, rfl, hb, hg, hn, hm, hs, ht⟩⟩ (i * sz + j) hlt
    rw [Nat.zero_add, this]
    exact flatMap_get n h3 i j hi hj

/-- The value, as an argument. -/
theorem SOwn.arg {w : World} {base : Nat} {T : TypeId} {sz : Nat} {v : Value} {n : Nat} {F : Nat → List Value} (h : SOwn w base T sz v n F) :
    ∃ a cap, v = .slice a n cap ∧ n ≤ cap ∧ cap ≤ 9223372036854775807 ∧ SArg w a n sz F := by
  rcases h.form with ⟨rfl, rfl⟩ | ⟨g, cap, rfl, hb, hn, hm, hl, hr⟩
  · exact ⟨none, 0, rfl, Nat.le_refl _, by omega, .inl rfl⟩
  · exact ⟨_, cap, rfl, hn, hm, .inr ⟨g, 0, rfl, hl, hr⟩⟩

theorem below_grownS {base sz : Nat} {w w' : World} {T : TypeId} {v : Value} {n : Nat} {xs : List Value} (h : w.ownsRow base T sz v n xs) (hg : w.grownBy w' v.ownBlock) (hb : base ≤ w.heap.size) : Below base w w' := by
  refine (Below.refl _ _).grown hg hb ?_
  intro k hk
  rcases h.2 with ⟨rfl, _⟩ | ⟨g, cap, cur, rfl, hb2, _⟩
  · cases hk
  · have : g = k := Option.some.inj hk
    omega

theorem info_sz {P : Program} {T : TypeId} {sz bytes : Nat} (h : (P.info? T).map (fun i => (i.zero.map (fun z => z.cells.size), i.size, i.bytes)) = some (some sz, sz, bytes)) :
    ∃ i z, P.info? T = some i ∧ i.zero = some z ∧ z.cells.size = sz ∧ i.size = sz ∧ i.bytes = bytes := by
  cases hi : P.info? T with
  | none => rw [hi] at h; cases h
  | some i =>
    rw [hi] at h
    simp only [Option.map_some, Option.some.injEq, Prod.mk.injEq] at h
    obtain ⟨h1, h2, h3⟩ := h
    cases hz : i.zero with
    | none => rw [hz] at h1; cases h1
    | some z =>
      rw [hz] at h1
      exact ⟨i, z, rfl, hz, Option.some.inj h1, h2, h3⟩

/-- 'append(s, x)' for an element of sz cells, laid into a new block just before. -/
theorem wp_appendS {P : Program} {w : World} {o : Oper} {a : Act} {K : Act → World → Prop} {Q : Exit → Act → World → Prop}
    (s x : Operand) (t T : TypeId) (sz bytes : Nat) (base : Nat) (v : Value) (n : Nat) (F : Nat → List Value) (E : List Value)
    (hop : o.op = .call { callee := .builtin .append, args := #[s, x], argTypes := #[t, t] })
    (h1 : P.underlying t = some (.slice T)) (h2 : (P.info? T).map (fun i => (i.zero.map (fun z => z.cells.size), i.size, i.bytes)) = some (some sz, sz, bytes)) (hsz : 0 < sz)
    (hs : a.eval s = v) (hE : E.length = sz) (h1c : ∀ u ∈ E, u.oneCell' = true) (hx : a.eval x = .slice (some ⟨w.heap.size, 0, none⟩) 1 1) (hown : SOwn w base T sz v n F) (hn : (n + 1) * bytes ≤ 140737488355328) (hn2 : n + 1 ≤ 4294967296) (hbase : base ≤ w.heap.size)
    (h : ∀ v' w', SOwn w' base T sz v' (n + 1) (fun j => if j < n then F j else E) → Below base w w' → K (a.put o.dst v') w') :
    o.wp P a (w.alloc (.cells E.toArray T)) K Q := by
  obtain ⟨i, z, hi, hz, hzs, hsize, hbb⟩ := info_sz h2
  refine wp_append_own _ s x t hop base T i z sz bytes h1 hi hz hsize hbb hzs hsz v n _ hs (World.ownsRow.alloc hown.1 _) ⟨w.heap.size, 0, none⟩ 1 1 E hx (by rw [hE, Nat.one_mul]) ?_ h1c (by unfold maxLen; omega) hn (by simp; omega) ?_
  · intro j u hj
    have e : (⟨w.heap.size, 0, none⟩ : Addr).add j = ⟨w.heap.size, j, none⟩ := by unfold Addr.add; split <;> simp_all
    rw [e, cell_of_row _ _ _ _ _ (0, 0) (heap_alloc_new w _)]
    simpa using hj
  · intro v' w' ho hgr _
    have hbl : Below base w w' := ((Below.refl _ _).alloc hbase _).trans (below_grownS (World.ownsRow.alloc hown.1 _) hgr (by simp; omega))
    refine h v' w' ⟨?_, fun i hi => ?_⟩ hbl
    · have e : (List.range n).flatMap F ++ E = (List.range (n + 1)).flatMap (fun j => if j < n then F j else E) := by
        rw [List.range_succ, List.flatMap_append]
        congr 1
        · have hc : ∀ (m : Nat), m ≤ n → (List.range m).flatMap F = (List.range m).flatMap (fun j => if j < n then F j else E) := by
            intro m
            induction m with
            | zero => intro _; rfl
            | succ m ih =>
              intro hm
              rw [List.range_succ, List.flatMap_append, List.flatMap_append, ih (by omega)]
              simp [show m < n by omega]
          exact hc n (Nat.le_refl _)
        · simp
      rw [← e]; exact ho
    · by_cases h : i < n
      · simp only [h, if_true]; exact hown.2 i h
      · simp only [h, if_false]; exact hE

theorem wpList_appendS {P : Program} {w : World} {ops : Array Oper} {rest : List Oper} {o : Oper} {a : Act} {Q : Exit → Act → World → Prop}
    (s x : Operand) (t T : TypeId) (sz bytes : Nat) (base : Nat) (v : Value) (n : Nat) (F : Nat → List Value) (E : List Value)
    (hg : o.guard = none) (hop : o.op = .call { callee := .builtin .append, args := #[s, x], argTypes := #[t, t] })
    (h1 : P.underlying t = some (.slice T)) (h2 : (P.info? T).map (fun i => (i.zero.map (fun z => z.cells.size), i.size, i.bytes)) = some (some sz, sz, bytes)) (hsz : 0 < sz)
    (hs : a.eval s = v) (hE : E.length = sz) (h1c : ∀ u ∈ E, u.oneCell' = true) (hx : a.eval x = .slice (some ⟨w.heap.size, 0, none⟩) 1 1) (hown : SOwn w base T sz v n F) (hn : (n + 1) * bytes ≤ 140737488355328) (hn2 : n + 1 ≤ 4294967296) (hbase : base ≤ w.heap.size)
    (h : ∀ v' w', SOwn w' base T sz v' (n + 1) (fun j => if j < n then F j else E) → Below base w w' → wpList P ops Q rest (a.put o.dst v') w') :
    wpList P ops Q (o :: rest) a (w.alloc (.cells E.toArray T)) :=
  wpList_plain hg fun _ hK => wp_appendS s x t T sz bytes base v n F E hop h1 h2 hsz hs hE h1c hx hown hn hn2 hbase fun v' w' ho hb => hK _ _ (h v' w' ho hb)

/-- The same at a step of a region that draws its order. -/
theorem step_appendS {P : Program} {w : World} {ops : Array Oper} {o : Oper} {a : Act} {K : Act → World → Prop} {Q : Exit → Act → World → Prop} {X : Prop}
    (s x : Operand) (t T : TypeId) (sz bytes : Nat) (base : Nat) (v : Value) (n : Nat) (F : Nat → List Value) (E : List Value)
    (hg : o.guard = none) (hop : o.op = .call { callee := .builtin .append, args := #[s, x], argTypes := #[t, t] })
    (h1 : P.underlying t = some (.slice T)) (h2 : (P.info? T).map (fun i => (i.zero.map (fun z => z.cells.size), i.size, i.bytes)) = some (some sz, sz, bytes)) (hsz : 0 < sz)
    (hs : a.eval s = v) (hE : E.length = sz) (h1c : ∀ u ∈ E, u.oneCell' = true) (hx : a.eval x = .slice (some ⟨w.heap.size, 0, none⟩) 1 1) (hown : SOwn w base T sz v n F) (hn : (n + 1) * bytes ≤ 140737488355328) (hn2 : n + 1 ≤ 4294967296) (hbase : base ≤ w.heap.size)
    (h : ∀ v' w', SOwn w' base T sz v' (n + 1) (fun j => if j < n then F j else E) → Below base w w' → K (a.put o.dst v') w') :
    if Region.wanted o (yielded ops a.tmps) = true then Oper.wp P o a (w.alloc (.cells E.toArray T)) K Q else X := by
  have hw : Region.wanted o (yielded ops a.tmps) = true := by simp [Region.wanted, hg]
  rw [if_pos hw]
  exact wp_appendS s x t T sz bytes base v n F E hop h1 h2 hsz hs hE h1c hx hown hn hn2 hbase h

theorem SOwn.congr {w : World} {base : Nat} {T : TypeId} {sz : Nat} {v : Value} {n : Nat} {F G : Nat → List Value} (h : SOwn w base T sz v n F) (hg : ∀ i, i < n → F i = G i) : SOwn w base T sz v n G := by
  obtain ⟨h1, h2⟩ := h
  refine ⟨?_, fun i hi => by rw [← hg i hi]; exact h2 i hi⟩
  have hc : ∀ (m : Nat), m ≤ n → (List.range m).flatMap F = (List.range m).flatMap G := by
    intro m
    induction m with
    | zero => intro _; rfl
    | succ m ih =>
      intro hm
      rw [List.range_succ, List.flatMap_append, List.flatMap_append, ih (by omega)]
      simp [hg m (by omega)]
  rw [← hc n (Nat.le_refl _)]; exact h1
end Go.Proofs.Ins
