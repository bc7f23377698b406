/- Slices of structs: read, and appended to. -/
import Derived.Test.YthplmloambdmlaaGreatDoorZ1
import Derived.Maps.AppendAt
import Derived.Laws.BytesArg
import Derived.StillTail
import Derived.Lib.QuietBelow
import Derived.BigQuiet
import Derived.StillTailTactics

set_option linter.unusedSimpArgs false
set_option linter.unusedVariables false
namespace Go.Proofs.Ins
open Go.RowKit

/-- A slice value of the call's own (nil, or at the head of a block from base on) that holds n integers. -/
def ORow (w : World) (base : Nat) (T : TypeId) (k : IntKind) (v : Value) (n : Nat) (f : Nat → Nat) : Prop :=
  w.ownsRow base T 1 v n ((List.range n).map fun j => .int k (f j))

theorem ORow.nil (w : World) (base : Nat) (T : TypeId) (k : IntKind) (f : Nat → Nat) : ORow w base T k (.slice none 0 0) 0 f := ⟨rfl, .inl ⟨rfl, rfl⟩⟩

theorem ORow.alloc {w : World} {base : Nat} {T : TypeId} {k : IntKind} {v : Value} {n : Nat} {f : Nat → Nat} (h : ORow w base T k v n f) (o : Obj) : ORow (w.alloc o) base T k v n f := World.ownsRow.alloc h o

/-- What the value is, and what it reads as. -/
theorem ORow.form {w : World} {base : Nat} {T : TypeId} {k : IntKind} {v : Value} {n : Nat} {f : Nat → Nat} (h : ORow w base T k v n f) :
    (v = .slice none 0 0 ∧ n = 0) ∨ ∃ g cap, v = .slice (some ⟨g, 0, none⟩) n cap ∧ base ≤ g ∧ n ≤ cap ∧ cap ≤ 9223372036854775807 ∧ g < w.heap.size ∧ Reads w g 0 k n f := by
  have h0 := h
  obtain ⟨h1, h2⟩ := h
  rcases h2 with h2 | ⟨g, cap, cur, rfl, hb, hg, hn, hm, hs, ht⟩
  · exact .inl h2
  · refine .inr ⟨g, cap, rfl, hb, hn, hm, (Array.getElem?_eq_some_iff.mp hg).1, fun j hj => ?_⟩
    have := World.ownsRow.cellAt h0 j (by omega)
    rw [Nat.zero_add, this, List.getElem?_map, List.getElem?_range hj]; rfl

theorem ORow.below {w w' : World} {base B : Nat} {T : TypeId} {k : IntKind} {v : Value} {n : Nat} {f : Nat → Nat} (h : ORow w base T k v n f) (hb : Below B w w') (hB : w.heap.size ≤ B) : ORow w' base T k v n f := by
  obtain ⟨h1, h2⟩ := h
  refine ⟨h1, ?_⟩
  rcases h2 with h2 | ⟨g, cap, cur, rfl, hb2, hg, hn, hm, hs, ht⟩
  · exact .inl h2
  · exact .inr ⟨g, cap, cur, rfl, hb2, (hb.block g (Nat.lt_of_lt_of_le (Array.getElem?_eq_some_iff.mp hg).1 hB)).trans hg, hn, hm, hs, ht⟩

theorem ORow.congr {w : World} {base : Nat} {T : TypeId} {k : IntKind} {v : Value} {n : Nat} {f g : Nat → Nat} (h : ORow w base T k v n f) (hg : ∀ j, j < n → f j = g j) : ORow w base T k v n g := by
  have e : ((List.range n).map fun j => Value.int k (f j)) = (List.range n).map fun j => Value.int k (g j) := by
    apply List.map_congr_left
    intro j hj
    rw [hg j (by simpa using hj)]
  unfold ORow at *; rw [← e]; exact h

theorem below_grown {base : Nat} {w w' : World} {T : TypeId} {v : Value} {n : Nat} {xs : List Value} (h : w.ownsRow base T 1 v n xs) (hg : w.grownBy w' v.ownBlock) (hb : base ≤ w.heap.size) : Below base w w' := by
  refine (Below.refl _ _).grown hg hb ?_
  intro k hk
  rcases h.2 with ⟨rfl, _⟩ | ⟨g, cap, cur, rfl, hb2, _⟩
  · cases hk
  · have : g = k := Option.some.inj hk
    omega

/-- 'append(s, x..)', the x.. laid into a new block just before: the law for whatever list of integers. -/
theorem wpList_appendL {P : Program} {w : World} {ops : Array Oper} {rest : List Oper} {o : Oper} {a : Act} {Q : Exit → Act → World → Prop}
    (s x : Operand) (t T : TypeId) (k : IntKind) (bytes : Nat) (base : Nat) (v : Value) (n : Nat) (f : Nat → Nat) (ns : List Nat) (m : Nat)
    (hg : o.guard = none) (hop : o.op = .call { callee := .builtin .append, args := #[s, x], argTypes := #[t, t] })
    (h1 : P.underlying t = some (.slice T)) (h2 : (P.info? T).map (fun i => (i.zero, i.size, i.bytes)) = some (some (.int k 0), 1, bytes))
    (hs : a.eval s = v) (hm : ns.length = m) (hx : a.eval x = .slice (some ⟨w.heap.size, 0, none⟩) m m) (hown : ORow w base T k v n f) (hn : n + m ≤ 4294967296) (hb : bytes ≤ 8) (hbase : base ≤ w.heap.size)
    (h : ∀ v' w', ORow w' base T k v' (n + m) (fun j => if j < n then f j else ns.getD (j - n) 0) → Below base w w' → wpList P ops Q rest (a.put o.dst v') w') :
    wpList P ops Q (o :: rest) a (w.alloc (.cells (ns.map fun (y : Nat) => Value.int k y).toArray T)) := by
  obtain ⟨i, hi, hz, hsz, hbb⟩ := info_parts h2
  refine wpList_append_own _ hg s x t hop base T i (.int k 0) 1 bytes h1 hi hz hsz hbb rfl (by decide) v n _ hs (hown.alloc _) ⟨w.heap.size, 0, none⟩ m m (ns.map fun (y : Nat) => Value.int k y) hx (by rw [List.length_map, hm, Nat.mul_one]) ?_ ?_ (by unfold maxLen; omega) ?_ (by simp; omega) ?_
  · intro j u hj
    have e : (⟨w.heap.size, 0, none⟩ : Addr).add j = ⟨w.heap.size, j, none⟩ := by unfold Addr.add; split <;> simp_all
    rw [e, cell_of_row _ _ _ _ _ (0, 0) (heap_alloc_new w _)]
    simpa using hj
  · intro u hu
    obtain ⟨y, _, rfl⟩ := List.mem_map.mp hu
    rfl
  · have := Nat.mul_le_mul hn hb
    omega
  · intro v' w' ho hgr _
    refine h v' w' ?_ (((Below.refl _ _).alloc hbase _).trans (below_grown (hown.alloc _) hgr (by simp; omega)))
    unfold ORow
    have e : ((List.range n).map fun j => Value.int k (f j)) ++ (ns.map fun (y : Nat) => Value.int k y) = (List.range (n + m)).map fun j => Value.int k ((if j < n then f j else ns.getD (j - n) 0 : Nat) : Int) := by
      rw [List.range_add, List.map_append]
      congr 1
      · apply List.map_congr_left
        intro j hj
        rw [if_pos (by simpa using hj)]
      · rw [List.map_map]
        apply List.ext_getElem?
        intro j
        rw [List.getElem?_map, List.getElem?_map]
        by_cases hj : j < m
        · rw [List.getElem?_range hj, List.getElem?_eq_getElem (by omega)]
          simp only [Option.map_some, Function.comp]
          rw [if_neg (by omega), List.getD_eq_getElem?_getD, show n + j - n = j by omega, List.getElem?_eq_getElem (by omega)]
          rfl
        · rw [List.getElem?_eq_none (by omega), List.getElem?_eq_none (by simp; omega)]; rfl
    rw [← e]
    exact ho

/-- One integer. -/
theorem wpList_append1 {P : Program} {w : World} {ops : Array Oper} {rest : List Oper} {o : Oper} {a : Act} {Q : Exit → Act → World → Prop}
    (s x : Operand) (t T : TypeId) (k : IntKind) (bytes : Nat) (base : Nat) (v : Value) (n : Nat) (f : Nat → Nat) (y : Nat) (Y : Int)
    (hg : o.guard = none) (hop : o.op = .call { callee := .builtin .append, args := #[s, x], argTypes := #[t, t] })
    (h1 : P.underlying t = some (.slice T)) (h2 : (P.info? T).map (fun i => (i.zero, i.size, i.bytes)) = some (some (.int k 0), 1, bytes))
    (hs : a.eval s = v) (hx : a.eval x = .slice (some ⟨w.heap.size, 0, none⟩) 1 1) (hY : Y = (y : Int)) (hown : ORow w base T k v n f) (hn : n + 1 ≤ 4294967296) (hb : bytes ≤ 8) (hbase : base ≤ w.heap.size)
    (h : ∀ v' w', ORow w' base T k v' (n + 1) (upd f n y) → Below base w w' → wpList P ops Q rest (a.put o.dst v') w') :
    wpList P ops Q (o :: rest) a (w.alloc (.cells #[.int k Y] T)) := by
  subst hY
  refine wpList_appendL s x t T k bytes base v n f [y] 1 hg hop h1 h2 hs rfl hx hown hn hb hbase fun v' w' ho hbel => h v' w' (ho.congr fun j hj => ?_) hbel
  by_cases e : j = n
  · subst e; rw [upd_same, if_neg (by omega)]; simp
  · rw [upd_other _ _ _ e, if_pos (by omega)]

/-- Four integers. -/
theorem wpList_append4 {P : Program} {w : World} {ops : Array Oper} {rest : List Oper} {o : Oper} {a : Act} {Q : Exit → Act → World → Prop}
    (s x : Operand) (t T : TypeId) (k : IntKind) (bytes : Nat) (base : Nat) (v : Value) (n : Nat) (f : Nat → Nat) (y1 y2 y3 y4 : Nat) (Y1 Y2 Y3 Y4 : Int)
    (hg : o.guard = none) (hop : o.op = .call { callee := .builtin .append, args := #[s, x], argTypes := #[t, t] })
    (h1 : P.underlying t = some (.slice T)) (h2 : (P.info? T).map (fun i => (i.zero, i.size, i.bytes)) = some (some (.int k 0), 1, bytes))
    (hs : a.eval s = v) (hx : a.eval x = .slice (some ⟨w.heap.size, 0, none⟩) 4 4) (e1 : Y1 = (y1 : Int)) (e2 : Y2 = (y2 : Int)) (e3 : Y3 = (y3 : Int)) (e4 : Y4 = (y4 : Int)) (hown : ORow w base T k v n f) (hn : n + 4 ≤ 4294967296) (hb : bytes ≤ 8) (hbase : base ≤ w.heap.size)
    (h : ∀ v' w', ORow w' base T k v' (n + 4) (fun j => if j < n then f j else [y1, y2, y3, y4].getD (j - n) 0) → Below base w w' → wpList P ops Q rest (a.put o.dst v') w') :
    wpList P ops Q (o :: rest) a (w.alloc (.cells #[.int k Y1, .int k Y2, .int k Y3, .int k Y4] T)) := by
  subst e1; subst e2; subst e3; subst e4
  exact wpList_appendL s x t T k bytes base v n f [y1, y2, y3, y4] 4 hg hop h1 h2 hs rfl hx hown hn hb hbase h

/-- The bytes of a row of the call's own, as a string. -/
theorem ORow.str {P : Program} {w : World} {base n : Nat} {T src dst e : TypeId} {v : Value} {g : Nat → Nat} (h : ORow w base T .u8 v n g)
    (hs : P.underlying src = some (.slice e)) (he : P.underlying e = some (.int .u8)) (hd : P.underlying dst = some .string) :
    (convert src dst v).run P w = .ok (.string ⟨((List.range n).map fun j => UInt8.ofNat (g j)).toArray⟩) w := by
  rcases h.form with ⟨h1, h0⟩ | ⟨b, cap, rfl, _, _, _, _, hr⟩
  · subst h1; subst h0
    exact run_convert_bytes_nil (P := P) w src e hs he 0 0 dst hd
  have := run_convert_bytes_arg (P := P) w src e hs he b 0 n cap ((List.range n).map fun j => (g j : Int)) (by simp) (fun i hi => by
    rw [hr i hi, List.getD_eq_getElem?_getD, List.getElem?_map, List.getElem?_range hi]; rfl) dst hd
  rw [this]
  congr 2
  unfold strOfNums
  rw [List.map_map]
  congr 2

end Go.Proofs.Ins

set_option linter.unusedSimpArgs false
set_option linter.unusedVariables false
namespace Go.Proofs.Ins
open Go.RowKit

section
variable {P : Program} {ops : Array Oper} {md : Region.Mode} {C : World → Prop}

/-- Every order of the first n operations, what is reached said by L, in every world of the class. -/
def headAny (P : Program) (md : Region.Mode) (ops : Array Oper) (C : World → Prop) (n : Nat) (L : Array Bool → Act → Prop) : Nat → Array Bool → Act → Prop
  | 0, listed, a => L listed a
  | f + 1, listed, a => Region.ready md ops listed ≠ [] ∧ ∀ i ∈ Region.ready md ops listed, i < n ∧ qOp P ops C i (headAny P md ops C n L f (listed.setIfInBounds i true)) a

theorem headAny_wp {n g : Nat} {L : Array Bool → Act → Prop} {Q : Exit → Act → World → Prop} (hL : ∀ listed a w, C w → L listed a → wpAny P md ops Q g listed a w) :
    ∀ (f : Nat) (listed : Array Bool) (a : Act) (w : World), C w → headAny P md ops C n L f listed a → wpAny P md ops Q (f + g) listed a w
  | 0, listed, a, w, hw, h => by rw [Nat.zero_add]; exact hL _ _ _ hw h
  | f + 1, listed, a, w, hw, h => by
    rw [show f + 1 + g = (f + g) + 1 by omega]
    exact ⟨fun h0 => absurd h0 h.1, fun i hi => wpOp_of_qOp hw (fun a' w' hw' h' => headAny_wp hL f _ a' w' hw' h') (h.2 i hi).2⟩

theorem headAny_first {n i : Nat} {oi : Oper} {v : Value} {L : Array Bool → Act → Prop} (hi : ops[i]? = some oi) (hsel : ∀ (j : Nat) (o : Oper) cs b, ops[j]? = some o → o.op ≠ .select cs b)
    (hs : Region.sinkB md ops n = true) (hc : Region.chainB md ops n = true) (hn : n < ops.size) (hin : i < n)
    (hdone : ∀ listed a, L listed a → ∀ j ∈ Region.ready md ops listed, n ≤ j) :
    ∀ (f : Nat) (listed : Array Bool) (a : Act), HeadInv md ops n listed →
      (∀ j oj, ops[j]? = some oj → j ≠ i → listed.getD j true = false → (∀ e ∈ oj.after, Region.binds md e = true → e.on ≠ i) → oi.apart ops oj = true) →
      i ∈ Region.ready md ops listed → YieldsIn P ops C oi v a →
      headAny P md ops C n L f (listed.setIfInBounds i true) (a.put oi.dst v) → headAny P md ops C n L (f + 1) listed a := by
  intro f
  induction f with
  | zero =>
    intro listed a inv _ hr hy H
    have hun := (mem_ready.1 hr).1
    refine ⟨fun h => (by rw [h] at hr; cases hr), fun j hj => ?_⟩
    have hjn : j < n := Nat.lt_of_not_le fun h => absurd hj (tail_waits hs hc hn inv _ i rfl hin hun j h)
    refine ⟨hjn, ?_⟩
    by_cases hji : j = i
    · subst hji; exact hy.qOp hi H
    · exact absurd (hdone _ _ H j (ready_mono hj hji)) (by omega)
  | succ f ih =>
    intro listed a inv hfree hr hy H
    have hun := (mem_ready.1 hr).1
    refine ⟨fun h => (by rw [h] at hr; cases hr), fun j hj => ?_⟩
    have hjn : j < n := Nat.lt_of_not_le fun h => absurd hj (tail_waits hs hc hn inv _ i rfl hin hun j h)
    refine ⟨hjn, ?_⟩
    by_cases hji : j = i
    · subst hji; exact hy.qOp hi H
    · have h1 := (H.2 j (ready_mono hj hji)).2
      obtain ⟨hjun, oj, hoj, hall⟩ := mem_ready.1 hj
      have hnot : ∀ e ∈ oj.after, Region.binds md e = true → e.on ≠ i := fun e he hb heq => by
        have h1 := hall e he hb
        rw [heq, getD_both hun] at h1
        cases h1
      have h2 := qOp_put hoj (hfree j oj hoj hji hjun hnot) (fun cs b => hsel i oi cs b hi) (fun cs b => hsel j oj cs b hoj) hy h1
      have hfree' : ∀ k ok, ops[k]? = some ok → k ≠ i → (listed.setIfInBounds j true).getD k true = false →
          (∀ e ∈ ok.after, Region.binds md e = true → e.on ≠ i) → oi.apart ops ok = true := fun k ok hk hki hkun hno => by
        refine hfree k ok hk hki ?_ hno
        by_cases hjk : j = k
        · subst hjk; exact hjun
        · rw [getD_set_ne true hjk] at hkun; exact hkun
      refine qOp_mono (fun a' h3 => ih (listed.setIfInBounds j true) a' (inv.set hj hjn) hfree' (ready_mono hr (Ne.symm hji)) h3.1 ?_) h2
      rw [Array.setIfInBounds_comm _ _ hji]
      exact h3.2

theorem headAny_lex {n g : Nat} {M : Act → Prop} (hsel : Region.noSelect ops = true) (hs : Region.sinkB md ops n = true) (hc : Region.chainB md ops n = true) (hn : n < ops.size) :
    ∀ (l : List Oper) (k : Nat) (listed : Array Bool) (a : Act), (∀ j, j < l.length → l[j]? = ops[k + j]?) → k + l.length = n → HeadInv md ops n listed →
    Region.lexHead md ops g l.length k listed = true → wpQuiet P ops C M l a →
    headAny P md ops C n (fun listed' a' => Region.seqB md ops g n listed' = true ∧ M a') l.length listed a
  | [], k, listed, a, _, hk, _, hB, h => by
    have : k = n := by simpa using hk
    subst this
    exact ⟨by simpa [Region.lexHead] using hB, h⟩
  | o :: l, k, listed, a, hl, hk, inv, hB, h => by
    have h0 : ops[k]? = some o := by simpa using (hl 0 (by simp)).symm
    simp only [List.length_cons, Region.lexHead, Bool.and_eq_true] at hB
    obtain ⟨⟨hr, hf⟩, hB'⟩ := hB
    have hkn : k < n := by simp only [List.length_cons] at hk; omega
    have hr' : k ∈ Region.ready md ops listed := by simpa using hr
    have hst : qOp P ops C k (wpQuiet P ops C M l) a := by unfold qOp; simp only [h0]; exact h
    obtain ⟨v, hy, hK⟩ := yieldsIn_of_qOp h0 hst
    exact headAny_first h0 (Region.noSelect_spec hsel) hs hc hn hkn (fun listed' a' hL => seqB_ready hL.1) l.length listed a inv (Region.free_spec h0 hf) hr' hy
      (headAny_lex hsel hs hc hn l (k + 1) _ _ (fun j hj => by have := hl (j + 1) (by simp; omega); simpa [Nat.add_assoc, Nat.add_comm 1 j] using this) (by simp only [List.length_cons] at hk; omega) (inv.set hr' hkn) hB' hK)

/-- The first n operations quiet in a class of worlds; then the tail, in each world of the class. -/
theorem wp_region_quiet_tail {id : Nat} {Q : Exit → Act → World → Prop} {a : Act} {w : World} {l : List Oper} (n : Nat) (hm : P.follows .mixedOrders = true) (hB : Region.lexTailB .any l.toArray n = true)
    (hC : C { w with drawn := w.drawn + 1 })
    (h : wpQuiet P l.toArray C (fun a' => ∀ w', C w' → wpList P l.toArray Q (l.drop n) a' w') (l.take n) a) : (Code.region id l.toArray true).wp P Q a w := by
  simp only [Region.lexTailB, Bool.and_eq_true, decide_eq_true_eq] at hB
  obtain ⟨⟨⟨⟨hsel, hn⟩, hs⟩, hc⟩, hlex⟩ := hB
  have hn' : n < l.length := by simpa using hn
  have htl : (l.take n).length = n := by simp; omega
  have hdl : (l.drop n).length = l.toArray.size - n := by simp
  have inv0 : HeadInv .any l.toArray n (Array.replicate l.toArray.size false) :=
    ⟨by simp, fun j oj _ hl => (by rw [getD_replicate_false] at hl; cases hl), fun t _ ht => getD_in (by simpa using ht) (getD_replicate_false _ _)⟩
  have H := headAny_lex (md := .any) (g := l.toArray.size - n) hsel hs hc hn (l.take n) 0 _ a (fun j hj => by
    have hj' : j < n := by rw [htl] at hj; exact hj
    simp [hj']) (by simpa using htl) inv0 (by rw [htl]; exact hlex) h
  refine wp_region_any hm ?_
  have := headAny_wp (Q := Q) (g := l.toArray.size - n) (fun listed a' w' hw' hL => by
    have := wpAny_of_seq (md := .any) (Q' := Q) (l.drop n) n listed a' w' (fun j => by simp [List.getElem?_drop]) (by rw [hdl]; exact hL.1) (hL.2 w' hw')
    rwa [hdl] at this) _ _ _ _ hC H
  rw [htl, show n + (l.toArray.size - n) = l.toArray.size by omega] at this
  exact this
end

/-- The worlds that come of w by draws and new blocks. -/
abbrev Later (w : World) : World → Prop := fun w' => ∃ p : Regrown, w' = Sort.grow (redrawn w p.d) p.os

theorem later_drew (w : World) : Later w { w with drawn := w.drawn + 1 } := ⟨⟨w.drawn + 1, #[]⟩, by rw [Sort.grow_empty]; rfl⟩
theorem Later.below {w w' : World} (h : Later w w') : Below w.heap.size w w' := by obtain ⟨p, rfl⟩ := h; exact below_regrown w p.d p.os

theorem wpQuiet_mono {P : Program} {ops : Array Oper} {C : World → Prop} {M M' : Act → Prop} (hM : ∀ a, M a → M' a) : ∀ {l : List Oper} {a : Act}, wpQuiet P ops C M l a → wpQuiet P ops C M' l a
  | [], _, h => hM _ h
  | o :: l, a, h => by
    unfold wpQuiet at *
    split
    · rename_i hw; rw [if_pos hw] at h; exact Oper.quiet_mono (fun _ h => wpQuiet_mono hM h) h
    · rename_i hw; rw [if_neg hw] at h; exact wpQuiet_mono hM h

theorem wp_region_qb {P : Program} {id : Nat} {Q : Exit → Act → World → Prop} {a : Act} {w : World} {l : List Oper} (hm : P.follows .mixedOrders = true) (hB : Region.lexB .any l.toArray = true)
    (h : wpQuiet P l.toArray (Later w) (fun a' => ∀ w', Below w.heap.size w w' → Q .normal a' w') l a) : (Code.region id l.toArray true).wp P Q a w :=
  wp_region_quiet (C := Later w) hm hB (later_drew w) (by
    have := wpQuiet_mono (M' := fun a' => ∀ w', Later w w' → Q .normal a' w') (fun _ h w' hw' => h w' hw'.below) h
    simpa using this)

theorem wp_region_qbt {P : Program} {id : Nat} {Q : Exit → Act → World → Prop} {a : Act} {w : World} {l : List Oper} (n : Nat) (hm : P.follows .mixedOrders = true) (hB : Region.lexTailB .any l.toArray n = true)
    (h : wpQuiet P l.toArray (Later w) (fun a' => ∀ w', Below w.heap.size w w' → wpList P l.toArray Q (l.drop n) a' w') (l.take n) a) : (Code.region id l.toArray true).wp P Q a w :=
  wp_region_quiet_tail (C := Later w) n hm hB (later_drew w) (wpQuiet_mono (fun _ h w' hw' => h w' hw'.below) h)

/-- A contract that ends in 'Below', met in a later world. -/
theorem Calls.later {P : Program} {f : FuncId} {args : Array Value} {w : World} {d : Nat} {os : Array Obj} {v : Value}
    (h : Calls P f args (Sort.grow (redrawn w d) os) fun e w' => e = .returned v ∧ Below (Sort.grow (redrawn w d) os).heap.size (Sort.grow (redrawn w d) os) w') : Calls P f args (Sort.grow (redrawn w d) os) fun e w'' => e = .returned v ∧ ∃ p : Regrown, w'' = Sort.grow (redrawn w p.d) p.os := Calls.regrown_of h

theorem Calls.later_same {P : Program} {f : FuncId} {args : Array Value} {w : World} {d : Nat} {os : Array Obj} {v : Value}
    (h : Calls P f args (Sort.grow (redrawn w d) os) fun e w' => e = .returned v ∧ Sort.grow (redrawn w d) os = w') : Calls P f args (Sort.grow (redrawn w d) os) fun e w'' => e = .returned v ∧ ∃ p : Regrown, w'' = Sort.grow (redrawn w p.d) p.os :=
  h.mono fun _ _ ⟨he, hw⟩ => ⟨he, ⟨d, os⟩, hw.symm⟩

/-- What is known of a world, in the place of how it came about. -/
theorem wp_forget {P : Program} {c : Code} {Q : Exit → Act → World → Prop} {a : Act} {w : World} (R : World → Prop) (h : R w) (h2 : ∀ W, R W → c.wp P Q a W) : c.wp P Q a w := h2 w h
theorem wpList_forget {P : Program} {ops : Array Oper} {l : List Oper} {Q : Exit → Act → World → Prop} {a : Act} {w : World} (R : World → Prop) (h : R w) (h2 : ∀ W, R W → wpList P ops Q l a W) : wpList P ops Q l a w := h2 w h
end Go.Proofs.Ins

set_option linter.unusedSimpArgs false
set_option linter.unusedVariables false
namespace Go.Proofs.Ins
open Go.RowKit

/-- Block b holds just these cells, and may be written. -/
def Blk (w : World) (b : Nat) (vs : Array Value) : Prop := ∃ T, w.heap[b]? = some (.cells vs T (0, 0))

theorem Blk.lt {w : World} {b : Nat} {vs : Array Value} (h : Blk w b vs) : b < w.heap.size := by
  obtain ⟨T, h⟩ := h; exact (Array.getElem?_eq_some_iff.mp h).1
theorem Blk.cell {w : World} {b : Nat} {vs : Array Value} (h : Blk w b vs) (j : Nat) : w.cell? ⟨b, j, none⟩ = vs[j]? := by
  obtain ⟨T, h⟩ := h; exact cell_of_row w b j vs T (0, 0) h
theorem Blk.frozen {w : World} {b : Nat} {vs : Array Value} (h : Blk w b vs) (j : Nat) : w.frozen? ⟨b, j, none⟩ = false := by
  obtain ⟨T, h⟩ := h; exact frozen_of_row w b j vs T h
theorem Blk.block {w w' : World} {b : Nat} {vs : Array Value} (h : Blk w b vs) (hb : w'.heap[b]? = w.heap[b]?) : Blk w' b vs := by
  obtain ⟨T, h⟩ := h; exact ⟨T, hb.trans h⟩
theorem Blk.below {w w' : World} {b B : Nat} {vs : Array Value} (h : Blk w b vs) (hb : Below B w w') (hB : b < B) : Blk w' b vs := h.block (hb.block b hB)
/-- Of what was there nothing has turned. -/
theorem Blk.on {w w' : World} {b : Nat} {vs : Array Value} (h : Blk w b vs) (hb : Below w.heap.size w w') : Blk w' b vs := h.below hb h.lt
theorem Blk.alloc {w : World} {b : Nat} {vs : Array Value} (h : Blk w b vs) (o : Obj) : Blk (w.alloc o) b vs := h.block (Below.heap_alloc w o b h.lt)
theorem Blk.new (w : World) (vs : Array Value) (T : TypeId) : Blk (w.alloc (.cells vs T)) w.heap.size vs := ⟨T, heap_alloc_new w _⟩
theorem Blk.drew {w : World} {b : Nat} {vs : Array Value} (h : Blk w b vs) : Blk w.drew b vs := h.block rfl
theorem Blk.setOther {w : World} {b : Nat} {vs : Array Value} (h : Blk w b vs) (a : Addr) (v : Value) (ha : b ≠ a.block) : Blk (w.setCell a v) b vs := h.block (heap_setCell_other w a b v ha)
theorem Blk.set {w : World} {b : Nat} {vs : Array Value} (h : Blk w b vs) (i : Nat) (v : Value) : Blk (w.setCell ⟨b, i, none⟩ v) b (vs.setIfInBounds i v) := by
  obtain ⟨T, h⟩ := h
  refine ⟨T, ?_⟩
  rw [World.setCell]
  simp only [Array.getElem?_modify]
  simp [h]

/-- Three cells. -/
abbrev Blk3 (w : World) (b : Nat) (x y z : Value) : Prop := Blk w b #[x, y, z]
theorem Blk.get3 {w : World} {b : Nat} {x y z : Value} (h : Blk w b #[x, y, z]) :
    w.cell? ⟨b, 0, none⟩ = some x ∧ w.cell? ⟨b, 1, none⟩ = some y ∧ w.cell? ⟨b, 2, none⟩ = some z ∧ w.frozen? ⟨b, 0, none⟩ = false ∧ w.frozen? ⟨b, 1, none⟩ = false ∧ w.frozen? ⟨b, 2, none⟩ = false :=
  ⟨h.cell 0, h.cell 1, h.cell 2, h.frozen 0, h.frozen 1, h.frozen 2⟩
theorem Blk.later3 {w : World} {b : Nat} {x y z : Value} (h : Blk w b #[x, y, z]) :
    (∀ d os, (Sort.grow (redrawn w d) os).cell? ⟨b, 0, none⟩ = some x) ∧ (∀ d os, (Sort.grow (redrawn w d) os).cell? ⟨b, 1, none⟩ = some y) ∧ (∀ d os, (Sort.grow (redrawn w d) os).cell? ⟨b, 2, none⟩ = some z) :=
  ⟨cell_regrown (h.cell 0), cell_regrown (h.cell 1), cell_regrown (h.cell 2)⟩
theorem Blk.set3 {w : World} {b : Nat} {x y z : Value} (h : Blk w b #[x, y, z]) (x' y' z' : Value) :
    Blk (((w.setCell ⟨b, 0, none⟩ x').setCell ⟨b, 1, none⟩ y').setCell ⟨b, 2, none⟩ z') b #[x', y', z'] := ((h.set 0 x').set 1 y').set 2 z'
theorem Blk.set3Other {w : World} {b b2 : Nat} {vs : Array Value} (h : Blk w b vs) (hb : b ≠ b2) (x' y' z' : Value) :
    Blk (((w.setCell ⟨b2, 0, none⟩ x').setCell ⟨b2, 1, none⟩ y').setCell ⟨b2, 2, none⟩ z') b vs := ((h.setOther _ _ hb).setOther _ _ hb).setOther _ _ hb
theorem below_set3 {B b : Nat} {w w' : World} (h : Below B w w') (hb : B ≤ b) (x' y' z' : Value) :
    Below B w (((w'.setCell ⟨b, 0, none⟩ x').setCell ⟨b, 1, none⟩ y').setCell ⟨b, 2, none⟩ z') := ((h.setCell hb _).setCell hb _).setCell hb _
/-- A world and the one behind it. -/
theorem chain {B : Nat} {w0 w w' : World} (h : Below B w0 w) (h2 : Below w.heap.size w w') (hB : B ≤ w0.heap.size) : Below B w0 w' := h.trans (h2.mono (Nat.le_trans hB h.size))
theorem boxes1 {w w3 : World} {vs : Array Value} {T : TypeId} (h : Below (w.alloc (.cells vs T)).heap.size (w.alloc (.cells vs T)) w3) :
    Blk w3 w.heap.size vs ∧ Below w.heap.size w w3 :=
  ⟨(Blk.new w vs T).on h, chain ((Below.refl _ _).alloc (Nat.le_refl _) _) h (Nat.le_refl _)⟩
theorem boxes2 {w w3 : World} {vs us : Array Value} {T U : TypeId} (h : Below ((w.alloc (.cells vs T)).alloc (.cells us U)).heap.size ((w.alloc (.cells vs T)).alloc (.cells us U)) w3) :
    Blk w3 w.heap.size vs ∧ Blk w3 (w.heap.size + 1) us ∧ Below w.heap.size w w3 := by
  refine ⟨((Blk.new w vs T).alloc _).on h, ?_, chain (((Below.refl _ _).alloc (Nat.le_refl _) _).alloc (by simp) _) h (Nat.le_refl _)⟩
  have := (Blk.new (w.alloc (.cells vs T)) us U).on h
  rwa [World.size_alloc] at this
theorem boxes3 {w w3 : World} {vs us ts : Array Value} {T U V : TypeId} (h : Below (((w.alloc (.cells vs T)).alloc (.cells us U)).alloc (.cells ts V)).heap.size (((w.alloc (.cells vs T)).alloc (.cells us U)).alloc (.cells ts V)) w3) :
    Blk w3 w.heap.size vs ∧ Blk w3 (w.heap.size + 1) us ∧ Blk w3 (w.heap.size + 1 + 1) ts ∧ Below w.heap.size w w3 := by
  refine ⟨(((Blk.new w vs T).alloc _).alloc _).on h, ?_, ?_, chain ((((Below.refl _ _).alloc (Nat.le_refl _) _).alloc (by simp) _).alloc (by simp; omega) _) h (Nat.le_refl _)⟩
  · have := ((Blk.new (w.alloc (.cells vs T)) us U).alloc (.cells ts V)).on h
    rwa [World.size_alloc] at this
  · have := (Blk.new ((w.alloc (.cells vs T)).alloc (.cells us U)) ts V).on h
    rwa [World.size_alloc, World.size_alloc] at this

theorem bodyPost_forget {P : Program} {f : Func} {post : Ending → World → Prop} {x : Exit} {a : Act} {w : World} (R : World → Prop) (h : R w) (h2 : ∀ W, R W → bodyPost P f post x a W) : bodyPost P f post x a w := h2 w h
end Go.Proofs.Ins

set_option linter.unusedSimpArgs false
set_option linter.unusedVariables false
namespace Go.Proofs.Ins
open Go.RowKit

/-- n elements of sz cells each, from a place on. -/
def SReads (w : World) (b off sz n : Nat) (F : Nat → List Value) : Prop := ∀ i j, i < n → j < sz → w.cell? ⟨b, off + i * sz + j, none⟩ = (F i)[j]?

theorem SReads.lt {w : World} {b off sz n : Nat} {F : Nat → List Value} (h : SReads w b off sz n F) (hF : ∀ i, i < n → (F i).length = sz) (hn : 0 < n) (hs : 0 < sz) : b < w.heap.size := by
  have h1 := h 0 0 hn hs
  have h2 := hF 0 hn
  rw [List.getElem?_eq_getElem (by omega)] at h1
  exact block_lt_of_cell h1

theorem SReads.below {w w' : World} {b off sz n B : Nat} {F : Nat → List Value} (h : SReads w b off sz n F) (hb : Below B w w') (hB : b < B) : SReads w' b off sz n F := fun i j hi hj => by
  rw [World.cell?_of_block (w := w) (a := ⟨b, off + i * sz + j, none⟩) (hb.block b hB)]; exact h i j hi hj

/-- What a slice value of n such elements is. -/
def SArg (w : World) (a : Option Addr) (n sz : Nat) (F : Nat → List Value) : Prop := n = 0 ∨ ∃ b off, a = some ⟨b, off, none⟩ ∧ b < w.heap.size ∧ SReads w b off sz n F

theorem SArg.on {w w' : World} {a : Option Addr} {n sz : Nat} {F : Nat → List Value} (h : SArg w a n sz F) (hb : Below w.heap.size w w') : SArg w' a n sz F := by
  rcases h with h | ⟨b, off, ha, hl, hr⟩
  · exact .inl h
  · exact .inr ⟨b, off, ha, Nat.lt_of_lt_of_le hl hb.size, hr.below hb hl⟩

/-- A slice of the call's own, of structs. -/
def SOwn (w : World) (base : Nat) (T : TypeId) (sz : Nat) (v : Value) (n : Nat) (F : Nat → List Value) : Prop :=
  w.ownsRow base T sz v n ((List.range n).flatMap F) ∧ ∀ i, i < n → (F i).length = sz

theorem SOwn.nil (w : World) (base : Nat) (T : TypeId) (sz : Nat) (F : Nat → List Value) : SOwn w base T sz (.slice none 0 0) 0 F := ⟨⟨by simp, .inl ⟨rfl, rfl⟩⟩, fun i hi => by omega⟩

theorem SOwn.below {w w' : World} {base B : Nat} {T : TypeId} {sz : Nat} {v : Value} {n : Nat} {F : Nat → List Value} (h : SOwn w base T sz v n F) (hb : Below B w w') (hB : w.heap.size ≤ B) : SOwn w' base T sz v n F := by
  obtain ⟨⟨h1, h2⟩, h3⟩ := h
  refine ⟨⟨h1, ?_⟩, h3⟩
  rcases h2 with h2 | ⟨g, cap, cur, rfl, hb2, hg, hn, hm, hs, ht⟩
  · exact .inl h2
  · exact .inr ⟨g, cap, cur, rfl, hb2, (hb.block g (Nat.lt_of_lt_of_le (Array.getElem?_eq_some_iff.mp hg).1 hB)).trans hg, hn, hm, hs, ht⟩

theorem flatMap_get {F : Nat → List Value} {sz : Nat} : ∀ (n : Nat), (∀ i, i < n → (F i).length = sz) → ∀ i j, i < n → j < sz → ((List.range n).flatMap F)[i * sz + j]? = (F i)[j]?
  | 0, _, i, j, hi, _ => by omega
  | n + 1, hF, i, j, hi, hj => by
    rw [List.range_succ, List.flatMap_append]
    have hlen : ((List.range n).flatMap F).length = n * sz := by
      clear hi
      induction n with
      | zero => simp
      | succ n ih =>
        rw [List.range_succ, List.flatMap_append, List.length_append, ih (fun i hi => hF i (by omega))]
        simp [hF n (by omega), Nat.succ_mul]
    by_cases h : i < n
    · have h4 : i * sz + j < n * sz := by
        have := Nat.mul_le_mul_right sz (show i + 1 ≤ n by omega)
        rw [Nat.succ_mul] at this; omega
      rw [List.getElem?_append_left (by omega)]
      exact flatMap_get n (fun i hi => hF i (by omega)) i j h hj
    · obtain rfl : i = n := by omega
      rw [List.getElem?_append_right (by omega), hlen, show i * sz + j - i * sz = j by omega]
      simp

theorem SOwn.form {w : World} {base : Nat} {T : TypeId} {sz : Nat} {v : Value} {n : Nat} {F : Nat → List Value} (h : SOwn w base T sz v n F) :
    (v = .slice none 0 0 ∧ n = 0) ∨ ∃ g cap, v = .slice (some ⟨g, 0, none⟩) n cap ∧ base ≤ g ∧ n ≤ cap ∧ cap ≤ 9223372036854775807 ∧ g < w.heap.size ∧ SReads w g 0 sz n F := by
  obtain ⟨h0, h3⟩ := h
  obtain ⟨h1, h2⟩ := h0
  rcases h2 with h2 | ⟨g, cap, cur, rfl, hb, hg, hn, hm, hs, ht⟩
  · exact .inl h2
  · refine .inr ⟨g, cap, rfl, hb, hn, hm, (Array.getElem?_eq_some_iff.mp hg).1, fun i j hi hj => ?_⟩
    have hlt : i * sz + j < n * sz := by
      have := Nat.mul_le_mul_right sz (show i + 1 ≤ n by omega)
      rw [Nat.succ_mul] at this; omega
    have := World.ownsRow.cellAt ⟨h1, .inr ⟨g, cap, cur, rfl, hb, hg, hn, hm, hs, ht⟩⟩ (i * sz + j) hlt
    rw [Nat.zero_add, this]
    exact flatMap_get n h3 i j hi hj

/-- The value, as an argument. -/
theorem SOwn.arg {w : World} {base : Nat} {T : TypeId} {sz : Nat} {v : Value} {n : Nat} {F : Nat → List Value} (h : SOwn w base T sz v n F) :
    ∃ a cap, v = .slice a n cap ∧ n ≤ cap ∧ cap ≤ 9223372036854775807 ∧ SArg w a n sz F := by
  rcases h.form with ⟨rfl, rfl⟩ | ⟨g, cap, rfl, hb, hn, hm, hl, hr⟩
  · exact ⟨none, 0, rfl, Nat.le_refl _, by omega, .inl rfl⟩
  · exact ⟨_, cap, rfl, hn, hm, .inr ⟨g, 0, rfl, hl, hr⟩⟩

theorem below_grownS {base sz : Nat} {w w' : World} {T : TypeId} {v : Value} {n : Nat} {xs : List Value} (h : w.ownsRow base T sz v n xs) (hg : w.grownBy w' v.ownBlock) (hb : base ≤ w.heap.size) : Below base w w' := by
  refine (Below.refl _ _).grown hg hb ?_
  intro k hk
  rcases h.2 with ⟨rfl, _⟩ | ⟨g, cap, cur, rfl, hb2, _⟩
  · cases hk
  · have : g = k := Option.some.inj hk
    omega

theorem info_sz {P : Program} {T : TypeId} {sz bytes : Nat} (h : (P.info? T).map (fun i => (i.zero.map (fun z => z.cells.size), i.size, i.bytes)) = some (some sz, sz, bytes)) :
    ∃ i z, P.info? T = some i ∧ i.zero = some z ∧ z.cells.size = sz ∧ i.size = sz ∧ i.bytes = bytes := by
  cases hi : P.info? T with
  | none => rw [hi] at h; cases h
  | some i =>
    rw [hi] at h
    simp only [Option.map_some, Option.some.injEq, Prod.mk.injEq] at h
    obtain ⟨h1, h2, h3⟩ := h
    cases hz : i.zero with
    | none => rw [hz] at h1; cases h1
    | some z =>
      rw [hz] at h1
      exact ⟨i, z, rfl, hz, Option.some.inj h1, h2, h3⟩

/-- 'append(s, x)' for an element of sz cells, laid into a new block just before. -/
theorem wp_appendS {P : Program} {w : World} {o : Oper} {a : Act} {K : Act → World → Prop} {Q : Exit → Act → World → Prop}
    (s x : Operand) (t T : TypeId) (sz bytes : Nat) (base : Nat) (v : Value) (n : Nat) (F : Nat → List Value) (E : List Value)
    (hop : o.op = .call { callee := .builtin .append, args := #[s, x], argTypes := #[t, t] })
    (h1 : P.underlying t = some (.slice T)) (h2 : (P.info? T).map (fun i => (i.zero.map (fun z => z.cells.size), i.size, i.bytes)) = some (some sz, sz, bytes)) (hsz : 0 < sz)
    (hs : a.eval s = v) (hE : E.length = sz) (h1c : ∀ u ∈ E, u.oneCell' = true) (hx : a.eval x = .slice (some ⟨w.heap.size, 0, none⟩) 1 1) (hown : SOwn w base T sz v n F) (hn : (n + 1) * bytes ≤ 140737488355328) (hn2 : n + 1 ≤ 4294967296) (hbase : base ≤ w.heap.size)
    (h : ∀ v' w', SOwn w' base T sz v' (n + 1) (fun j => if j < n then F j else E) → Below base w w' → K (a.put o.dst v') w') :
    o.wp P a (w.alloc (.cells E.toArray T)) K Q := by
  obtain ⟨i, z, hi, hz, hzs, hsize, hbb⟩ := info_sz h2
  refine wp_append_own _ s x t hop base T i z sz bytes h1 hi hz hsize hbb hzs hsz v n _ hs (World.ownsRow.alloc hown.1 _) ⟨w.heap.size, 0, none⟩ 1 1 E hx (by rw [hE, Nat.one_mul]) ?_ h1c (by unfold maxLen; omega) hn (by simp; omega) ?_
  · intro j u hj
    have e : (⟨w.heap.size, 0, none⟩ : Addr).add j = ⟨w.heap.size, j, none⟩ := by unfold Addr.add; split <;> simp_all
    rw [e, cell_of_row _ _ _ _ _ (0, 0) (heap_alloc_new w _)]
    simpa using hj
  · intro v' w' ho hgr _
    have hbl : Below base w w' := ((Below.refl _ _).alloc hbase _).trans (below_grownS (World.ownsRow.alloc hown.1 _) hgr (by simp; omega))
    refine h v' w' ⟨?_, fun i hi => ?_⟩ hbl
    · have e : (List.range n).flatMap F ++ E = (List.range (n + 1)).flatMap (fun j => if j < n then F j else E) := by
        rw [List.range_succ, List.flatMap_append]
        congr 1
        · have hc : ∀ (m : Nat), m ≤ n → (List.range m).flatMap F = (List.range m).flatMap (fun j => if j < n then F j else E) := by
            intro m
            induction m with
            | zero => intro _; rfl
            | succ m ih =>
              intro hm
              rw [List.range_succ, List.flatMap_append, List.flatMap_append, ih (by omega)]
              simp [show m < n by omega]
          exact hc n (Nat.le_refl _)
        · simp
      rw [← e]; exact ho
    · by_cases h : i < n
      · simp only [h, if_true]; exact hown.2 i h
      · simp only [h, if_false]; exact hE

theorem wpList_appendS {P : Program} {w : World} {ops : Array Oper} {rest : List Oper} {o : Oper} {a : Act} {Q : Exit → Act → World → Prop}
    (s x : Operand) (t T : TypeId) (sz bytes : Nat) (base : Nat) (v : Value) (n : Nat) (F : Nat → List Value) (E : List Value)
    (hg : o.guard = none) (hop : o.op = .call { callee := .builtin .append, args := #[s, x], argTypes := #[t, t] })
    (h1 : P.underlying t = some (.slice T)) (h2 : (P.info? T).map (fun i => (i.zero.map (fun z => z.cells.size), i.size, i.bytes)) = some (some sz, sz, bytes)) (hsz : 0 < sz)
    (hs : a.eval s = v) (hE : E.length = sz) (h1c : ∀ u ∈ E, u.oneCell' = true) (hx : a.eval x = .slice (some ⟨w.heap.size, 0, none⟩) 1 1) (hown : SOwn w base T sz v n F) (hn : (n + 1) * bytes ≤ 140737488355328) (hn2 : n + 1 ≤ 4294967296) (hbase : base ≤ w.heap.size)
    (h : ∀ v' w', SOwn w' base T sz v' (n + 1) (fun j => if j < n then F j else E) → Below base w w' → wpList P ops Q rest (a.put o.dst v') w') :
    wpList P ops Q (o :: rest) a (w.alloc (.cells E.toArray T)) :=
  wpList_plain hg fun _ hK => wp_appendS s x t T sz bytes base v n F E hop h1 h2 hsz hs hE h1c hx hown hn hn2 hbase fun v' w' ho hb => hK _ _ (h v' w' ho hb)

/-- The same at a step of a region that draws its order. -/
theorem step_appendS {P : Program} {w : World} {ops : Array Oper} {o : Oper} {a : Act} {K : Act → World → Prop} {Q : Exit → Act → World → Prop} {X : Prop}
    (s x : Operand) (t T : TypeId) (sz bytes : Nat) (base : Nat) (v : Value) (n : Nat) (F : Nat → List Value) (E : List Value)
    (hg : o.guard = none) (hop : o.op = .call { callee := .builtin .append, args := #[s, x], argTypes := #[t, t] })
    (h1 : P.underlying t = some (.slice T)) (h2 : (P.info? T).map (fun i => (i.zero.map (fun z => z.cells.size), i.size, i.bytes)) = some (some sz, sz, bytes)) (hsz : 0 < sz)
    (hs : a.eval s = v) (hE : E.length = sz) (h1c : ∀ u ∈ E, u.oneCell' = true) (hx : a.eval x = .slice (some ⟨w.heap.size, 0, none⟩) 1 1) (hown : SOwn w base T sz v n F) (hn : (n + 1) * bytes ≤ 140737488355328) (hn2 : n + 1 ≤ 4294967296) (hbase : base ≤ w.heap.size)
    (h : ∀ v' w', SOwn w' base T sz v' (n + 1) (fun j => if j < n then F j else E) → Below base w w' → K (a.put o.dst v') w') :
    if Region.wanted o (yielded ops a.tmps) = true then Oper.wp P o a (w.alloc (.cells E.toArray T)) K Q else X := by
  have hw : Region.wanted o (yielded ops a.tmps) = true := by simp [Region.wanted, hg]
  rw [if_pos hw]
  exact wp_appendS s x t T sz bytes base v n F E hop h1 h2 hsz hs hE h1c hx hown hn hn2 hbase h

theorem SOwn.congr {w : World} {base : Nat} {T : TypeId} {sz : Nat} {v : Value} {n : Nat} {F G : Nat → List Value} (h : SOwn w base T sz v n F) (hg : ∀ i, i < n → F i = G i) : SOwn w base T sz v n G := by
  obtain ⟨h1, h2⟩ := h
  refine ⟨?_, fun i hi => by rw [← hg i hi]; exact h2 i hi⟩
  have hc : ∀ (m : Nat), m ≤ n → (List.range m).flatMap F = (List.range m).flatMap G := by
    intro m
    induction m with
    | zero => intro _; rfl
    | succ m ih =>
      intro hm
      rw [List.range_succ, List.flatMap_append, List.flatMap_append, ih (by omega)]
      simp [hg m (by omega)]
  rw [← hc n (Nat.le_refl _)]; exact h1
end Go.Proofs.Ins
