/- A region that draws its order, walked by a schedule: what only reads is taken first under a condition on the world; what acts comes up alone. -/
import Derived.Test.YtobbllakdjampaaGreatDoorQT
import Derived.OrdersHeld
set_option linter.unusedSimpArgs false
set_option linter.unusedVariables false
namespace Go.Proofs.Ins
open Go.RowKit

/-- An operation that yields a value and enters no function. -/
def plainOp : Op → Bool
  | .move _ | .assign _ | .pick .. | .build .. | .load .. | .binOp .. | .unOp .. | .convert .. | .fieldAddr .. | .field .. | .indexAddr .. | .index .. | .extract .. | .slice .. => true
  | _ => false

theorem plain_run (ρ : Operand → Value) (o : Oper) (h : plainOp o.op = true) : ∃ s : Sem Value, execOp ρ o = (do pure (Next.value (← s))) := by
  unfold execOp
  cases ho : o.op <;> rw [ho] at h <;> try (simp [plainOp] at h; done)
  case move x => exact ⟨pure (ρ x), by simp⟩
  case assign x => exact ⟨pure (ρ x), by simp⟩
  case pick c x y => exact ⟨do pure (if ← asBool (ρ c) then ρ x else ρ y), by simp⟩
  all_goals exact ⟨_, rfl⟩

theorem quiet_plain {P : Program} {o : Oper} {a : Act} {C : World → Prop} {w : World} {v : Value} (hp : plainOp o.op = true) (h : o.quietAt P a C w v) : (execOp a.eval o).run P w = .ok (.value v) w := by
  obtain ⟨s, hs⟩ := plain_run a.eval o hp
  unfold Oper.quietAt at h
  rw [hs] at h ⊢
  simp only [Sem.run_bind, Sem.run_pure] at h ⊢
  cases hr : Sem.run P s w with
  | ok x w' =>
    rw [hr] at h
    simp only [Result.andThen, Oper.quietUpon] at h ⊢
    obtain ⟨rfl, rfl⟩ := h
    rfl
  | halt x w' =>
    rw [hr] at h
    simp only [Result.andThen, Oper.quietUpon] at h

/-- Where a piece of a region ends. -/
def segQ (Q : Exit → Act → World → Prop) (K : Act → World → Prop) : Exit → Act → World → Prop
  | .normal, a, w => K a w
  | e, a, w => Q e a w
theorem segQ_normal {Q : Exit → Act → World → Prop} {K : Act → World → Prop} {a : Act} {w : World} (h : K a w) : segQ Q K .normal a w := h

theorem wp_segQ {P : Program} {o : Oper} {a : Act} {w : World} {K K' : Act → World → Prop} {Q : Exit → Act → World → Prop} (h : o.wp P a w K (segQ Q K')) : o.wp P a w K Q := by
  unfold Oper.wp at *
  generalize (execOp a.eval o).run P w = r at *
  cases r with
  | ok n w' => cases n <;> exact h
  | halt x w' => cases x <;> exact h

theorem wpOp_of_list {P : Program} {ops : Array Oper} {o : Oper} {i : Nat} {a : Act} {w : World} {K : Act → World → Prop} {Q : Exit → Act → World → Prop} (hi : ops[i]? = some o)
    (h : wpList P ops (segQ Q K) [o] a w) : wpOp P ops Q i K a w := by
  unfold wpOp
  simp only [hi]
  unfold wpList at h
  split
  · rename_i hw
    rw [if_pos hw] at h
    rcases h with h | h
    · exact .inl (Oper.wp_mono (fun a w h => h) (wp_segQ h))
    · exact .inr h
  · rename_i hw
    rw [if_neg hw] at h
    exact h

def getOps (l : List Oper) (is : List Nat) : List Oper := is.filterMap fun i => l[i]?

def wpSegs (P : Program) (l : List Oper) (Q : Exit → Act → World → Prop) (S : World → Prop) : List (List Nat × Nat) → List Nat → Act → World → Prop
  | [], fin, a, w => wpQuiet P l.toArray S (fun a' => Q .normal a' w) (getOps l fin) a
  | (qs, i) :: rest, fin, a, w => wpQuiet P l.toArray S (fun a' => wpList P l.toArray (segQ Q fun a2 w2 => S w2 ∧ wpSegs P l Q S rest fin a2 w2) (getOps l [i]) a' w) (getOps l qs) a

theorem wpSegs_cons {P : Program} {l : List Oper} {Q : Exit → Act → World → Prop} {S : World → Prop} {qs : List Nat} {i : Nat} {rest : List (List Nat × Nat)} {fin : List Nat} {a : Act} {w : World}
    (h : wpQuiet P l.toArray S (fun a' => wpList P l.toArray (segQ Q fun a2 w2 => S w2 ∧ wpSegs P l Q S rest fin a2 w2) (getOps l [i]) a' w) (getOps l qs) a) : wpSegs P l Q S ((qs, i) :: rest) fin a w := h
def quietB (md : Region.Mode) (ops : Array Oper) : List Nat → Array Bool → Option (Array Bool)
  | [], listed => some listed
  | q :: qs, listed => match ops[q]? with
    | some o => if (Region.ready md ops listed).contains q && Region.free md ops listed q && plainOp o.op then quietB md ops qs (listed.setIfInBounds q true) else none
    | none => none

def segsB (md : Region.Mode) (ops : Array Oper) : List (List Nat × Nat) → List Nat → Array Bool → Bool
  | [], fin, listed => match quietB md ops fin listed with
    | some l' => (Region.ready md ops l').isEmpty
    | none => false
  | (qs, i) :: rest, fin, listed => match quietB md ops qs listed with
    | some l' => decide (Region.ready md ops l' = [i]) && segsB md ops rest fin (l'.setIfInBounds i true)
    | none => false

section
variable {P : Program} {ops : Array Oper} {md : Region.Mode} {S : World → Prop} {Q : Exit → Act → World → Prop}

theorem segs_quiet (hs : Region.noSelect ops = true) (hQ : ∀ c a d v w, Q (.panic c) (Act.put a d v) w → Q (.panic c) a w) {M : Act → Prop} {w : World} (hS : S w) (l : List Oper) (hl : l.toArray = ops) :
    ∀ (qs : List Nat) (listed l' : Array Bool) (a : Act) (f : Nat), quietB md ops qs listed = some l' → wpQuiet P ops S M (getOps l qs) a → (∀ a', M a' → wpAnyH P md ops Q S f l' a' w) → wpAnyH P md ops Q S (f + qs.length) listed a w
  | [], listed, l', a, f, hB, h, hM => by
    simp only [quietB, Option.some.injEq] at hB
    subst hB
    exact hM a h
  | q :: qs, listed, l', a, f, hB, h, hM => by
    unfold quietB at hB
    cases hq : ops[q]? with
    | none => rw [hq] at hB; cases hB
    | some o =>
      rw [hq] at hB
      simp only [] at hB
      by_cases hc : ((Region.ready md ops listed).contains q && Region.free md ops listed q && plainOp o.op) = true
      · rw [if_pos hc] at hB
        simp only [Bool.and_eq_true] at hc
        obtain ⟨⟨h1, h2⟩, h3⟩ := hc
        have hlq : l[q]? = some o := by rw [← hl] at hq; simpa using hq
        have hg : getOps l (q :: qs) = o :: getOps l qs := by unfold getOps; rw [List.filterMap_cons, hlq]
        rw [hg] at h
        unfold wpQuiet at h
        have go : ∀ v, YieldsIf P ops S o v a → wpQuiet P ops S M (getOps l qs) (a.put o.dst v) → wpAnyH P md ops Q S (f + (q :: qs).length) listed a w := fun v hy hn => by
          rw [List.length_cons, ← Nat.add_assoc]
          exact wpAnyH_take hq hs h2 h1 (fun c a w => hQ c a o.dst v w) hy hS (segs_quiet hs hQ hS l hl qs _ l' _ f hB hn hM)
        by_cases hw : Region.wanted o (yielded ops a.tmps) = true
        · rw [if_pos hw] at h
          obtain ⟨v, hv, hn⟩ := h
          exact go v (.inl ⟨hw, fun w' hw' => quiet_plain h3 (hv w' hw')⟩) hn
        · rw [if_neg hw] at h
          exact go undef (.inr ⟨by simpa using hw, rfl⟩) h
      · rw [if_neg hc] at hB; cases hB

theorem segs_all (hs : Region.noSelect ops = true) (hQ : ∀ c a d v w, Q (.panic c) (Act.put a d v) w → Q (.panic c) a w) (l : List Oper) (hl : l.toArray = ops) (fin : List Nat) :
    ∀ (sg : List (List Nat × Nat)) (listed : Array Bool) (a : Act) (w : World) (f : Nat), segsB md ops sg fin listed = true → S w → wpSegs P l Q S sg fin a w → wpAnyH P md ops Q S (f + (sg.map fun x => x.1.length + 1).sum + fin.length) listed a w
  | [], listed, a, w, f, hB, hS, h => by
    unfold segsB at hB
    cases hq : quietB md ops fin listed with
    | none => rw [hq] at hB; cases hB
    | some l' =>
      rw [hq] at hB
      unfold wpSegs at h
      rw [hl] at h
      simp only [List.map_nil, List.sum_nil, Nat.add_zero]
      exact segs_quiet hs hQ hS l hl fin listed l' a f hq h (fun a' ha => wpAnyH_done (by simpa using hB) ha f)
  | (qs, i) :: rest, listed, a, w, f, hB, hS, h => by
    unfold segsB at hB
    cases hq : quietB md ops qs listed with
    | none => rw [hq] at hB; cases hB
    | some l' =>
      rw [hq] at hB
      simp only [Bool.and_eq_true, decide_eq_true_eq] at hB
      obtain ⟨hr, hB2⟩ := hB
      unfold wpSegs at h
      rw [hl] at h
      have e : f + (((qs, i) :: rest).map fun x => x.1.length + 1).sum + fin.length = (f + (rest.map fun x => x.1.length + 1).sum + fin.length + 1) + qs.length := by
        simp only [List.map_cons, List.sum_cons]; omega
      rw [e]
      refine segs_quiet hs hQ hS l hl qs listed l' a _ hq h (fun a' ha => ?_)
      have hi : i ∈ Region.ready md ops l' := by rw [hr]; simp
      obtain ⟨_, o, ho, _⟩ := mem_ready.1 hi
      have hlo : l[i]? = some o := by rw [← hl] at ho; simpa using ho
      have hg : getOps l [i] = [o] := by unfold getOps; rw [List.filterMap_cons, hlo]; rfl
      rw [hg] at ha
      refine wpAnyH_all hr (by simp) (fun j hj => ?_)
      have hji : j = i := by simpa using hj
      subst hji
      exact wpOp_mono (fun a2 w2 h2 => ⟨h2.1, segs_all hs hQ l hl fin rest _ a2 w2 f hB2 h2.1 h2.2⟩) (wpOp_of_list ho ha)

end

theorem segs_sum (sg : List (List Nat × Nat)) (fin : List Nat) (n : Nat) (h : (sg.map fun x => x.1.length + 1).sum + fin.length = n) : 0 + (sg.map fun x => x.1.length + 1).sum + fin.length = n := by omega

/-- Q, but 'False' at a panic. -/
def NoPan (Q : Exit → Act → World → Prop) : Exit → Act → World → Prop
  | .panic _, _, _ => False
  | e, a, w => Q e a w
theorem NoPan.imp {Q : Exit → Act → World → Prop} : ∀ (e : Exit) (a : Act) (w : World), NoPan Q e a w → Q e a w := fun e a w h => by
  cases e <;> first | exact h | exact (h : False).elim

theorem wpSegs_nil {P : Program} {l : List Oper} {Q : Exit → Act → World → Prop} {S : World → Prop} {fin : List Nat} {a : Act} {w : World}
    (h : wpQuiet P l.toArray S (fun a' => Q .normal a' w) (getOps l fin) a) : wpSegs P l (NoPan Q) S [] fin a w := h

/-- A region by a schedule. -/
theorem wp_region_segs {P : Program} {id : Nat} {Q : Exit → Act → World → Prop} {a : Act} {w : World} {l : List Oper} (S : World → Prop) (sg : List (List Nat × Nat)) (fin : List Nat) (hm : P.follows .mixedOrders = true)
    (hs : Region.noSelect l.toArray = true) (hB : segsB .any l.toArray sg fin (Array.replicate l.toArray.size false) = true) (hn : (sg.map fun x => x.1.length + 1).sum + fin.length = l.toArray.size)
    (hS : S w.drew)
    (h : wpSegs P l (NoPan Q) S sg fin a w.drew) : (Code.region id l.toArray true).wp P Q a w := by
  refine Code.wp_mono NoPan.imp (wp_region_held (S := S) hm ?_)
  have := segs_all (md := .any) (P := P) (S := S) (Q := NoPan Q) hs (fun _ _ _ _ _ h => h) l rfl fin sg (Array.replicate l.toArray.size false) a w.drew 0 hB hS h
  rw [Nat.zero_add, hn] at this
  exact this

/-- A plan of a region: what only reads, then one act, or one of two. -/
inductive STree where
  | fin (qs : List Nat)
  | one (qs : List Nat) (i : Nat) (t : STree)
  | two (qs : List Nat) (i j : Nat) (t u : STree)

def STree.len : STree → Nat
  | .fin qs => qs.length
  | .one qs _ t => t.len + 1 + qs.length
  | .two qs _ _ t _ => t.len + 1 + qs.length

def wpTree (P : Program) (l : List Oper) (Q : Exit → Act → World → Prop) (S : World → Prop) : STree → Act → World → Prop
  | .fin qs, a, w => wpQuiet P l.toArray S (fun a' => Q .normal a' w) (getOps l qs) a
  | .one qs i t, a, w => wpQuiet P l.toArray S (fun a' => wpList P l.toArray (segQ Q fun a2 w2 => S w2 ∧ wpTree P l Q S t a2 w2) (getOps l [i]) a' w) (getOps l qs) a
  | .two qs i j t u, a, w => wpQuiet P l.toArray S (fun a' => wpList P l.toArray (segQ Q fun a2 w2 => S w2 ∧ wpTree P l Q S t a2 w2) (getOps l [i]) a' w ∧ wpList P l.toArray (segQ Q fun a2 w2 => S w2 ∧ wpTree P l Q S u a2 w2) (getOps l [j]) a' w) (getOps l qs) a

def treeB (md : Region.Mode) (ops : Array Oper) : STree → Array Bool → Bool
  | .fin qs, listed => match quietB md ops qs listed with
    | some l' => (Region.ready md ops l').isEmpty
    | none => false
  | .one qs i t, listed => match quietB md ops qs listed with
    | some l' => decide (Region.ready md ops l' = [i]) && treeB md ops t (l'.setIfInBounds i true)
    | none => false
  | .two qs i j t u, listed => match quietB md ops qs listed with
    | some l' => decide (Region.ready md ops l' = [i, j]) && decide (t.len = u.len) && treeB md ops t (l'.setIfInBounds i true) && treeB md ops u (l'.setIfInBounds j true)
    | none => false

theorem wpTree_one {P : Program} {l : List Oper} {Q : Exit → Act → World → Prop} {S : World → Prop} {qs : List Nat} {i : Nat} {t : STree} {a : Act} {w : World}
    (h : wpQuiet P l.toArray S (fun a' => wpList P l.toArray (segQ Q fun a2 w2 => S w2 ∧ wpTree P l Q S t a2 w2) (getOps l [i]) a' w) (getOps l qs) a) : wpTree P l Q S (.one qs i t) a w := h
theorem wpTree_two {P : Program} {l : List Oper} {Q : Exit → Act → World → Prop} {S : World → Prop} {qs : List Nat} {i j : Nat} {t u : STree} {a : Act} {w : World}
    (h : wpQuiet P l.toArray S (fun a' => wpList P l.toArray (segQ Q fun a2 w2 => S w2 ∧ wpTree P l Q S t a2 w2) (getOps l [i]) a' w ∧ wpList P l.toArray (segQ Q fun a2 w2 => S w2 ∧ wpTree P l Q S u a2 w2) (getOps l [j]) a' w) (getOps l qs) a) : wpTree P l Q S (.two qs i j t u) a w := h
theorem wpTree_fin {P : Program} {l : List Oper} {Q : Exit → Act → World → Prop} {S : World → Prop} {qs : List Nat} {a : Act} {w : World}
    (h : wpQuiet P l.toArray S (fun a' => Q .normal a' w) (getOps l qs) a) : wpTree P l (NoPan Q) S (.fin qs) a w := h

section
variable {P : Program} {ops : Array Oper} {md : Region.Mode} {S : World → Prop} {Q : Exit → Act → World → Prop}
theorem wpOp_ready {l : List Oper} (hl : l.toArray = ops) {l' : Array Bool} {i : Nat} {a : Act} {w : World} {K : Act → World → Prop} (hi : i ∈ Region.ready md ops l')
    (ha : wpList P l.toArray (segQ Q K) (getOps l [i]) a w) : wpOp P ops Q i K a w := by
  obtain ⟨_, o, ho, _⟩ := mem_ready.1 hi
  have hlo : l[i]? = some o := by rw [← hl] at ho; simpa using ho
  have hg : getOps l [i] = [o] := by unfold getOps; rw [List.filterMap_cons, hlo]; rfl
  rw [hg, hl] at ha
  exact wpOp_of_list ho ha

theorem tree_all (hs : Region.noSelect ops = true) (hQ : ∀ c a d v w, Q (.panic c) (Act.put a d v) w → Q (.panic c) a w) (l : List Oper) (hl : l.toArray = ops) :
    ∀ (t : STree) (listed : Array Bool) (a : Act) (w : World) (f : Nat), treeB md ops t listed = true → S w → wpTree P l Q S t a w → wpAnyH P md ops Q S (f + t.len) listed a w
  | .fin qs, listed, a, w, f, hB, hS, h => by
    unfold treeB at hB
    cases hq : quietB md ops qs listed with
    | none => rw [hq] at hB; cases hB
    | some l' =>
      rw [hq] at hB
      unfold wpTree at h
      rw [hl] at h
      exact segs_quiet hs hQ hS l hl qs listed l' a f hq h (fun a' ha => wpAnyH_done (by simpa using hB) ha f)
  | .one qs i t, listed, a, w, f, hB, hS, h => by
    unfold treeB at hB
    cases hq : quietB md ops qs listed with
    | none => rw [hq] at hB; cases hB
    | some l' =>
      rw [hq] at hB
      simp only [Bool.and_eq_true, decide_eq_true_eq] at hB
      obtain ⟨hr, hB2⟩ := hB
      unfold wpTree at h
      rw [hl] at h
      have e : f + (STree.one qs i t).len = (f + t.len + 1) + qs.length := by show f + (t.len + 1 + qs.length) = _; omega
      rw [e]
      refine segs_quiet hs hQ hS l hl qs listed l' a _ hq h (fun a' ha => ?_)
      refine wpAnyH_all hr (by simp) (fun j hj => ?_)
      have hji : j = i := by simpa using hj
      subst hji
      rw [← hl] at ha
      exact wpOp_mono (fun a2 w2 h2 => ⟨h2.1, tree_all hs hQ l hl t _ a2 w2 f hB2 h2.1 h2.2⟩) (wpOp_ready hl (md := md) (l' := l') (by rw [hr]; simp) ha)
  | .two qs i j t u, listed, a, w, f, hB, hS, h => by
    unfold treeB at hB
    cases hq : quietB md ops qs listed with
    | none => rw [hq] at hB; cases hB
    | some l' =>
      rw [hq] at hB
      simp only [Bool.and_eq_true, decide_eq_true_eq] at hB
      obtain ⟨⟨⟨hr, hn⟩, hB2⟩, hB3⟩ := hB
      unfold wpTree at h
      rw [hl] at h
      have e : f + (STree.two qs i j t u).len = (f + t.len + 1) + qs.length := by show f + (t.len + 1 + qs.length) = _; omega
      rw [e]
      refine segs_quiet hs hQ hS l hl qs listed l' a _ hq h (fun a' ha => ?_)
      refine wpAnyH_all hr (by simp) (fun k hk => ?_)
      rw [← hl] at ha
      have hk2 : k = i ∨ k = j := by simpa using hk
      rcases hk2 with rfl | rfl
      · exact wpOp_mono (fun a2 w2 h2 => ⟨h2.1, tree_all hs hQ l hl t _ a2 w2 f hB2 h2.1 h2.2⟩) (wpOp_ready hl (md := md) (l' := l') (by rw [hr]; simp) ha.1)
      · rw [hn]
        exact wpOp_mono (fun a2 w2 h2 => ⟨h2.1, tree_all hs hQ l hl u _ a2 w2 f hB3 h2.1 h2.2⟩) (wpOp_ready hl (md := md) (l' := l') (by rw [hr]; simp) ha.2)
end

/-- A region by a plan. -/
theorem wp_region_tree {P : Program} {id : Nat} {Q : Exit → Act → World → Prop} {a : Act} {w : World} {l : List Oper} (S : World → Prop) (t : STree) (hm : P.follows .mixedOrders = true)
    (hs : Region.noSelect l.toArray = true) (hB : treeB .any l.toArray t (Array.replicate l.toArray.size false) = true) (hn : t.len = l.toArray.size)
    (hS : S w.drew) (h : wpTree P l (NoPan Q) S t a w.drew) : (Code.region id l.toArray true).wp P Q a w := by
  refine Code.wp_mono NoPan.imp (wp_region_held (S := S) hm ?_)
  have := tree_all (md := .any) (P := P) (S := S) (Q := NoPan Q) hs (fun _ _ _ _ _ h => h) l rfl t (Array.replicate l.toArray.size false) a w.drew 0 hB hS h
  rw [Nat.zero_add, hn] at this
  exact this

theorem exit_forget {Q : Exit → Act → World → Prop} {x : Exit} {a : Act} {w : World} (R : World → Prop) (h : R w) (h2 : ∀ W, R W → Q x a W) : Q x a w := h2 w h

/-- A later world: of what was there only the blocks in X may have turned. -/
structure ExcP (W : World) (X : Nat → Bool) where
  d : Nat
  heap : Array Obj
  size : W.heap.size ≤ heap.size
  block : ∀ k, k < W.heap.size → X k = false → heap[k]? = W.heap[k]?
def ExcP.w {W : World} {X : Nat → Bool} (p : ExcP W X) : World := { W with drawn := p.d, heap := p.heap }
instance (W : World) (X : Nat → Bool) : Inhabited (ExcP W X) := ⟨⟨0, W.heap, Nat.le_refl _, fun _ _ _ => rfl⟩⟩
abbrev Exc (W : World) (X : Nat → Bool) : World → Prop := fun w' => ∃ p : ExcP W X, w' = p.w

theorem exc_of {W w' : World} {X : Nat → Bool} (h1 : w'.os = W.os) (h2 : w'.tape = W.tape) (h3 : w'.output = W.output) (h4 : W.heap.size ≤ w'.heap.size) (h5 : ∀ k, k < W.heap.size → X k = false → w'.heap[k]? = W.heap[k]?) : Exc W X w' := by
  refine ⟨⟨w'.drawn, w'.heap, h4, h5⟩, ?_⟩
  obtain ⟨heap', tape', drawn', os', output'⟩ := w'
  simp only at h1 h2 h3
  subst h1 h2 h3
  rfl

/-- The blocks from B on may have turned. -/
def fromB (B : Nat) : Nat → Bool := fun k => decide (B ≤ k)
theorem exc_below {B : Nat} {W w' : World} (h : Below B W w') : Exc W (fromB B) w' :=
  exc_of h.os h.tape h.output h.size fun k _ hk => h.block k (by unfold fromB at hk; simpa using hk)
theorem exc_cell {W : World} {B : Nat} {a : Addr} {v : Value} (h : W.cell? a = some v) (hB : a.block < B) : ∀ p : ExcP W (fromB B), p.w.cell? a = some v := fun p => by
  rw [World.cell?_of_block (w := W) (p.block a.block (block_lt_of_cell h) (by unfold fromB; simpa using hB))]; exact h
end Go.Proofs.Ins
