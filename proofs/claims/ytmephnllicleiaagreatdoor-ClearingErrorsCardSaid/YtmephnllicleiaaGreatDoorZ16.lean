/- The walks of insolvencyref17.earlier and agreement. -/
import Derived.Test.YtmephnllicleiaaGreatDoorZ2
import Derived.OrdersHeld
import Derived.Test.YtmephnllicleiaaGreatDoorZ15
import Derived.Test.YtmephnllicleiaaGreatDoorZ13
import Derived.Test.YtmephnllicleiaaGreatDoorZ5

set_option linter.unusedSimpArgs false
set_option linter.unusedVariables false
namespace Go.Proofs.Ins
open Go.RowKit

/-- An operation that yields a value and enters no function. -/
def plainOp : Op → Bool
  | .move _ | .assign _ | .pick .. | .build .. | .load .. | .binOp .. | .unOp .. | .convert .. | .fieldAddr .. | .field .. | .indexAddr .. | .index .. | .extract .. | .slice .. => true
  | _ => false

theorem plain_run (ρ : Operand → Value) (o : Oper) (h : plainOp o.op = true) : ∃ s : Sem Value, execOp ρ o = (do pure (Next.value (← s))) := by
  unfold execOp
  cases ho : o.op <;> rw [ho] at h <;> try (simp [plainOp] at h; done)
  case move x => exact ⟨pure (ρ x), by simp⟩
  case assign x => exact ⟨pure (ρ x), by simp⟩
  case pick c x y => exact ⟨do pure (if ← asBool (ρ c) then ρ x else ρ y), by simp⟩
  all_goals exact ⟨_, rfl⟩

theorem quiet_plain {P : Program} {o : Oper} {a : Act} {C : World → Prop} {w : World} {v : Value} (hp : plainOp o.op = true) (h : o.quietAt P a C w v) : (execOp a.eval o).run P w = .ok (.value v) w := by
  obtain ⟨s, hs⟩ := plain_run a.eval o hp
  unfold Oper.quietAt at h
  rw [hs] at h ⊢
  simp only [Sem.run_bind, Sem.run_pure] at h ⊢
  cases hr : Sem.run P s w with
  | ok x w' =>
    rw [hr] at h
    simp only [Result.andThen, Oper.quietUpon] at h ⊢
    obtain ⟨rfl, rfl⟩ := h
    rfl
  | halt x w' =>
    rw [hr] at h
    simp only [Result.andThen, Oper.quietUpon] at h

/-- Where a piece of a region ends. -/
def segQ (Q : Exit → Act → World → Prop) (K : Act → World → Prop) : Exit → Act → World → Prop
  | .normal, a, w => K a w
  | e, a, w => Q e a w
theorem segQ_normal {Q : Exit → Act → World → Prop} {K : Act → World → Prop} {a : Act} {w : World} (h : K a w) : segQ Q K .normal a w := h

theorem wp_segQ {P : Program} {o : Oper} {a : Act} {w : World} {K K' : Act → World → Prop} {Q : Exit → Act → World → Prop} (h : o.wp P a w K (segQ Q K')) : o.wp P a w K Q := by
  unfold Oper.wp at *
  generalize (execOp a.eval o).run P w = r at *
  cases r with
  | ok n w' => cases n <;> exact h
  | halt x w' => cases x <;> exact h

theorem wpOp_of_list {P : Program} {ops : Array Oper} {o : Oper} {i : Nat} {a : Act} {w : World} {K : Act → World → Prop} {Q : Exit → Act → World → Prop} (hi : ops[i]? = some o)
    (h : wpList P ops (segQ Q K) [o] a w) : wpOp P ops Q i K a w := by
  unfold wpOp
  simp only [hi]
  unfold wpList at h
  split
  · rename_i hw
    rw [if_pos hw] at h
    rcases h with h | h
    · exact .inl (Oper.wp_mono (fun a w h => h) (wp_segQ h))
    · exact .inr h
  · rename_i hw
    rw [if_neg hw] at h
    exact h

def getOps (l : List Oper) (is : List Nat) : List Oper := is.filterMap fun i => l[i]?

def wpSegs (P : Program) (l : List Oper) (Q : Exit → Act → World → Prop) (S : World → Prop) : List (List Nat × Nat) → List Nat → Act → World → Prop
  | [], fin, a, w => wpQuiet P l.toArray S (fun a' => Q .normal a' w) (getOps l fin) a
  | (qs, i) :: rest, fin, a, w => wpQuiet P l.toArray S (fun a' => wpList P l.toArray (segQ Q fun a2 w2 => S w2 ∧ wpSegs P l Q S rest fin a2 w2) (getOps l [i]) a' w) (getOps l qs) a

theorem wpSegs_cons {P : Program} {l : List Oper} {Q : Exit → Act → World → Prop} {S : World → Prop} {qs : List Nat} {i : Nat} {rest : List (List Nat × Nat)} {fin : List Nat} {a : Act} {w : World}
    (h : wpQuiet P l.toArray S (fun a' => wpList P l.toArray (segQ Q fun a2 w2 => S w2 ∧ wpSegs P l Q S rest fin a2 w2) (getOps l [i]) a' w) (getOps l qs) a) : wpSegs P l Q S ((qs, i) :: rest) fin a w := h
def quietB (md : Region.Mode) (ops : Array Oper) : List Nat → Array Bool → Option (Array Bool)
  | [], listed => some listed
  | q :: qs, listed => match ops[q]? with
    | some o => if (Region.ready md ops listed).contains q && Region.free md ops listed q && plainOp o.op then quietB md ops qs (listed.setIfInBounds q true) else none
    | none => none

def segsB (md : Region.Mode) (ops : Array Oper) : List (List Nat × Nat) → List Nat → Array Bool → Bool
  | [], fin, listed => match quietB md ops fin listed with
    | some l' => (Region.ready md ops l').isEmpty
    | none => false
  | (qs, i) :: rest, fin, listed => match quietB md ops qs listed with
    | some l' => decide (Region.ready md ops l' = [i]) && segsB md ops rest fin (l'.setIfInBounds i true)
    | none => false

section
variable {P : Program} {ops : Array Oper} {md : Region.Mode} {S : World → Prop} {Q : Exit → Act → World → Prop}

theorem segs_quiet (hs : Region.noSelect ops = true) (hQ : ∀ c a d v w, Q (.panic c) (Act.put a d v) w → Q (.panic c) a w) {M : Act → Prop} {w : World} (hS : S w) (l : List Oper) (hl : l.toArray = ops) :
    ∀ (qs : List Nat) (listed l' : Array Bool) (a : Act) (f : Nat), quietB md ops qs listed = some l' → wpQuiet P ops S M (getOps l qs) a → (∀ a', M a' → wpAnyH P md ops Q S f l' a' w) → wpAnyH P md ops Q S (f + qs.length) listed a w
  | [], listed, l', a, f, hB, h, hM => by
    simp only [quietB, Option.some.injEq] at hB
    subst hB
    exact hM a h
  | q :: qs, listed, l', a, f, hB, h, hM => by
    unfold quietB at hB
    cases hq : ops[q]? with
    | none => rw [hq] at hB; cases hB
    | some o =>
      rw [hq] at hB
      simp only [] at hB
      by_cases hc : ((Region.ready md ops listed).contains q && Region.free md ops listed q && plainOp o.op) = true
      · rw [if_pos hc] at hB
        simp only [Bool.and_eq_true] at hc
        obtain ⟨⟨h1, h2⟩, h3⟩ := hc
        have hlq : l[q]? = some o := by rw [← hl] at hq; simpa using hq
        have hg : getOps l (q :: qs) = o :: getOps l qs := by unfold getOps; rw [List.filterMap_cons, hlq]
        rw [hg] at h
        unfold wpQuiet at h
        have go : ∀ v, YieldsIf P ops S o v a → wpQuiet P ops S M (getOps l qs) (a.put o.dst v) → wpAnyH P md ops Q S (f + (q :: qs).length) listed a w := fun v hy hn => by
          rw [List.length_cons, ← Nat.add_assoc]
          exact wpAnyH_take hq hs h2 h1 (fun c a w => hQ c a o.dst v w) hy hS (segs_quiet hs hQ hS l hl qs _ l' _ f hB hn hM)
        by_cases hw : Region.wanted o (yielded ops a.tmps) = true
        · rw [if_pos hw] at h
          obtain ⟨v, hv, hn⟩ := h
          exact go v (.inl ⟨hw, fun w' hw' => quiet_plain h3 (hv w' hw')⟩) hn
        · rw [if_neg hw] at h
          exact go undef (.inr ⟨by simpa using hw, rfl⟩) h
      · rw [if_neg hc] at hB; cases hB

theorem segs_all (hs : Region.noSelect ops = true) (hQ : ∀ c a d v w, Q (.panic c) (Act.put a d v) w → Q (.panic c) a w) (l : List Oper) (hl : l.toArray = ops) (fin : List Nat) :
    ∀ (sg : List (List Nat × Nat)) (listed : Array Bool) (a : Act) (w : World) (f : Nat), segsB md ops sg fin listed = true → S w → wpSegs P l Q S sg fin a w → wpAnyH P md ops Q S (f + (sg.map fun x => x.1.length + 1).sum + fin.length) listed a w
  | [], listed, a, w, f, hB, hS, h => by
    unfold segsB at hB
    cases hq : quietB md ops fin listed with
    | none => rw [hq] at hB; cases hB
    | some l' =>
      rw [hq] at hB
      unfold wpSegs at h
      rw [hl] at h
      simp only [List.map_nil, List.sum_nil, Nat.add_zero]
      exact segs_quiet hs hQ hS l hl fin listed l' a f hq h (fun a' ha => wpAnyH_done (by simpa using hB) ha f)
  | (qs, i) :: rest, listed, a, w, f, hB, hS, h => by
    unfold segsB at hB
    cases hq : quietB md ops qs listed with
    | none => rw [hq] at hB; cases hB
    | some l' =>
      rw [hq] at hB
      simp only [Bool.and_eq_true, decide_eq_true_eq] at hB
      obtain ⟨hr, hB2⟩ := hB
      unfold wpSegs at h
      rw [hl] at h
      have e : f + (((qs, i) :: rest).map fun x => x.1.length + 1).sum + fin.length = (f + (rest.map fun x => x.1.length + 1).sum + fin.length + 1) + qs.length := by
        simp only [List.map_cons, List.sum_cons]; omega
      rw [e]
      refine segs_quiet hs hQ hS l hl qs listed l' a _ hq h (fun a' ha => ?_)
      have hi : i ∈ Region.ready md ops l' := by rw [hr]; simp
      obtain ⟨_, o, ho, _⟩ := mem_ready.1 hi
      have hlo : l[i]? = some o := by rw [← hl] at ho; simpa using ho
      have hg : getOps l [i] = [o] := by unfold getOps; rw [List.filterMap_cons, hlo]; rfl
      rw [hg] at ha
      refine wpAnyH_all hr (by simp) (fun j hj => ?_)
      have hji : j = i := by simpa using hj
      subst hji
      exact wpOp_mono (fun a2 w2 h2 => ⟨h2.1, segs_all hs hQ l hl fin rest _ a2 w2 f hB2 h2.1 h2.2⟩) (wpOp_of_list ho ha)

end

theorem segs_sum (sg : List (List Nat × Nat)) (fin : List Nat) (n : Nat) (h : (sg.map fun x => x.1.length + 1).sum + fin.length = n) : 0 + (sg.map fun x => x.1.length + 1).sum + fin.length = n := by omega

/-- Q, but 'False' at a panic. -/
def NoPan (Q : Exit → Act → World → Prop) : Exit → Act → World → Prop
  | .panic _, _, _ => False
  | e, a, w => Q e a w
theorem NoPan.imp {Q : Exit → Act → World → Prop} : ∀ (e : Exit) (a : Act) (w : World), NoPan Q e a w → Q e a w := fun e a w h => by
  cases e <;> first | exact h | exact (h : False).elim

theorem wpSegs_nil {P : Program} {l : List Oper} {Q : Exit → Act → World → Prop} {S : World → Prop} {fin : List Nat} {a : Act} {w : World}
    (h : wpQuiet P l.toArray S (fun a' => Q .normal a' w) (getOps l fin) a) : wpSegs P l (NoPan Q) S [] fin a w := h

/-- A region by a schedule. -/
theorem wp_region_segs {P : Program} {id : Nat} {Q : Exit → Act → World → Prop} {a : Act} {w : World} {l : List Oper} (S : World → Prop) (sg : List (List Nat × Nat)) (fin : List Nat) (hm : P.follows .mixedOrders = true)
    (hs : Region.noSelect l.toArray = true) (hB : segsB .any l.toArray sg fin (Array.replicate l.toArray.size false) = true) (hn : (sg.map fun x => x.1.length + 1).sum + fin.length = l.toArray.size)
    (hS : S w.drew)
    (h : wpSegs P l (NoPan Q) S sg fin a w.drew) : (Code.region id l.toArray true).wp P Q a w := by
  refine Code.wp_mono NoPan.imp (wp_region_held (S := S) hm ?_)
  have := segs_all (md := .any) (P := P) (S := S) (Q := NoPan Q) hs (fun _ _ _ _ _ h => h) l rfl fin sg (Array.replicate l.toArray.size false) a w.drew 0 hB hS h
  rw [Nat.zero_add, hn] at this
  exact this

/-- A plan of a region: what only reads, then one act, or one of two. -/
inductive STree where
  | fin (qs : List Nat)
  | one (qs : List Nat) (i : Nat) (t : STree)
  | two (qs : List Nat) (i j : Nat) (t u : STree)

def STree.len : STree → Nat
  | .fin qs => qs.length
  | .one qs _ t => t.len + 1 + qs.length
  | .two qs _ _ t _ => t.len + 1 + qs.length

def wpTree (P : Program) (l : List Oper) (Q : Exit → Act → World → Prop) (S : World → Prop) : STree → Act → World → Prop
  | .fin qs, a, w => wpQuiet P l.toArray S (fun a' => Q .normal a' w) (getOps l qs) a
  | .one qs i t, a, w => wpQuiet P l.toArray S (fun a' => wpList P l.toArray (segQ Q fun a2 w2 => S w2 ∧ wpTree P l Q S t a2 w2) (getOps l [i]) a' w) (getOps l qs) a
  | .two qs i j t u, a, w => wpQuiet P l.toArray S (fun a' => wpList P l.toArray (segQ Q fun a2 w2 => S w2 ∧ wpTree P l Q S t a2 w2) (getOps l [i]) a' w ∧ wpList P l.toArray (segQ Q fun a2 w2 => S w2 ∧ wpTree P l Q S u a2 w2) (getOps l [j]) a' w) (getOps l qs) a

def treeB (md : Region.Mode) (ops : Array Oper) : STree → Array Bool → Bool
  | .fin qs, listed => match quietB md ops qs listed with
    | some l' => (Region.ready md ops l').isEmpty
    | none => false
  | .one qs i t, listed => match quietB md ops qs listed with
    | some l' => decide (Region.ready md ops l' = [i]) && treeB md ops t (l'.setIfInBounds i true)
    | none => false
  | .two qs i j t u, listed => match quietB md ops qs listed with
    | some l' => decide (Region.ready md ops l' = [i, j]) && decide (t.len = u.len) && treeB md ops t (l'.setIfInBounds i true) && treeB md ops u (l'.setIfInBounds j true)
    | none => false

theorem wpTree_one {P : Program} {l : List Oper} {Q : Exit → Act → World → Prop} {S : World → Prop} {qs : List Nat} {i : Nat} {t : STree} {a : Act} {w : World}
    (h : wpQuiet P l.toArray S (fun a' => wpList P l.toArray (segQ Q fun a2 w2 => S w2 ∧ wpTree P l Q S t a2 w2) (getOps l [i]) a' w) (getOps l qs) a) : wpTree P l Q S (.one qs i t) a w := h
theorem wpTree_two {P : Program} {l : List Oper} {Q : Exit → Act → World → Prop} {S : World → Prop} {qs : List Nat} {i j : Nat} {t u : STree} {a : Act} {w : World}
    (h : wpQuiet P l.toArray S (fun a' => wpList P l.toArray (segQ Q fun a2 w2 => S w2 ∧ wpTree P l Q S t a2 w2) (getOps l [i]) a' w ∧ wpList P l.toArray (segQ Q fun a2 w2 => S w2 ∧ wpTree P l Q S u a2 w2) (getOps l [j]) a' w) (getOps l qs) a) : wpTree P l Q S (.two qs i j t u) a w := h
theorem wpTree_fin {P : Program} {l : List Oper} {Q : Exit → Act → World → Prop} {S : World → Prop} {qs : List Nat} {a : Act} {w : World}
    (h : wpQuiet P l.toArray S (fun a' => Q .normal a' w) (getOps l qs) a) : wpTree P l (NoPan Q) S (.fin qs) a w := h

section
variable {P : Program} {ops : Array Oper} {md : Region.Mode} {S : World → Prop} {Q : Exit → Act → World → Prop}
theorem wpOp_ready {l : List Oper} (hl : l.toArray = ops) {l' : Array Bool} {i : Nat} {a : Act} {w : World} {K : Act → World → Prop} (hi : i ∈ Region.ready md ops l')
    (ha : wpList P l.toArray (segQ Q K) (getOps l [i]) a w) : wpOp P ops Q i K a w := by
  obtain ⟨_, o, ho, _⟩ := mem_ready.1 hi
  have hlo : l[i]? = some o := by rw [← hl] at ho; simpa using ho
  have hg : getOps l [i] = [o] := by unfold getOps; rw [List.filterMap_cons, hlo]; rfl
  rw [hg, hl] at ha
  exact wpOp_of_list ho ha

theorem tree_all (hs : Region.noSelect ops = true) (hQ : ∀ c a d v w, Q (.panic c) (Act.put a d v) w → Q (.panic c) a w) (l : List Oper) (hl : l.toArray = ops) :
    ∀ (t : STree) (listed : Array Bool) (a : Act) (w : World) (f : Nat), treeB md ops t listed = true → S w → wpTree P l Q S t a w → wpAnyH P md ops Q S (f + t.len) listed a w
  | .fin qs, listed, a, w, f, hB, hS, h => by
    unfold treeB at hB
    cases hq : quietB md ops qs listed with
    | none => rw [hq] at hB; cases hB
    | some l' =>
      rw [hq] at hB
      unfold wpTree at h
      rw [hl] at h
      exact segs_quiet hs hQ hS l hl qs listed l' a f hq h (fun a' ha => wpAnyH_done (by simpa using hB) ha f)
  | .one qs i t, listed, a, w, f, hB, hS, h => by
    unfold treeB at hB
    cases hq : quietB md ops qs listed with
    | none => rw [hq] at hB; cases hB
    | some l' =>
      rw [hq] at hB
      simp only [Bool.and_eq_true, decide_eq_true_eq] at hB
      obtain ⟨hr, hB2⟩ := hB
      unfold wpTree at h
      rw [hl] at h
      have e : f + (STree.one qs i t).len = (f + t.len + 1) + qs.length := by show f + (t.len + 1 + qs.length) = _; omega
      rw [e]
      refine segs_quiet hs hQ hS l hl qs listed l' a _ hq h (fun a' ha => ?_)
      refine wpAnyH_all hr (by simp) (fun j hj => ?_)
      have hji : j = i := by simpa using hj
      subst hji
      rw [← hl] at ha
      exact wpOp_mono (fun a2 w2 h2 => ⟨h2.1, tree_all hs hQ l hl t _ a2 w2 f hB2 h2.1 h2.2⟩) (wpOp_ready hl (md := md) (l' := l') (by rw [hr]; simp) ha)
  | .two qs i j t u, listed, a, w, f, hB, hS, h => by
    unfold treeB at hB
    cases hq : quietB md ops qs listed with
    | none => rw [hq] at hB; cases hB
    | some l' =>
      rw [hq] at hB
      simp only [Bool.and_eq_true, decide_eq_true_eq] at hB
      obtain ⟨⟨⟨hr, hn⟩, hB2⟩, hB3⟩ := hB
      unfold wpTree at h
      rw [hl] at h
      have e : f + (STree.two qs i j t u).len = (f + t.len + 1) + qs.length := by show f + (t.len + 1 + qs.length) = _; omega
      rw [e]
      refine segs_quiet hs hQ hS l hl qs listed l' a _ hq h (fun a' ha => ?_)
      refine wpAnyH_all hr (by simp) (fun k hk => ?_)
      rw [← hl] at ha
      have hk2 : k = i ∨ k = j := by simpa using hk
      rcases hk2 with rfl | rfl
      · exact wpOp_mono (fun a2 w2 h2 => ⟨h2.1, tree_all hs hQ l hl t _ a2 w2 f hB2 h2.1 h2.2⟩) (wpOp_ready hl (md := md) (l' := l') (by rw [hr]; simp) ha.1)
      · rw [hn]
        exact wpOp_mono (fun a2 w2 h2 => ⟨h2.1, tree_all hs hQ l hl u _ a2 w2 f hB3 h2.1 h2.2⟩) (wpOp_ready hl (md := md) (l' := l') (by rw [hr]; simp) ha.2)
end

/-- A region by a plan. -/
theorem wp_region_tree {P : Program} {id : Nat} {Q : Exit → Act → World → Prop} {a : Act} {w : World} {l : List Oper} (S : World → Prop) (t : STree) (hm : P.follows .mixedOrders = true)
    (hs : Region.noSelect l.toArray = true) (hB : treeB .any l.toArray t (Array.replicate l.toArray.size false) = true) (hn : t.len = l.toArray.size)
    (hS : S w.drew) (h : wpTree P l (NoPan Q) S t a w.drew) : (Code.region id l.toArray true).wp P Q a w := by
  refine Code.wp_mono NoPan.imp (wp_region_held (S := S) hm ?_)
  have := tree_all (md := .any) (P := P) (S := S) (Q := NoPan Q) hs (fun _ _ _ _ _ h => h) l rfl t (Array.replicate l.toArray.size false) a w.drew 0 hB hS h
  rw [Nat.zero_add, hn] at this
  exact this

theorem exit_forget {Q : Exit → Act → World → Prop} {x : Exit} {a : Act} {w : World} (R : World → Prop) (h : R w) (h2 : ∀ W, R W → Q x a W) : Q x a w := h2 w h

/-- A later world: of what was there only the blocks in X may have turned. -/
structure ExcP (W : World) (X : Nat → Bool) where
  d : Nat
  heap : Array Obj
  size : W.heap.size ≤ heap.size
  block : ∀ k, k < W.heap.size → X k = false → heap[k]? = W.heap[k]?
def ExcP.w {W : World} {X : Nat → Bool} (p : ExcP W X) : World := { W with drawn := p.d, heap := p.heap }
instance (W : World) (X : Nat → Bool) : Inhabited (ExcP W X) := ⟨⟨0, W.heap, Nat.le_refl _, fun _ _ _ => rfl⟩⟩
abbrev Exc (W : World) (X : Nat → Bool) : World → Prop := fun w' => ∃ p : ExcP W X, w' = p.w

theorem exc_of {W w' : World} {X : Nat → Bool} (h1 : w'.os = W.os) (h2 : w'.tape = W.tape) (h3 : w'.output = W.output) (h4 : W.heap.size ≤ w'.heap.size) (h5 : ∀ k, k < W.heap.size → X k = false → w'.heap[k]? = W.heap[k]?) : Exc W X w' := by
  refine ⟨⟨w'.drawn, w'.heap, h4, h5⟩, ?_⟩
  obtain ⟨heap', tape', drawn', os', output'⟩ := w'
  simp only at h1 h2 h3
  subst h1 h2 h3
  rfl

/-- The blocks from B on may have turned. -/
def fromB (B : Nat) : Nat → Bool := fun k => decide (B ≤ k)
theorem exc_below {B : Nat} {W w' : World} (h : Below B W w') : Exc W (fromB B) w' :=
  exc_of h.os h.tape h.output h.size fun k _ hk => h.block k (by unfold fromB at hk; simpa using hk)
theorem exc_cell {W : World} {B : Nat} {a : Addr} {v : Value} (h : W.cell? a = some v) (hB : a.block < B) : ∀ p : ExcP W (fromB B), p.w.cell? a = some v := fun p => by
  rw [World.cell?_of_block (w := W) (p.block a.block (block_lt_of_cell h) (by unfold fromB; simpa using hB))]; exact h
end Go.Proofs.Ins

set_option linter.unusedSimpArgs false
set_option linter.unusedVariables false
namespace Go.Proofs.Ins
open Go.RowKit

/-- A slice of structs, handed back. -/
def RetS (w : World) (n sz : Nat) (F : Nat → List Value) (e : Ending) (w' : World) : Prop :=
  ∃ a cap, e = .returned (.slice a n cap) ∧ n ≤ cap ∧ cap ≤ 9223372036854775807 ∧ SArg w' a n sz F ∧ Below w.heap.size w w'

theorem ratInfo : (Tryz.prog.info? 44).map (fun i => (i.zero.map (fun z => z.cells.size), i.size, i.bytes)) = some (some 3, 3, 40) := by kernel_rfl


/-- A slice of the call's own, handed back. -/
def RetO (w : World) (T : TypeId) (n sz : Nat) (F : Nat → List Value) (e : Ending) (w' : World) : Prop :=
  ∃ v, e = .returned v ∧ SOwn w' w.heap.size T sz v n F ∧ Below w.heap.size w w'
def c16 (L : Nat → Nat) (i : Nat) : List Value := [.int .u16 (L i : Int)]


/-- The number that values gives at i. -/
def valR (L : Nat → Nat) (n i : Nat) : R3 := if i < n then ofQ (amt (L i)) else default
def lenOf : Value → Nat
  | .slice _ n _ => n
  | _ => 0

end Go.Proofs.Ins

set_option linter.unusedSimpArgs false
set_option linter.unusedVariables false
namespace Go.Proofs.Ins
open Go.RowKit

/-- A voter as one value. -/
def V8.v (v : V8) : Value := .agg #[.int .i64 v.p, .bool v.a.n, .string v.a.s, .string v.a.d, .bool v.k.n, .string v.k.s, .string v.k.d, .bool v.x]
def V8.fits (v : V8) (k : Nat) : Prop := v.a.fits k ∧ v.k.fits k
/-- One of a voter's numbers lies below 0. -/
def negV (v : V8) : Bool := decide (sg v.a.q < 0) || decide (sg v.k.q < 0)
def negR (r : R3) : Bool := decide (sg r.q < 0)

theorem sign_r3 (r : R3) (w : World) (h : r.fits 268435456) :
    Calls Tryz.prog 71 #[.agg #[.bool r.n, .string r.s, .string r.d]] w fun e w' => e = .returned (.int .i64 (sg r.q)) ∧ Below w.heap.size w w' := sign_rat r.n r.s r.d w h.1 h.2



/-- For one below n, as a truth value. -/
def anyB (p : Nat → Bool) (n : Nat) : Bool := (List.range n).any p
theorem anyB_false {p : Nat → Bool} {n : Nat} (h : ∀ i, i < n → p i = false) : anyB p n = false := by
  unfold anyB; rw [List.any_eq_false]; intro x hx; rw [h x (by simpa using hx)]; simp
theorem anyB_true {p : Nat → Bool} {n i : Nat} (hi : i < n) (h : p i = true) : anyB p n = true := by
  unfold anyB; rw [List.any_eq_true]; exact ⟨i, by simpa using hi, h⟩
theorem anyB_get {p : Nat → Bool} {n : Nat} (h : anyB p n = false) : ∀ i, i < n → p i = false := by
  unfold anyB at h; rw [List.any_eq_false] at h; intro i hi; have := h i (by simpa using hi); simpa using this
/-- What an index search hands back. -/
def RetIx (w : World) (b : Bool) (e : Ending) (w' : World) : Prop := ∃ i : Int, e = .returned (.int .i64 i) ∧ decide (0 ≤ i) = b ∧ Below w.heap.size w w'


/-- What a check of voters and amounts says. -/
def chk (n m : Nat) (V : Nat → V8) (Q : Nat → R3) : Int := if 64 < n then 2 else if m ≠ n then 4 else if (anyB (fun i => negV (V i)) n || anyB (fun i => negR (Q i)) m) = true then 7 else 0


/-- The least share of one voter. -/
def leastR (v : V8) (x : R3) : R3 := if x.q = 0 then ofQ 0 else if v.a.q = 0 then v.k else ofQ (minR (x.q / v.a.q) v.k.q)
theorem sg_eq_zero {q : Rat} : sg q = 0 ↔ q = 0 := by
  unfold sg; by_cases h : q = 0
  · simp [h]
  · rw [if_neg h]; by_cases h2 : q < 0
    · rw [if_pos h2]; simp [h]
    · rw [if_neg h2]; simp [h]

end Go.Proofs.Ins

set_option linter.unusedSimpArgs false
set_option linter.unusedVariables false
namespace Go.Proofs.Ins
open Go.RowKit

theorem rsign_r3 (r : R3) (w : World) (h : r.fits 134217728) :
    Calls Tryz.prog 31 #[.agg #[.bool r.n, .string r.s, .string r.d]] w fun e w' => e = .returned (.int .i64 (sg r.q)) ∧ Below w.heap.size w w' := rsign_any r.n r.s r.d w h.1 h.2

theorem chk_long {n m : Nat} {V : Nat → V8} {A : Nat → R3} (h : 64 < n) : chk n m V A = 2 := by unfold chk; rw [if_pos h]
theorem chk_len {n m : Nat} {V : Nat → V8} {A : Nat → R3} (h : ¬ 64 < n) (h2 : m ≠ n) : chk n m V A = 4 := by unfold chk; rw [if_neg h, if_pos h2]
theorem chk_ok {n : Nat} {V : Nat → V8} {A : Nat → R3} (h : ¬ 64 < n) (h1 : ∀ i, i < n → negV (V i) = false) (h2 : ∀ i, i < n → negR (A i) = false) : chk n n V A = 0 := by
  unfold chk; rw [if_neg h, if_neg (by omega), anyB_false h1, anyB_false h2]; rfl
theorem chk_bad {n i : Nat} {V : Nat → V8} {A : Nat → R3} (h : ¬ 64 < n) (hi : i < n) (h1 : (negV (V i) || negR (A i)) = true) : chk n n V A = 7 := by
  unfold chk; rw [if_neg h, if_neg (by omega)]
  have : (anyB (fun i => negV (V i)) n || anyB (fun i => negR (A i)) n) = true := by
    rcases Bool.or_eq_true _ _ |>.mp h1 with h | h
    · rw [anyB_true hi h]; rfl
    · rw [anyB_true (p := fun i => negR (A i)) hi h]; simp
  rw [if_pos this]

end Go.Proofs.Ins

set_option linter.unusedSimpArgs false
set_option linter.unusedVariables false
namespace Go.Proofs.Ins
open Go.RowKit

/-- A fact about one kind of element, for each of the first k. -/
theorem all_next {p : Nat → Prop} {k : Nat} (h : ∀ i, i < k → p i) (h2 : p k) : ∀ i, i < k + 1 → p i := fun i hi => by
  by_cases e : i = k
  · rw [e]; exact h2
  · exact h i (by omega)
theorem memT_false {t : Tier} {c : Int} (h : ∀ i, i < t.length → (ix t i).k ≠ c) : memT t c = false := Bool.eq_false_iff.mpr fun h2 => by
  obtain ⟨i, hi, e⟩ := memT_ix.mp h2
  exact h i hi e
theorem memA_false {t : Agr} {c : Int} (h : ∀ i, i < t.length → memT (ix t i) c = false) : memA t c = false := Bool.eq_false_iff.mpr fun h2 => by
  obtain ⟨i, hi, e⟩ := memA_ix.mp h2
  rw [h i hi] at e; cases e
/-- The cells of a part, a claim, a leg. -/
theorem Sl.cellAt {w w' : World} {p : Nat → Prop} {sz n : Nat} {a : Option Addr} {cap : Nat} {G : Nat → List Value} (h : Sl w p sz (.slice a n cap) n G) {b off : Nat} (ha : a = some ⟨b, off, none⟩) (k : Below w.heap.size w w') {i j : Nat} (hi : i < n) (hj : j < sz) :
    w'.cell? ⟨b, off + i * sz + j, none⟩ = (G i)[j]? := by
  obtain ⟨b', off', ha', -, hl, hr⟩ := h.get (by omega)
  rw [ha] at ha'
  simp only [Option.some.injEq, Addr.mk.injEq, and_true] at ha'
  obtain ⟨rfl, rfl⟩ := ha'
  exact (hr.below k hl) i j hi hj

set_option maxRecDepth 100000 in
set_option maxHeartbeats 1600000 in
theorem member_any (p : Nat → Prop) (v : Value) (a : Agr) (c : Int) (w : World) (hA : RTiers w p v a) (la : a.length ≤ 140737488351232) (lp : ∀ i, i < a.length → (ix a i).length ≤ 140737488351232) :
    Calls Tryz.prog 126 #[.agg #[v], .int .i64 c] w fun e w' => e = .returned (.bool (memA a c)) ∧ Below w.heap.size w w' := by
  obtain ⟨G, hS, hQ⟩ := hA
  obtain ⟨aa, cap, rfl, -, -⟩ := hS.form
  have HYES := Lib.hid (fun i (h : i < a.length) (h2 : memT (ix a i) c = true) => memA_ix.mpr ⟨i, h, h2⟩)
  have HNO := Lib.hid (fun h => memA_false (t := a) (c := c) h)
  have HS := Lib.hid hS
  have HQ := Lib.hid hQ
  have HLP := Lib.hid lp
  generalize hT : memA a c = T at *
  clear hT hS hQ lp
  generalize hn : a.length = n at *
  go_enter Tryz.func126, Tryz.ntmps126
  go_wp2_with fail
  refine wp_forget (fun W => Blk W w.heap.size #[.slice aa n cap] ∧ Below w.heap.size w W) ⟨Blk.new _ _ _, (Below.refl _ _).alloc (Nat.le_refl _) _⟩ ?_
  rintro W ⟨hb0, hbel⟩
  have k0 : W.cell? ⟨w.heap.size, 0, none⟩ = some (.slice aa n cap) := hb0.cell 0
  have HB := Lib.hid hbel
  clear hbel hb0
  go_loopw [5, 6] (fun i _ wr => ∃ k : Nat, i = .int .i64 k ∧ k ≤ n ∧ wr = W ∧ Hid (∀ i, i < k → memT (ix a i) c = false)) (fun i _ _ => n - (intOf i).toNat)
  case atStart => exact ⟨0, rfl, by omega, rfl, fun i hi => by omega⟩
  case round =>
    obtain ⟨k, rfl, hk, rfl, hs⟩ := hrel
    by_cases hlt : k < n
    · obtain ⟨b, off, rfl, -, -, -⟩ := HS.out.get (by omega)
      have c0 := HS.out.cellAt rfl HB.out (i := k) (j := 0) hlt (by omega)
      obtain ⟨v2, hG, hR⟩ := HQ.out k hlt
      obtain ⟨a2, cap2, rfl, -, -⟩ := hR.plain.form
      rw [hG, Nat.mul_one, Nat.add_zero] at c0
      have c1 : wr.cell? ⟨b, off + k, none⟩ = some (.slice a2 (ix a k).length cap2) := c0
      have l2 := HLP.out k hlt
      have HP := Lib.hid hR.plain
      have HY2 := Lib.hid (fun j (h : j < (ix a k).length) (h2 : (ix (ix a k) j).k = c) => HYES.out k hlt (memT_ix.mpr ⟨j, h, h2⟩))
      have HN2 := Lib.hid (fun h => memT_false (t := ix a k) (c := c) h)
      have i1 : (0 : Int) ≤ (k : Int) := by omega
      have i2 : (k : Int) < (n : Int) := by omega
      have HSN := Lib.hid (fun h => all_next (p := fun i => memT (ix a i) c = false) hs.out h)
      clear c0 hR hG hs
      generalize hT2 : memT (ix a k) c = T2 at *
      generalize hn2 : (ix a k).length = n2 at *
      generalize hak : ix a k = ak at *
      clear hT2 hak
      go_wp2_with fail
      go_loopw [6] (fun i wr' => ∃ j : Nat, i = .int .i64 j ∧ j ≤ n2 ∧ wr' = wr ∧ Hid (∀ i, i < j → (ix ak i).k ≠ c)) (fun i _ => n2 - (intOf i).toNat)
      case atStart => exact ⟨0, rfl, by omega, rfl, fun i hi => by omega⟩
      case round =>
        obtain ⟨j, rfl, hj, rfl, hs2⟩ := hrel
        by_cases hlj : j < n2
        · obtain ⟨b2, off2, rfl, -, -, -⟩ := HP.out.get (by omega)
          have d0 := HP.out.cellAt rfl HB.out (i := j) (j := 0) hlj (by omega)
          rw [Nat.add_zero] at d0
          have d1 := (show _ = some (Value.int .i64 (ix ak j).k) from d0)
          have j1 : (0 : Int) ≤ (j : Int) := by omega
          have j2 : (j : Int) < (n2 : Int) := by omega
          have HYJ := Lib.hid (HY2.out j hlj)
          have HSJ := Lib.hid (fun h => all_next (p := fun i => (ix ak i).k ≠ c) hs2.out h)
          clear d0 hs2
          generalize (ix ak j).k = x at *
          by_cases hx : x = c
          · subst hx
            have HR := Lib.hid (HYJ.out rfl)
            go_wp2
            go_ret
            exact ⟨ret_bool HR.out.symm, HB.out⟩
          · have hx2 : (x == c) = false := by simp [hx]
            have HSK := Lib.hid (HSJ.out hx)
            go_wp2
            go_roundw
            case rel => exact ⟨j + 1, by go_num, by omega, by simp, HSK.out⟩
            case measure => simp [intOf]; omega
        · obtain rfl : j = n2 := by omega
          have HZ := Lib.hid (HSN.out (HN2.out hs2.out))
          have hnl : decide ((j : Int) < (j : Int)) = false := by simp
          go_wp2
          go_roundw
          case rel => exact ⟨k + 1, by go_num, by omega, by simp, HZ.out⟩
          case measure => simp [intOf]; omega
    · obtain rfl : k = n := by omega
      have HZ := Lib.hid (HNO.out hs.out)
      have hnl : decide ((k : Int) < (k : Int)) = false := by simp
      go_wp2
      go_ret
      exact ⟨ret_bool HZ.out.symm, HB.out⟩
end Go.Proofs.Ins

set_option linter.unusedSimpArgs false
set_option linter.unusedVariables false
namespace Go.Proofs.Ins
open Go.RowKit

theorem Blk.c5 {w : World} {b : Nat} {v0 v1 v2 v3 v4 : Value} (h : Blk w b #[v0, v1, v2, v3, v4]) :
    w.cell? ⟨b, 0, none⟩ = some v0 ∧ w.cell? ⟨b, 1, none⟩ = some v1 ∧ w.cell? ⟨b, 2, none⟩ = some v2 ∧ w.cell? ⟨b, 3, none⟩ = some v3 ∧ w.cell? ⟨b, 4, none⟩ = some v4 :=
  ⟨h.cell 0, h.cell 1, h.cell 2, h.cell 3, h.cell 4⟩
/-- An estate as one value. -/
def Est.v (e : Est) (cv av : Value) : Value := .agg #[.bool e.m.n, .string e.m.s, .string e.m.d, cv, av]

set_option maxRecDepth 100000 in
set_option maxHeartbeats 1600000 in
theorem earlier_any (p : Nat → Prop) (x0 x1 x2 cv av : Value) (l : List Agr) (k : Nat) (c : Int) (w : World) (hA : RAgrs w p av l) (hk : k ≤ l.length) (lt : ∀ i, i < l.length → (ix l i).length ≤ 140737488351232) (lp : ∀ i j, i < l.length → j < (ix l i).length → (ix (ix l i) j).length ≤ 140737488351232) (hl : l.length ≤ 140737488351232) :
    Calls Tryz.prog 68 #[.agg #[x0, x1, x2, cv, av], .int .i64 (k : Int), .int .i64 c] w fun e w' => e = .returned (.bool (earA l k c)) ∧ Below w.heap.size w w' := by
  obtain ⟨G, hS, hQ⟩ := hA
  obtain ⟨aa, cap, rfl, -, -⟩ := hS.form
  have HS := Lib.hid hS
  have HQ := Lib.hid hQ
  have HM := Lib.hid (fun i (h : i < l.length) v w (hR : RTiers w p v (ix l i)) => member_any p v (ix l i) c w hR (lt i h) (lp i · h))
  have HE := Lib.hid (fun i (h : i < l.length) => earA_succ h c)
  have HZ := Lib.hid (earA_zero l c)
  have HYES := Lib.hid (fun i (h : i < k) (h2 : memA (ix l i) c = true) => (show earA l k c = true by
    unfold earA; rw [List.any_eq_true]; refine ⟨_, ?_, h2⟩; rw [← ix_take h]; exact ix_mem (by rw [List.length_take]; omega)))
  clear hS hQ lt lp
  generalize hT : earA l k c = T at *
  have HT := Lib.hid hT
  generalize hmm : (fun i => memA (ix l i) c) = MM at *
  have HMM := Lib.hid hmm
  clear hT hmm
  generalize hn : l.length = n at *
  go_enter Tryz.func68, Tryz.ntmps68
  go_wp2_with fail
  refine wp_forget (fun W => Blk W w.heap.size #[x0, x1, x2, cv, .slice aa n cap] ∧ Below w.heap.size w W) ⟨Blk.new _ _ _, (Below.refl _ _).alloc (Nat.le_refl _) _⟩ ?_
  rintro W ⟨hb0, hbel⟩
  have J := Lib.hid hb0
  have HB := Lib.hid hbel
  clear hbel hb0
  go_loopw [7] (fun i wr => ∃ j : Nat, i = .int .i64 j ∧ j ≤ k ∧ Blk wr w.heap.size #[x0, x1, x2, cv, .slice aa n cap] ∧ Below w.heap.size w wr ∧ Hid (earA l j c = false)) (fun i _ => k - (intOf i).toNat)
  case atStart => exact ⟨0, rfl, by omega, J.out, HB.out, HZ.out⟩
  case round =>
    obtain ⟨j, rfl, hj, J, hbel, hs⟩ := hrel
    have J := Lib.hid J
    have HB := Lib.hid hbel
    by_cases hlt : j < k
    · obtain ⟨b, off, rfl, -, -, -⟩ := HS.out.get (by omega)
      have c0 := HS.out.cellAt rfl HB.out (i := j) (j := 0) (by omega) (by omega)
      obtain ⟨v2, hG, hR⟩ := HQ.out j (by omega)
      rw [hG, Nat.mul_one, Nat.add_zero] at c0
      have c1 : wr.cell? ⟨b, off + j, none⟩ = some v2 := c0
      have HC := Lib.hid (HM.out j (by omega) v2 wr (hR.on HB.out))
      have HEJ := Lib.hid (HE.out j (by omega))
      have HYJ := Lib.hid (HYES.out j hlt)
      obtain ⟨-, -, -, -, k4⟩ := J.out.c5
      have i1 : (0 : Int) ≤ (j : Int) := by omega
      have i2 : (j : Int) < (k : Int) := by omega
      have i3 : (j : Int) < (n : Int) := by omega
      clear c0 hG hR HM HYES HE HQ
      generalize memA (ix l j) c = mb at *
      go_wp2_with fail
      refine HC.out.mono ?_; rintro e w3 ⟨rfl, hb3⟩
      have J := Lib.hid (J.out.on hb3)
      have HB := Lib.hid (chain HB.out hb3 (Nat.le_refl _))
      clear hb3
      cases mb
      · have HF := Lib.hid (show earA l (j + 1) c = false by rw [HEJ.out, hs.out]; rfl)
        clear k4 c1
        go_wp2
        go_roundw
        case rel => exact ⟨j + 1, by go_num, by omega, J.out, HB.out, HF.out⟩
        case measure => simp [intOf]; omega
      · have HR := Lib.hid (HYJ.out rfl)
        clear k4 c1
        go_wp2
        go_ret
        exact ⟨ret_bool HR.out.symm, HB.out⟩
    · obtain rfl : j = k := by omega
      have HR := Lib.hid (show T = false by rw [← HT.out]; exact hs.out)
      have hnl : decide ((j : Int) < (j : Int)) = false := by simp
      go_wp2
      go_ret
      exact ⟨ret_bool HR.out.symm, HB.out⟩
end Go.Proofs.Ins
