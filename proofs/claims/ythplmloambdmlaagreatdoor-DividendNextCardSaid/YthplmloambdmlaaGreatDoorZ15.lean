/- What each law's row wants of its walk. -/
import Derived.Test.YthplmloambdmlaaGreatDoorZ14
import Derived.Test.YthplmloambdmlaaGreatDoorZ4
import Derived.Test.YthplmloambdmlaaGreatDoorZ2
import Derived.OrdersHeld
import Derived.LaidMore
import Derived.Stop.Joined
import Derived.Test.YthplmloambdmlaaGreatDoorCards
import Derived.Test.YthplmloambdmlaaGreatDoorTie
import Derived.Lay
import Derived.SevenTiedAt

set_option linter.unusedSimpArgs false
set_option linter.unusedVariables false
namespace Go.Proofs.Ins
open Go.RowKit

def smallB (r : R3) : Bool := decide (r.s.size ≤ 24 ∧ r.d.size ≤ 24)
/-- What FewRats says. -/
def fewR (m n : Nat) (Q : Nat → R3) : Bool := decide (n ≤ m) && allB (fun i => smallB (Q i)) n
theorem fewR_long {m n : Nat} {Q : Nat → R3} (h : m < n) : fewR m n Q = false := by unfold fewR; rw [decide_eq_false (by omega)]; rfl
theorem fewR_false {m n i : Nat} {Q : Nat → R3} (hi : i < n) (h : smallB (Q i) = false) : fewR m n Q = false := by unfold fewR; rw [allB_false hi h, Bool.and_false]
theorem fewR_true {m n : Nat} {Q : Nat → R3} (h : n ≤ m) (h2 : ∀ i, i < n → smallB (Q i) = true) : fewR m n Q = true := by unfold fewR; rw [allB_true h2, decide_eq_true h]; rfl

theorem few_r3 (r : R3) (w : World) (h : r.fits 140737488351232) :
    Calls Tryz.prog 86 #[.agg #[.bool r.n, .string r.s, .string r.d]] w fun e w' => e = .returned (.bool (smallB r)) ∧ Below w.heap.size w w' := few_any r.n r.s r.d w h.1 h.2

set_option maxRecDepth 100000 in
set_option maxHeartbeats 800000 in
theorem fewRats_any (a : Option Addr) (n cap m : Nat) (Q : Nat → R3) (w : World) (hA : SArg w a n 3 fun i => (Q i).c) (hQ : ∀ i, i < n → (Q i).fits 140737488351232) (hn : n ≤ 140737488351232) (hm : m ≤ 1000000) :
    Calls Tryz.prog 43 #[.slice a n cap, .int .i64 (m : Int)] w fun e w' => e = .returned (.bool (fewR m n Q)) ∧ Below w.heap.size w w' := by
  have HQ := Lib.hid hQ
  have HA := Lib.hid hA
  clear hA hQ
  by_cases hlm : m < n
  · have HF := Lib.hid (fewR_long (Q := Q) hlm)
    go_enter Tryz.func43, Tryz.ntmps43
    go_wp2
    go_ret
    exact ⟨ret_bool HF.out.symm, Below.refl _ _⟩
  · have hlm2 : decide (m < n) = false := by simp; omega
    have HE := Lib.hid (fun h2 => fewR_true (m := m) (n := n) (Q := Q) (by omega) h2)
    have HX := Lib.hid (fun i hi h => fewR_false (m := m) (n := n) (i := i) (Q := Q) hi h)
    go_enter Tryz.func43, Tryz.ntmps43
    go_wp2
    go_loopw [13] (fun i wr => ∃ k : Nat, i = .int .i64 k ∧ k ≤ n ∧ Hid (∀ i, i < k → smallB (Q i) = true) ∧ Below w.heap.size w wr) (fun i _ => n - (intOf i).toNat)
    case atStart => exact ⟨0, rfl, by omega, fun i hi => by omega, Below.refl _ _⟩
    case round =>
      obtain ⟨k, rfl, hk, hs, hbel⟩ := hrel
      by_cases hlt : k < n
      · rcases HA.out with h0 | ⟨b, off, rfl, hb, hr⟩
        · omega
        obtain ⟨c0, c1, c2⟩ := (hr.below hbel hb).r3 hlt
        have HC := Lib.hid (fun w => few_r3 (Q k) w (HQ.out k hlt))
        have HB := Lib.hid hbel
        have hsz := hbel.size
        have HXK := Lib.hid (HX.out k hlt)
        have hsn : (∀ i, i < k → smallB (Q i) = true) → smallB (Q k) = true → ∀ i, i < k + 1 → smallB (Q i) = true := fun h1 h2 i hi => by
          by_cases e : i = k
          · rw [e]; exact h2
          · exact h1 i (by omega)
        have HSN := Lib.hid (hsn hs.out)
        generalize smallB (Q k) = sb at *
        generalize hr3 : Q k = r at *
        obtain ⟨rn', rs', rd'⟩ := r
        have HR := Lib.hid hr3
        clear hr hbel hr3 hsn
        go_wp2_with fail
        refine (HC.out _).mono ?_; rintro e w3 ⟨rfl, hb3⟩
        have HB3 := Lib.hid (chain HB.out (boxes1 hb3).2 (by omega))
        clear hb3
        cases sb
        · go_wp2
          go_ret
          exact ⟨ret_bool (HXK.out (by first | rfl | trivial)).symm, HB3.out⟩
        · go_wp2
          go_roundw
          case rel => exact ⟨k + 1, by go_num, by omega, HSN.out (by first | rfl | trivial), HB3.out⟩
          case measure => simp [intOf]; omega
      · obtain rfl : k = n := by omega
        have HF := Lib.hid (HE.out hs.out)
        clear HX HE
        go_wp2
        go_ret
        exact ⟨ret_bool HF.out.symm, hbel⟩

/-- Whether the two numbers of a voter are short. -/
def fewV (v : V8) : Bool := smallB v.a && smallB v.k
/-- What few says. -/
def fewL (n m : Nat) (V : Nat → V8) (Q : Nat → R3) : Bool := decide (n ≤ 10) && fewR 10 m Q && allB (fun i => fewV (V i)) n
theorem fewL_long {n m : Nat} {V : Nat → V8} {Q : Nat → R3} (h : 10 < n) : fewL n m V Q = false := by unfold fewL; rw [decide_eq_false (by omega)]; rfl
theorem fewL_rats {n m : Nat} {V : Nat → V8} {Q : Nat → R3} (h : fewR 10 m Q = false) : fewL n m V Q = false := by unfold fewL; rw [h, Bool.and_false]; rfl
theorem fewL_false {n m i : Nat} {V : Nat → V8} {Q : Nat → R3} (hi : i < n) (h : fewV (V i) = false) : fewL n m V Q = false := by unfold fewL; rw [allB_false hi h, Bool.and_false]
theorem fewL_true {n m : Nat} {V : Nat → V8} {Q : Nat → R3} (h : n ≤ 10) (h1 : fewR 10 m Q = true) (h2 : ∀ i, i < n → fewV (V i) = true) : fewL n m V Q = true := by unfold fewL; rw [allB_true h2, decide_eq_true h, h1]; rfl
theorem fewL_get {n m : Nat} {V : Nat → V8} {Q : Nat → R3} (h : fewL n m V Q = true) : n ≤ 10 ∧ m ≤ 10 ∧ (∀ i, i < m → (Q i).fits 24) ∧ ∀ i, i < n → (V i).a.fits 24 ∧ (V i).k.fits 24 := by
  unfold fewL fewR at h
  simp only [Bool.and_eq_true, decide_eq_true_eq] at h
  obtain ⟨⟨h1, h2, h3⟩, h4⟩ := h
  refine ⟨h1, h2, fun i hi => ?_, fun i hi => ?_⟩
  · have := allB_get h3 i hi
    exact of_decide_eq_true (p := (Q i).s.size ≤ 24 ∧ (Q i).d.size ≤ 24) this
  · have := allB_get h4 i hi
    unfold fewV at this
    simp only [Bool.and_eq_true] at this
    exact ⟨of_decide_eq_true (p := (V i).a.s.size ≤ 24 ∧ (V i).a.d.size ≤ 24) this.1, of_decide_eq_true (p := (V i).k.s.size ≤ 24 ∧ (V i).k.d.size ≤ 24) this.2⟩

end Go.Proofs.Ins

set_option linter.unusedSimpArgs false
set_option linter.unusedVariables false
namespace Go.Proofs.Ins
open Go.RowKit

/-- An operation that yields a value and enters no function. -/
def plainOp : Op → Bool
  | .move _ | .assign _ | .pick .. | .build .. | .load .. | .binOp .. | .unOp .. | .convert .. | .fieldAddr .. | .field .. | .indexAddr .. | .index .. | .extract .. | .slice .. => true
  | _ => false

theorem plain_run (ρ : Operand → Value) (o : Oper) (h : plainOp o.op = true) : ∃ s : Sem Value, execOp ρ o = (do pure (Next.value (← s))) := by
  unfold execOp
  cases ho : o.op <;> rw [ho] at h <;> try (simp [plainOp] at h; done)
  case move x => exact ⟨pure (ρ x), by simp⟩
  case assign x => exact ⟨pure (ρ x), by simp⟩
  case pick c x y => exact ⟨do pure (if ← asBool (ρ c) then ρ x else ρ y), by simp⟩
  all_goals exact ⟨_, rfl⟩

theorem quiet_plain {P : Program} {o : Oper} {a : Act} {C : World → Prop} {w : World} {v : Value} (hp : plainOp o.op = true) (h : o.quietAt P a C w v) : (execOp a.eval o).run P w = .ok (.value v) w := by
  obtain ⟨s, hs⟩ := plain_run a.eval o hp
  unfold Oper.quietAt at h
  rw [hs] at h ⊢
  simp only [Sem.run_bind, Sem.run_pure] at h ⊢
  cases hr : Sem.run P s w with
  | ok x w' =>
    rw [hr] at h
    simp only [Result.andThen, Oper.quietUpon] at h ⊢
    obtain ⟨rfl, rfl⟩ := h
    rfl
  | halt x w' =>
    rw [hr] at h
    simp only [Result.andThen, Oper.quietUpon] at h

/-- Where a piece of a region ends. -/
def segQ (Q : Exit → Act → World → Prop) (K : Act → World → Prop) : Exit → Act → World → Prop
  | .normal, a, w => K a w
  | e, a, w => Q e a w
theorem segQ_normal {Q : Exit → Act → World → Prop} {K : Act → World → Prop} {a : Act} {w : World} (h : K a w) : segQ Q K .normal a w := h

theorem wp_segQ {P : Program} {o : Oper} {a : Act} {w : World} {K K' : Act → World → Prop} {Q : Exit → Act → World → Prop} (h : o.wp P a w K (segQ Q K')) : o.wp P a w K Q := by
  unfold Oper.wp at *
  generalize (execOp a.eval o).run P w = r at *
  cases r with
  | ok n w' => cases n <;> exact h
  | halt x w' => cases x <;> exact h

theorem wpOp_of_list {P : Program} {ops : Array Oper} {o : Oper} {i : Nat} {a : Act} {w : World} {K : Act → World → Prop} {Q : Exit → Act → World → Prop} (hi : ops[i]? = some o)
    (h : wpList P ops (segQ Q K) [o] a w) : wpOp P ops Q i K a w := by
  unfold wpOp
  simp only [hi]
  unfold wpList at h
  split
  · rename_i hw
    rw [if_pos hw] at h
    rcases h with h | h
    · exact .inl (Oper.wp_mono (fun a w h => h) (wp_segQ h))
    · exact .inr h
  · rename_i hw
    rw [if_neg hw] at h
    exact h

def getOps (l : List Oper) (is : List Nat) : List Oper := is.filterMap fun i => l[i]?

def wpSegs (P : Program) (l : List Oper) (Q : Exit → Act → World → Prop) (S : World → Prop) : List (List Nat × Nat) → List Nat → Act → World → Prop
  | [], fin, a, w => wpQuiet P l.toArray S (fun a' => Q .normal a' w) (getOps l fin) a
  | (qs, i) :: rest, fin, a, w => wpQuiet P l.toArray S (fun a' => wpList P l.toArray (segQ Q fun a2 w2 => S w2 ∧ wpSegs P l Q S rest fin a2 w2) (getOps l [i]) a' w) (getOps l qs) a

theorem wpSegs_cons {P : Program} {l : List Oper} {Q : Exit → Act → World → Prop} {S : World → Prop} {qs : List Nat} {i : Nat} {rest : List (List Nat × Nat)} {fin : List Nat} {a : Act} {w : World}
    (h : wpQuiet P l.toArray S (fun a' => wpList P l.toArray (segQ Q fun a2 w2 => S w2 ∧ wpSegs P l Q S rest fin a2 w2) (getOps l [i]) a' w) (getOps l qs) a) : wpSegs P l Q S ((qs, i) :: rest) fin a w := h
def quietB (md : Region.Mode) (ops : Array Oper) : List Nat → Array Bool → Option (Array Bool)
  | [], listed => some listed
  | q :: qs, listed => match ops[q]? with
    | some o => if (Region.ready md ops listed).contains q && Region.free md ops listed q && plainOp o.op then quietB md ops qs (listed.setIfInBounds q true) else none
    | none => none

def segsB (md : Region.Mode) (ops : Array Oper) : List (List Nat × Nat) → List Nat → Array Bool → Bool
  | [], fin, listed => match quietB md ops fin listed with
    | some l' => (Region.ready md ops l').isEmpty
    | none => false
  | (qs, i) :: rest, fin, listed => match quietB md ops qs listed with
    | some l' => decide (Region.ready md ops l' = [i]) && segsB md ops rest fin (l'.setIfInBounds i true)
    | none => false

section
variable {P : Program} {ops : Array Oper} {md : Region.Mode} {S : World → Prop} {Q : Exit → Act → World → Prop}

theorem segs_quiet (hs : Region.noSelect ops = true) (hQ : ∀ c a d v w, Q (.panic c) (Act.put a d v) w → Q (.panic c) a w) {M : Act → Prop} {w : World} (hS : S w) (l : List Oper) (hl : l.toArray = ops) :
    ∀ (qs : List Nat) (listed l' : Array Bool) (a : Act) (f : Nat), quietB md ops qs listed = some l' → wpQuiet P ops S M (getOps l qs) a → (∀ a', M a' → wpAnyH P md ops Q S f l' a' w) → wpAnyH P md ops Q S (f + qs.length) listed a w
  | [], listed, l', a, f, hB, h, hM => by
    simp only [quietB, Option.some.injEq] at hB
    subst hB
    exact hM a h
  | q :: qs, listed, l', a, f, hB, h, hM => by
    unfold quietB at hB
    cases hq : ops[q]? with
    | none => rw [hq] at hB; cases hB
    | some o =>
      rw [hq] at hB
      simp only [] at hB
      by_cases hc : ((Region.ready md ops listed).contains q && Region.free md ops listed q && plainOp o.op) = true
      · rw [if_pos hc] at hB
        simp only [Bool.and_eq_true] at hc
        obtain ⟨⟨h1, h2⟩, h3⟩ := hc
        have hlq : l[q]? = some o := by rw [← hl] at hq; simpa using hq
        have hg : getOps l (q :: qs) = o :: getOps l qs := by unfold getOps; rw [List.filterMap_cons, hlq]
        rw [hg] at h
        unfold wpQuiet at h
        have go : ∀ v, YieldsIf P ops S o v a → wpQuiet P ops S M (getOps l qs) (a.put o.dst v) → wpAnyH P md ops Q S (f + (q :: qs).length) listed a w := fun v hy hn => by
          rw [List.length_cons, ← Nat.add_assoc]
          exact wpAnyH_take hq hs h2 h1 (fun c a w => hQ c a o.dst v w) hy hS (segs_quiet hs hQ hS l hl qs _ l' _ f hB hn hM)
        by_cases hw : Region.wanted o (yielded ops a.tmps) = true
        · rw [if_pos hw] at h
          obtain ⟨v, hv, hn⟩ := h
          exact go v (.inl ⟨hw, fun w' hw' => quiet_plain h3 (hv w' hw')⟩) hn
        · rw [if_neg hw] at h
          exact go undef (.inr ⟨by simpa using hw, rfl⟩) h
      · rw [if_neg hc] at hB; cases hB

theorem segs_all (hs : Region.noSelect ops = true) (hQ : ∀ c a d v w, Q (.panic c) (Act.put a d v) w → Q (.panic c) a w) (l : List Oper) (hl : l.toArray = ops) (fin : List Nat) :
    ∀ (sg : List (List Nat × Nat)) (listed : Array Bool) (a : Act) (w : World) (f : Nat), segsB md ops sg fin listed = true → S w → wpSegs P l Q S sg fin a w → wpAnyH P md ops Q S (f + (sg.map fun x => x.1.length + 1).sum + fin.length) listed a w
  | [], listed, a, w, f, hB, hS, h => by
    unfold segsB at hB
    cases hq : quietB md ops fin listed with
    | none => rw [hq] at hB; cases hB
    | some l' =>
      rw [hq] at hB
      unfold wpSegs at h
      rw [hl] at h
      simp only [List.map_nil, List.sum_nil, Nat.add_zero]
      exact segs_quiet hs hQ hS l hl fin listed l' a f hq h (fun a' ha => wpAnyH_done (by simpa using hB) ha f)
  | (qs, i) :: rest, listed, a, w, f, hB, hS, h => by
    unfold segsB at hB
    cases hq : quietB md ops qs listed with
    | none => rw [hq] at hB; cases hB
    | some l' =>
      rw [hq] at hB
      simp only [Bool.and_eq_true, decide_eq_true_eq] at hB
      obtain ⟨hr, hB2⟩ := hB
      unfold wpSegs at h
      rw [hl] at h
      have e : f + (((qs, i) :: rest).map fun x => x.1.length + 1).sum + fin.length = (f + (rest.map fun x => x.1.length + 1).sum + fin.length + 1) + qs.length := by
        simp only [List.map_cons, List.sum_cons]; omega
      rw [e]
      refine segs_quiet hs hQ hS l hl qs listed l' a _ hq h (fun a' ha => ?_)
      have hi : i ∈ Region.ready md ops l' := by rw [hr]; simp
      obtain ⟨_, o, ho, _⟩ := mem_ready.1 hi
      have hlo : l[i]? = some o := by rw [← hl] at ho; simpa using ho
      have hg : getOps l [i] = [o] := by unfold getOps; rw [List.filterMap_cons, hlo]; rfl
      rw [hg] at ha
      refine wpAnyH_all hr (by simp) (fun j hj => ?_)
      have hji : j = i := by simpa using hj
      subst hji
      exact wpOp_mono (fun a2 w2 h2 => ⟨h2.1, segs_all hs hQ l hl fin rest _ a2 w2 f hB2 h2.1 h2.2⟩) (wpOp_of_list ho ha)

end

theorem segs_sum (sg : List (List Nat × Nat)) (fin : List Nat) (n : Nat) (h : (sg.map fun x => x.1.length + 1).sum + fin.length = n) : 0 + (sg.map fun x => x.1.length + 1).sum + fin.length = n := by omega

/-- Q, but 'False' at a panic. -/
def NoPan (Q : Exit → Act → World → Prop) : Exit → Act → World → Prop
  | .panic _, _, _ => False
  | e, a, w => Q e a w
theorem NoPan.imp {Q : Exit → Act → World → Prop} : ∀ (e : Exit) (a : Act) (w : World), NoPan Q e a w → Q e a w := fun e a w h => by
  cases e <;> first | exact h | exact (h : False).elim

theorem wpSegs_nil {P : Program} {l : List Oper} {Q : Exit → Act → World → Prop} {S : World → Prop} {fin : List Nat} {a : Act} {w : World}
    (h : wpQuiet P l.toArray S (fun a' => Q .normal a' w) (getOps l fin) a) : wpSegs P l (NoPan Q) S [] fin a w := h

/-- A region by a schedule. -/
theorem wp_region_segs {P : Program} {id : Nat} {Q : Exit → Act → World → Prop} {a : Act} {w : World} {l : List Oper} (S : World → Prop) (sg : List (List Nat × Nat)) (fin : List Nat) (hm : P.follows .mixedOrders = true)
    (hs : Region.noSelect l.toArray = true) (hB : segsB .any l.toArray sg fin (Array.replicate l.toArray.size false) = true) (hn : (sg.map fun x => x.1.length + 1).sum + fin.length = l.toArray.size)
    (hS : S w.drew)
    (h : wpSegs P l (NoPan Q) S sg fin a w.drew) : (Code.region id l.toArray true).wp P Q a w := by
  refine Code.wp_mono NoPan.imp (wp_region_held (S := S) hm ?_)
  have := segs_all (md := .any) (P := P) (S := S) (Q := NoPan Q) hs (fun _ _ _ _ _ h => h) l rfl fin sg (Array.replicate l.toArray.size false) a w.drew 0 hB hS h
  rw [Nat.zero_add, hn] at this
  exact this

/-- A plan of a region: what only reads, then one act, or one of two. -/
inductive STree where
  | fin (qs : List Nat)
  | one (qs : List Nat) (i : Nat) (t : STree)
  | two (qs : List Nat) (i j : Nat) (t u : STree)

def STree.len : STree → Nat
  | .fin qs => qs.length
  | .one qs _ t => t.len + 1 + qs.length
  | .two qs _ _ t _ => t.len + 1 + qs.length

def wpTree (P : Program) (l : List Oper) (Q : Exit → Act → World → Prop) (S : World → Prop) : STree → Act → World → Prop
  | .fin qs, a, w => wpQuiet P l.toArray S (fun a' => Q .normal a' w) (getOps l qs) a
  | .one qs i t, a, w => wpQuiet P l.toArray S (fun a' => wpList P l.toArray (segQ Q fun a2 w2 => S w2 ∧ wpTree P l Q S t a2 w2) (getOps l [i]) a' w) (getOps l qs) a
  | .two qs i j t u, a, w => wpQuiet P l.toArray S (fun a' => wpList P l.toArray (segQ Q fun a2 w2 => S w2 ∧ wpTree P l Q S t a2 w2) (getOps l [i]) a' w ∧ wpList P l.toArray (segQ Q fun a2 w2 => S w2 ∧ wpTree P l Q S u a2 w2) (getOps l [j]) a' w) (getOps l qs) a

def treeB (md : Region.Mode) (ops : Array Oper) : STree → Array Bool → Bool
  | .fin qs, listed => match quietB md ops qs listed with
    | some l' => (Region.ready md ops l').isEmpty
    | none => false
  | .one qs i t, listed => match quietB md ops qs listed with
    | some l' => decide (Region.ready md ops l' = [i]) && treeB md ops t (l'.setIfInBounds i true)
    | none => false
  | .two qs i j t u, listed => match quietB md ops qs listed with
    | some l' => decide (Region.ready md ops l' = [i, j]) && decide (t.len = u.len) && treeB md ops t (l'.setIfInBounds i true) && treeB md ops u (l'.setIfInBounds j true)
    | none => false

theorem wpTree_one {P : Program} {l : List Oper} {Q : Exit → Act → World → Prop} {S : World → Prop} {qs : List Nat} {i : Nat} {t : STree} {a : Act} {w : World}
    (h : wpQuiet P l.toArray S (fun a' => wpList P l.toArray (segQ Q fun a2 w2 => S w2 ∧ wpTree P l Q S t a2 w2) (getOps l [i]) a' w) (getOps l qs) a) : wpTree P l Q S (.one qs i t) a w := h
theorem wpTree_two {P : Program} {l : List Oper} {Q : Exit → Act → World → Prop} {S : World → Prop} {qs : List Nat} {i j : Nat} {t u : STree} {a : Act} {w : World}
    (h : wpQuiet P l.toArray S (fun a' => wpList P l.toArray (segQ Q fun a2 w2 => S w2 ∧ wpTree P l Q S t a2 w2) (getOps l [i]) a' w ∧ wpList P l.toArray (segQ Q fun a2 w2 => S w2 ∧ wpTree P l Q S u a2 w2) (getOps l [j]) a' w) (getOps l qs) a) : wpTree P l Q S (.two qs i j t u) a w := h
theorem wpTree_fin {P : Program} {l : List Oper} {Q : Exit → Act → World → Prop} {S : World → Prop} {qs : List Nat} {a : Act} {w : World}
    (h : wpQuiet P l.toArray S (fun a' => Q .normal a' w) (getOps l qs) a) : wpTree P l (NoPan Q) S (.fin qs) a w := h

section
variable {P : Program} {ops : Array Oper} {md : Region.Mode} {S : World → Prop} {Q : Exit → Act → World → Prop}
theorem wpOp_ready {l : List Oper} (hl : l.toArray = ops) {l' : Array Bool} {i : Nat} {a : Act} {w : World} {K : Act → World → Prop} (hi : i ∈ Region.ready md ops l')
    (ha : wpList P l.toArray (segQ Q K) (getOps l [i]) a w) : wpOp P ops Q i K a w := by
  obtain ⟨_, o, ho, _⟩ := mem_ready.1 hi
  have hlo : l[i]? = some o := by rw [← hl] at ho; simpa using ho
  have hg : getOps l [i] = [o] := by unfold getOps; rw [List.filterMap_cons, hlo]; rfl
  rw [hg, hl] at ha
  exact wpOp_of_list ho ha

theorem tree_all (hs : Region.noSelect ops = true) (hQ : ∀ c a d v w, Q (.panic c) (Act.put a d v) w → Q (.panic c) a w) (l : List Oper) (hl : l.toArray = ops) :
    ∀ (t : STree) (listed : Array Bool) (a : Act) (w : World) (f : Nat), treeB md ops t listed = true → S w → wpTree P l Q S t a w → wpAnyH P md ops Q S (f + t.len) listed a w
  | .fin qs, listed, a, w, f, hB, hS, h => by
    unfold treeB at hB
    cases hq : quietB md ops qs listed with
    | none => rw [hq] at hB; cases hB
    | some l' =>
      rw [hq] at hB
      unfold wpTree at h
      rw [hl] at h
      exact segs_quiet hs hQ hS l hl qs listed l' a f hq h (fun a' ha => wpAnyH_done (by simpa using hB) ha f)
  | .one qs i t, listed, a, w, f, hB, hS, h => by
    unfold treeB at hB
    cases hq : quietB md ops qs listed with
    | none => rw [hq] at hB; cases hB
    | some l' =>
      rw [hq] at hB
      simp only [Bool.and_eq_true, decide_eq_true_eq] at hB
      obtain ⟨hr, hB2⟩ := hB
      unfold wpTree at h
      rw [hl] at h
      have e : f + (STree.one qs i t).len = (f + t.len + 1) + qs.length := by show f + (t.len + 1 + qs.length) = _; omega
      rw [e]
      refine segs_quiet hs hQ hS l hl qs listed l' a _ hq h (fun a' ha => ?_)
      refine wpAnyH_all hr (by simp) (fun j hj => ?_)
      have hji : j = i := by simpa using hj
      subst hji
      rw [← hl] at ha
      exact wpOp_mono (fun a2 w2 h2 => ⟨h2.1, tree_all hs hQ l hl t _ a2 w2 f hB2 h2.1 h2.2⟩) (wpOp_ready hl (md := md) (l' := l') (by rw [hr]; simp) ha)
  | .two qs i j t u, listed, a, w, f, hB, hS, h => by
    unfold treeB at hB
    cases hq : quietB md ops qs listed with
    | none => rw [hq] at hB; cases hB
    | some l' =>
      rw [hq] at hB
      simp only [Bool.and_eq_true, decide_eq_true_eq] at hB
      obtain ⟨⟨⟨hr, hn⟩, hB2⟩, hB3⟩ := hB
      unfold wpTree at h
      rw [hl] at h
      have e : f + (STree.two qs i j t u).len = (f + t.len + 1) + qs.length := by show f + (t.len + 1 + qs.length) = _; omega
      rw [e]
      refine segs_quiet hs hQ hS l hl qs listed l' a _ hq h (fun a' ha => ?_)
      refine wpAnyH_all hr (by simp) (fun k hk => ?_)
      rw [← hl] at ha
      have hk2 : k = i ∨ k = j := by simpa using hk
      rcases hk2 with rfl | rfl
      · exact wpOp_mono (fun a2 w2 h2 => ⟨h2.1, tree_all hs hQ l hl t _ a2 w2 f hB2 h2.1 h2.2⟩) (wpOp_ready hl (md := md) (l' := l') (by rw [hr]; simp) ha.1)
      · rw [hn]
        exact wpOp_mono (fun a2 w2 h2 => ⟨h2.1, tree_all hs hQ l hl u _ a2 w2 f hB3 h2.1 h2.2⟩) (wpOp_ready hl (md := md) (l' := l') (by rw [hr]; simp) ha.2)
end

/-- A region by a plan. -/
theorem wp_region_tree {P : Program} {id : Nat} {Q : Exit → Act → World → Prop} {a : Act} {w : World} {l : List Oper} (S : World → Prop) (t : STree) (hm : P.follows .mixedOrders = true)
    (hs : Region.noSelect l.toArray = true) (hB : treeB .any l.toArray t (Array.replicate l.toArray.size false) = true) (hn : t.len = l.toArray.size)
    (hS : S w.drew) (h : wpTree P l (NoPan Q) S t a w.drew) : (Code.region id l.toArray true).wp P Q a w := by
  refine Code.wp_mono NoPan.imp (wp_region_held (S := S) hm ?_)
  have := tree_all (md := .any) (P := P) (S := S) (Q := NoPan Q) hs (fun _ _ _ _ _ h => h) l rfl t (Array.replicate l.toArray.size false) a w.drew 0 hB hS h
  rw [Nat.zero_add, hn] at this
  exact this

theorem exit_forget {Q : Exit → Act → World → Prop} {x : Exit} {a : Act} {w : World} (R : World → Prop) (h : R w) (h2 : ∀ W, R W → Q x a W) : Q x a w := h2 w h

/-- A later world: of what was there only the blocks in X may have turned. -/
structure ExcP (W : World) (X : Nat → Bool) where
  d : Nat
  heap : Array Obj
  size : W.heap.size ≤ heap.size
  block : ∀ k, k < W.heap.size → X k = false → heap[k]? = W.heap[k]?
def ExcP.w {W : World} {X : Nat → Bool} (p : ExcP W X) : World := { W with drawn := p.d, heap := p.heap }
instance (W : World) (X : Nat → Bool) : Inhabited (ExcP W X) := ⟨⟨0, W.heap, Nat.le_refl _, fun _ _ _ => rfl⟩⟩
abbrev Exc (W : World) (X : Nat → Bool) : World → Prop := fun w' => ∃ p : ExcP W X, w' = p.w

theorem exc_of {W w' : World} {X : Nat → Bool} (h1 : w'.os = W.os) (h2 : w'.tape = W.tape) (h3 : w'.output = W.output) (h4 : W.heap.size ≤ w'.heap.size) (h5 : ∀ k, k < W.heap.size → X k = false → w'.heap[k]? = W.heap[k]?) : Exc W X w' := by
  refine ⟨⟨w'.drawn, w'.heap, h4, h5⟩, ?_⟩
  obtain ⟨heap', tape', drawn', os', output'⟩ := w'
  simp only at h1 h2 h3
  subst h1 h2 h3
  rfl

/-- The blocks from B on may have turned. -/
def fromB (B : Nat) : Nat → Bool := fun k => decide (B ≤ k)
theorem exc_below {B : Nat} {W w' : World} (h : Below B W w') : Exc W (fromB B) w' :=
  exc_of h.os h.tape h.output h.size fun k _ hk => h.block k (by unfold fromB at hk; simpa using hk)
theorem exc_cell {W : World} {B : Nat} {a : Addr} {v : Value} (h : W.cell? a = some v) (hB : a.block < B) : ∀ p : ExcP W (fromB B), p.w.cell? a = some v := fun p => by
  rw [World.cell?_of_block (w := W) (p.block a.block (block_lt_of_cell h) (by unfold fromB; simpa using hB))]; exact h
end Go.Proofs.Ins

set_option linter.unusedSimpArgs false
set_option linter.unusedVariables false
namespace Go.Proofs.Ins
open Go.RowKit

/-- A slice of structs, handed back. -/
def RetS (w : World) (n sz : Nat) (F : Nat → List Value) (e : Ending) (w' : World) : Prop :=
  ∃ a cap, e = .returned (.slice a n cap) ∧ n ≤ cap ∧ cap ≤ 9223372036854775807 ∧ SArg w' a n sz F ∧ Below w.heap.size w w'

theorem ratInfo : (Tryz.prog.info? 33).map (fun i => (i.zero.map (fun z => z.cells.size), i.size, i.bytes)) = some (some 3, 3, 40) := by kernel_rfl


/-- A slice of the call's own, handed back. -/
def RetO (w : World) (T : TypeId) (n sz : Nat) (F : Nat → List Value) (e : Ending) (w' : World) : Prop :=
  ∃ v, e = .returned v ∧ SOwn w' w.heap.size T sz v n F ∧ Below w.heap.size w w'
def c16 (L : Nat → Nat) (i : Nat) : List Value := [.int .u16 (L i : Int)]

set_option maxRecDepth 100000 in
set_option maxHeartbeats 1600000 in
theorem amounts_any (a : Option Addr) (n cap m : Nat) (L : Nat → Nat) (w : World) (hA : SArg w a n 1 (c16 L)) (hL : ∀ i, i < n → L i ≤ 65535) (hn : n ≤ 140737488351232) (hm : m ≤ 1000000) :
    Calls Tryz.prog 34 #[.slice a n cap, .int .i64 (m : Int)] w (RetO w 33 (min n m) 3 fun i => (ofQ (amt (L i))).c) := by
  have HL := Lib.hid hL
  have HA := Lib.hid hA
  clear hL hA
  go_enter Tryz.func34, Tryz.ntmps34
  go_wp2
  go_loopw [5, 6] (fun v i wr => ∃ k : Nat, i = .int .i64 k ∧ k ≤ n ∧ k ≤ m ∧ SOwn wr w.heap.size 33 3 v k (fun j => (ofQ (amt (L j))).c) ∧ Below w.heap.size w wr) (fun _ i _ => n - (intOf i).toNat)
  case atStart => exact ⟨0, rfl, by omega, by omega, SOwn.nil _ _ _ _ _, Below.refl _ _⟩
  case round =>
    obtain ⟨k, rfl, hk, hk7, hown, hbel⟩ := hrel
    have HO := Lib.hid hown
    have HB := Lib.hid hbel
    have hsz := hbel.size
    clear hown
    by_cases hlt : k < n
    · by_cases hlt7 : k < m
      · skip
        rcases HA.out with h0 | ⟨b, off, rfl, hb, hr⟩
        · omega
        have c0 : wr.cell? ⟨b, off + k, none⟩ = some (.int .u16 (L k : Int)) := by
          have := (hr.below hbel hb) k 0 hlt (by omega)
          rw [Nat.mul_one, Nat.add_zero] at this; exact this
        have l0 := HL.out k hlt
        have HAm := Lib.hid (fun w => amount_any (L k) w l0)
        have hE : (ofQ (amt (L k))).c = [.bool (rn (amt (L k))), .string (rs (amt (L k))), .string (rd (amt (L k)))] := rfl
        have HE := Lib.hid hE
        generalize hx0 : L k = x0 at *
        generalize rn (amt x0) = p1 at *
        generalize rs (amt x0) = p2 at *
        generalize rd (amt x0) = p3 at *
        have i1 : (0 : Int) ≤ (k : Int) := by omega
        have i2 : (k : Int) < (n : Int) := by omega
        clear hr hE HA HL
        go_wp2_with fail
        refine (HAm.out _).mono ?_
        rintro e w1 ⟨rfl, d4⟩
        have HB1 := Lib.hid (chain (Below.refl w.heap.size wr) d4 hsz)
        have HO1 := Lib.hid (HO.out.below d4 (Nat.le_refl _))
        have hz1 := HB1.out.size
        clear d4
        go_wp2_with (refine wpList_appendS _ _ 30 33 3 40 w.heap.size _ _ _ [.bool p1, .string p2, .string p3] (by rfl) (by rfl) Tryz.underlying30 ratInfo (by omega) (by rfl) (by rfl) (by simp [Value.oneCell']) (by rfl) HO1.out (by omega) (by omega) (by omega) ?_; intro v' w3 ho3 hb3; have HO3 := Lib.hid ho3; have HB3 := Lib.hid (HB1.out.trans hb3); clear ho3 hb3)
        go_roundw
        case rel =>
          refine ⟨k + 1, by go_num, by omega, by omega, HO3.out.congr fun j hj => ?_, HB.out.trans HB3.out⟩
          by_cases e : j < k
          · rw [if_pos e]
          · obtain rfl : j = k := by omega
            rw [if_neg e, ← HE.out]
            show _ = (ofQ (amt (L j))).c
            rw [hx0]
        case measure => simp [intOf]; omega
      · as_aux_lemma =>
        have hk8 : k = m := by omega
        have hE : RetO w 33 (min n m) 3 (fun i => (ofQ (amt (L i))).c) (.returned u5) wr := ⟨u5, rfl, by rw [show min n m = k by omega]; exact HO.out, hbel⟩
        have HR := Lib.hid hE
        have hnl : decide ((k : Int) < (m : Int)) = false := by simp; omega
        clear hk8 hE
        go_wp2
        go_ret
        exact HR.out
    · as_aux_lemma =>
      have hk8 : k = n := by omega
      have hE : RetO w 33 (min n m) 3 (fun i => (ofQ (amt (L i))).c) (.returned u5) wr := ⟨u5, rfl, by rw [show min n m = k by omega]; exact HO.out, hbel⟩
      have HR := Lib.hid hE
      have hnl : decide ((k : Int) < (n : Int)) = false := by simp; omega
      clear hk8 hE
      go_wp2
      go_ret
      exact HR.out

/-- The number that values gives at i. -/
def valR (L : Nat → Nat) (n i : Nat) : R3 := if i < n then ofQ (amt (L i)) else default
def lenOf : Value → Nat
  | .slice _ n _ => n
  | _ => 0

end Go.Proofs.Ins

set_option linter.unusedSimpArgs false
set_option linter.unusedVariables false
namespace Go.Proofs.Ins
open Go Go.RowKit Go.ChangeShapes Go.WideShapes Go.Deep

theorem SArg.congr {w : World} {a : Option Addr} {n sz : Nat} {F G : Nat → List Value} (h : SArg w a n sz F) (hg : ∀ i, i < n → F i = G i) : SArg w a n sz G := by
  rcases h with h | ⟨b, off, ha, hl, hr⟩
  · exact .inl h
  · exact .inr ⟨b, off, ha, hl, fun i j hi hj => by rw [← hg i hi]; exact hr i j hi hj⟩

section
variable {H : Type} {enc : TypeId × Value → H} {W : World} {sp : Nat → Bool} {held : Bool}

theorem arg_rats {fuel : Nat} {cs : List Value} {x : DataW H × List MemPlace} (h : DataW.trod enc Tryz.prog W 0 sp held fuel 30 cs = some x) (hL : Light Tryz.prog 30 x.1) :
    ∃ a n cap, ∃ Q : Nat → R3, cs = [.slice a n cap] ∧ n ≤ 140737488351232 ∧ (SArg W a n 3 fun i => (Q i).c) ∧ ∀ i, i < n → (Q i).fits 140737488351232 := by
  obtain ⟨a, n, cap, C, rfl, hn, hs, hx⟩ := open_rows (k := 3) Tryz.underlying30 (by kernel_rfl) (by omega) (of_decide_eq_true (by kernel_rfl)) h hL
  obtain ⟨Q, hQ⟩ := choose_lt (α := R3) (p := fun i r => C i = r.c ∧ r.fits 140737488351232) (fun i hi => by
    obtain ⟨_, n, y, h1, h2⟩ := hx i hi
    exact rat_cells h1 h2)
  exact ⟨a, n, cap, Q, rfl, hn, hs.congr fun i hi => (hQ i hi).1, fun i hi => (hQ i hi).2⟩

theorem arg_u16s {fuel : Nat} {cs : List Value} {x : DataW H × List MemPlace} (h : DataW.trod enc Tryz.prog W 0 sp held fuel 22 cs = some x) (hL : Light Tryz.prog 22 x.1) :
    ∃ a n cap, ∃ M : Nat → Nat, cs = [.slice a n cap] ∧ n ≤ 140737488351232 ∧ SArg W a n 1 (c16 M) ∧ ∀ i, i < n → M i ≤ 65535 := by
  obtain ⟨a, n, cap, C, rfl, hn, hs, hx⟩ := open_rows (k := 1) Tryz.underlying22 (by kernel_rfl) (by omega) (of_decide_eq_true (by kernel_rfl)) h hL
  obtain ⟨M, hM⟩ := choose_lt (α := Nat) (p := fun i m => C i = [.int .u16 (m : Int)] ∧ m ≤ 65535) (fun i hi => by
    obtain ⟨_, n, y, h1, h2⟩ := hx i hi
    exact u16_cells h1)
  exact ⟨a, n, cap, M, rfl, hn, hs.congr fun i hi => (hM i hi).1, fun i hi => (hM i hi).2⟩


/-- The arguments read as they did. -/
theorem trodAll_below {P : Program} (hl : laidOutB P = true) {W W' : World} (hb : Below W.heap.size W W') : ∀ {ts : List TypeId} {vs : List Value} {ds : List (DataW H)} {p : List MemPlace},
    (ts.all fun t => P.readableRec t && decide (t < P.types.size)) = true → DataW.TrodAll enc P W 0 (fun _ => true) true ts vs ds p → (∀ x ∈ p, x.block < W.heap.size) → DataW.TrodAll enc P W' 0 (fun b => decide (b < W.heap.size)) true ts vs ds p
  | [], _, _, _, _, h, _ => by
    obtain ⟨rfl, rfl, rfl⟩ := trodAll_nil h
    exact h
  | t :: ts, _, _, _, ht, h, hp => by
    obtain ⟨v, vs1, d, ds1, a, b, rfl, rfl, rfl, h1, h2⟩ := trodAll_cons h
    simp only [List.all_cons, Bool.and_eq_true, decide_eq_true_eq] at ht
    exact ⟨a, b, Below.trod hl ht.1.1 ht.1.2 h1 hb (fun x hx => hp x (List.mem_append_left _ hx)), trodAll_below hl hb ht.2 h2 (fun x hx => hp x (List.mem_append_right _ hx)), rfl⟩
end
theorem laidOut' : laidOutB Tryz.prog = true := by kernel_rfl
end Go.Proofs.Ins

set_option linter.unusedSimpArgs false
set_option linter.unusedVariables false
namespace Go.Proofs.Ins
open Go Go.RowKit Go.ChangeShapes Go.WideShapes Go.ChangeAt Go.Proofs.YthplmloambdmlaaGreatDoor

theorem own' : ownKnob Tryz.prog.godebug = none := by kernel_rfl
def laidL : List (String × DataW Unit) := [("unicode/utf8.acceptRanges", Rows.laid_unicode_utf8_acceptRanges), ("unicode/utf8.first", Rows.laid_unicode_utf8_first)]

section
variable {H : Type} {enc : TypeId × Value → H} {W : World}

/-- A slice argument, opened. -/
theorem val_slice {P : Program} {r : Reach} {b : Nat} {t e : TypeId} {v : Value} {d : DataW H} {p : List MemPlace} {sp : Nat → Bool} {held : Bool} (ht : P.underlying t = some (.slice e)) (hv : Value.okWide P W r b t v) (h : DataW.Trod enc P W 0 sp held t v d p) :
    ∃ a n c f, v = .slice a n c ∧ DataW.trod enc P W 0 sp held f t [.slice a n c] = some (d, p) := by
  obtain ⟨a, n, c, rfl⟩ := okWide_slice ht hv
  obtain ⟨f, h⟩ := h
  exact ⟨a, n, c, f, rfl, h⟩

/-- From the walk to the row's post: the result is true, the arguments read as they did. -/
theorem law_post {f : FuncId} {fn : Func} {s : ChangeSpec} {args : Array Value} {ds : List (DataW H)} {before : List MemPlace}
    (hs : s.vars = []) (hr : fn.resultTypes = #[4]) (hfn : s.fn H (ds ++ []) = { results := [.lit (.bool true)], args := ds })
    (ht : (fn.params.toList.all fun t => Tryz.prog.readableRec t && decide (t < Tryz.prog.types.size)) = true)
    (hW : DataW.Whole enc Tryz.prog fn.params.toList s.vars false W args.toList ds [] before)
    (hw : Calls Tryz.prog f args W fun e w' => e = .returned (.bool true) ∧ Below W.heap.size W w') :
    Calls Tryz.prog f args W fun e W' => ∃ v, e = .returned v ∧ s.post enc Tryz.prog fn false true false false W args v W' := by
  refine hw.mono fun e W' ⟨he, hB⟩ => ?_
  subst he
  have hW' := hW
  obtain ⟨p, q, hA, hV, rfl, hfz, hnd⟩ := hW
  refine ⟨_, rfl, ds, [], p ++ q, [], p, [], hW', ?_, ?_, ?_, hB.frame _, fun h => by cases h⟩
  · rw [hfn, hr]
    exact trodAll_mk1 (shut_bool Tryz.underlying4 _)
  · rw [hfn]
    exact trodAll_below laidOut' hB ht hA (fun x hx => hW'.lt x (List.mem_append_left _ hx))
  · rw [hfn, hs]
    rfl
end

section
variable {H : Type} {enc : TypeId × Value → H} {W : World}
set_option maxRecDepth 100000 in
theorem v_u16s {r : Reach} {b : Nat} {v : Value} {d : DataW H} {p : List MemPlace} {sp : Nat → Bool} {held : Bool} (hv : Value.okWide Tryz.prog W r b 22 v) (h : DataW.Trod enc Tryz.prog W 0 sp held 22 v d p) (hL : Light Tryz.prog 22 d) :
    ∃ a n c, ∃ M : Nat → Nat, v = .slice a n c ∧ n ≤ 140737488351232 ∧ SArg W a n 1 (c16 M) ∧ ∀ i, i < n → M i ≤ 65535 := by
  obtain ⟨a, n, c, f, rfl, h9⟩ := val_slice Tryz.underlying22 hv h
  obtain ⟨a', n', c', L, e, h1, h2, h3⟩ := arg_u16s h9 hL
  simp only [List.cons.injEq, Value.slice.injEq, and_true] at e
  obtain ⟨rfl, rfl, rfl⟩ := e
  exact ⟨_, _, _, L, rfl, h1, h2, h3⟩
set_option maxRecDepth 100000 in
theorem v_rats {r : Reach} {b : Nat} {v : Value} {d : DataW H} {p : List MemPlace} {sp : Nat → Bool} {held : Bool} (hv : Value.okWide Tryz.prog W r b 30 v) (h : DataW.Trod enc Tryz.prog W 0 sp held 30 v d p) (hL : Light Tryz.prog 30 d) :
    ∃ a n c, ∃ Q : Nat → R3, v = .slice a n c ∧ n ≤ 140737488351232 ∧ (SArg W a n 3 fun i => (Q i).c) ∧ ∀ i, i < n → (Q i).fits 140737488351232 := by
  obtain ⟨a, n, c, f, rfl, h9⟩ := val_slice Tryz.underlying30 hv h
  obtain ⟨a', n', c', L, e, h1, h2, h3⟩ := arg_rats h9 hL
  simp only [List.cons.injEq, Value.slice.injEq, and_true] at e
  obtain ⟨rfl, rfl, rfl⟩ := e
  exact ⟨_, _, _, L, rfl, h1, h2, h3⟩
set_option maxRecDepth 100000 in
theorem v_u8 {r : Reach} {b : Nat} {v : Value} {d : DataW H} {p : List MemPlace} {sp : Nat → Bool} {held : Bool} (hv : Value.okWide Tryz.prog W r b 5 v) (h : DataW.Trod enc Tryz.prog W 0 sp held 5 v d p) :
    ∃ n : Nat, v = .int .u8 (n : Int) ∧ n ≤ 255 := by
  obtain ⟨n, rfl, -, -, hw⟩ := open_int Tryz.underlying5 hv h
  have hw2 : 0 ≤ n ∧ n ≤ 255 := by simpa [Lit.wf, IntKind.min, IntKind.max, IntKind.signed, IntKind.bits] using hw
  exact ⟨n.toNat, by rw [Int.toNat_of_nonneg hw2.1], by omega⟩
set_option maxRecDepth 100000 in
theorem v_u16 {r : Reach} {b : Nat} {v : Value} {d : DataW H} {p : List MemPlace} {sp : Nat → Bool} {held : Bool} (hv : Value.okWide Tryz.prog W r b 53 v) (h : DataW.Trod enc Tryz.prog W 0 sp held 53 v d p) :
    ∃ n : Nat, v = .int .u16 (n : Int) ∧ n ≤ 65535 := by
  obtain ⟨n, rfl, -, -, hw⟩ := open_int Tryz.underlying53 hv h
  have hw2 : 0 ≤ n ∧ n ≤ 65535 := by simpa [Lit.wf, IntKind.min, IntKind.max, IntKind.signed, IntKind.bits] using hw
  exact ⟨n.toNat, by rw [Int.toNat_of_nonneg hw2.1], by omega⟩
set_option maxRecDepth 100000 in
theorem v_rat {r : Reach} {b : Nat} {v : Value} {d : DataW H} {p : List MemPlace} {sp : Nat → Bool} {held : Bool} (hv : Value.okWide Tryz.prog W r b 33 v) (h : DataW.Trod enc Tryz.prog W 0 sp held 33 v d p) (hL : Light Tryz.prog 33 d) :
    ∃ r : R3, v = .agg #[.bool r.n, .string r.s, .string r.d] ∧ r.fits 140737488351232 := by
  obtain ⟨cs, rfl, -⟩ := okWide_struct Tryz.underlying33 hv
  obtain ⟨f, h9⟩ := h
  obtain ⟨r, e, hf⟩ := rat_cells h9 hL
  have e2 : cs.toList = r.c := e
  refine ⟨r, ?_, hf⟩
  rw [← Array.toArray_toList (xs := cs), e2]; rfl
end
end Go.Proofs.Ins
