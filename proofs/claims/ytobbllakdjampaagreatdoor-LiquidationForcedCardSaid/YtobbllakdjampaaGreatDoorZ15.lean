/- The walk of liquidation.Floor. -/
import Derived.Test.YtobbllakdjampaaGreatDoorZ9
import Derived.OrdersHeld
import Derived.Test.YtobbllakdjampaaGreatDoorZ1
import Derived.Test.YtobbllakdjampaaGreatDoorZ14
import Derived.Test.YtobbllakdjampaaGreatDoorZ11

set_option linter.unusedSimpArgs false
set_option linter.unusedVariables false
namespace Go.Proofs.Ins
open Go.RowKit

/-- An operation that yields a value and enters no function. -/
def plainOp : Op → Bool
  | .move _ | .assign _ | .pick .. | .build .. | .load .. | .binOp .. | .unOp .. | .convert .. | .fieldAddr .. | .field .. | .indexAddr .. | .index .. | .extract .. | .slice .. => true
  | _ => false

theorem plain_run (ρ : Operand → Value) (o : Oper) (h : plainOp o.op = true) : ∃ s : Sem Value, execOp ρ o = (do pure (Next.value (← s))) := by
  unfold execOp
  cases ho : o.op <;> rw [ho] at h <;> try (simp [plainOp] at h; done)
  case move x => exact ⟨pure (ρ x), by simp⟩
  case assign x => exact ⟨pure (ρ x), by simp⟩
  case pick c x y => exact ⟨do pure (if ← asBool (ρ c) then ρ x else ρ y), by simp⟩
  all_goals exact ⟨_, rfl⟩

theorem quiet_plain {P : Program} {o : Oper} {a : Act} {C : World → Prop} {w : World} {v : Value} (hp : plainOp o.op = true) (h : o.quietAt P a C w v) : (execOp a.eval o).run P w = .ok (.value v) w := by
  obtain ⟨s, hs⟩ := plain_run a.eval o hp
  unfold Oper.quietAt at h
  rw [hs] at h ⊢
  simp only [Sem.run_bind, Sem.run_pure] at h ⊢
  cases hr : Sem.run P s w with
  | ok x w' =>
    rw [hr] at h
    simp only [Result.andThen, Oper.quietUpon] at h ⊢
    obtain ⟨rfl, rfl⟩ := h
    rfl
  | halt x w' =>
    rw [hr] at h
    simp only [Result.andThen, Oper.quietUpon] at h

/-- Where a piece of a region ends. -/
def segQ (Q : Exit → Act → World → Prop) (K : Act → World → Prop) : Exit → Act → World → Prop
  | .normal, a, w => K a w
  | e, a, w => Q e a w
theorem segQ_normal {Q : Exit → Act → World → Prop} {K : Act → World → Prop} {a : Act} {w : World} (h : K a w) : segQ Q K .normal a w := h

theorem wp_segQ {P : Program} {o : Oper} {a : Act} {w : World} {K K' : Act → World → Prop} {Q : Exit → Act → World → Prop} (h : o.wp P a w K (segQ Q K')) : o.wp P a w K Q := by
  unfold Oper.wp at *
  generalize (execOp a.eval o).run P w = r at *
  cases r with
  | ok n w' => cases n <;> exact h
  | halt x w' => cases x <;> exact h

theorem wpOp_of_list {P : Program} {ops : Array Oper} {o : Oper} {i : Nat} {a : Act} {w : World} {K : Act → World → Prop} {Q : Exit → Act → World → Prop} (hi : ops[i]? = some o)
    (h : wpList P ops (segQ Q K) [o] a w) : wpOp P ops Q i K a w := by
  unfold wpOp
  simp only [hi]
  unfold wpList at h
  split
  · rename_i hw
    rw [if_pos hw] at h
    rcases h with h | h
    · exact .inl (Oper.wp_mono (fun a w h => h) (wp_segQ h))
    · exact .inr h
  · rename_i hw
    rw [if_neg hw] at h
    exact h

def getOps (l : List Oper) (is : List Nat) : List Oper := is.filterMap fun i => l[i]?

def quietB (md : Region.Mode) (ops : Array Oper) : List Nat → Array Bool → Option (Array Bool)
  | [], listed => some listed
  | q :: qs, listed => match ops[q]? with
    | some o => if (Region.ready md ops listed).contains q && Region.free md ops listed q && plainOp o.op then quietB md ops qs (listed.setIfInBounds q true) else none
    | none => none

section
variable {P : Program} {ops : Array Oper} {md : Region.Mode} {S : World → Prop} {Q : Exit → Act → World → Prop}

end

/-- Q, but 'False' at a panic. -/
def NoPan (Q : Exit → Act → World → Prop) : Exit → Act → World → Prop
  | .panic _, _, _ => False
  | e, a, w => Q e a w
theorem NoPan.imp {Q : Exit → Act → World → Prop} : ∀ (e : Exit) (a : Act) (w : World), NoPan Q e a w → Q e a w := fun e a w h => by
  cases e <;> first | exact h | exact (h : False).elim

/-- A plan of a region: what only reads, then one act, or one of two. -/
inductive STree where
  | fin (qs : List Nat)
  | one (qs : List Nat) (i : Nat) (t : STree)
  | two (qs : List Nat) (i j : Nat) (t u : STree)

def STree.len : STree → Nat
  | .fin qs => qs.length
  | .one qs _ t => t.len + 1 + qs.length
  | .two qs _ _ t _ => t.len + 1 + qs.length

section
variable {P : Program} {ops : Array Oper} {md : Region.Mode} {S : World → Prop} {Q : Exit → Act → World → Prop}
theorem wpOp_ready {l : List Oper} (hl : l.toArray = ops) {l' : Array Bool} {i : Nat} {a : Act} {w : World} {K : Act → World → Prop} (hi : i ∈ Region.ready md ops l')
    (ha : wpList P l.toArray (segQ Q K) (getOps l [i]) a w) : wpOp P ops Q i K a w := by
  obtain ⟨_, o, ho, _⟩ := mem_ready.1 hi
  have hlo : l[i]? = some o := by rw [← hl] at ho; simpa using ho
  have hg : getOps l [i] = [o] := by unfold getOps; rw [List.filterMap_cons, hlo]; rfl
  rw [hg, hl] at ha
  exact wpOp_of_list ho ha

end

/-- A later world: of what was there only the blocks in X may have turned. -/
structure ExcP (W : World) (X : Nat → Bool) where
  d : Nat
  heap : Array Obj
  size : W.heap.size ≤ heap.size
  block : ∀ k, k < W.heap.size → X k = false → heap[k]? = W.heap[k]?
def ExcP.w {W : World} {X : Nat → Bool} (p : ExcP W X) : World := { W with drawn := p.d, heap := p.heap }
instance (W : World) (X : Nat → Bool) : Inhabited (ExcP W X) := ⟨⟨0, W.heap, Nat.le_refl _, fun _ _ _ => rfl⟩⟩
abbrev Exc (W : World) (X : Nat → Bool) : World → Prop := fun w' => ∃ p : ExcP W X, w' = p.w

theorem exc_of {W w' : World} {X : Nat → Bool} (h1 : w'.os = W.os) (h2 : w'.tape = W.tape) (h3 : w'.output = W.output) (h4 : W.heap.size ≤ w'.heap.size) (h5 : ∀ k, k < W.heap.size → X k = false → w'.heap[k]? = W.heap[k]?) : Exc W X w' := by
  refine ⟨⟨w'.drawn, w'.heap, h4, h5⟩, ?_⟩
  obtain ⟨heap', tape', drawn', os', output'⟩ := w'
  simp only at h1 h2 h3
  subst h1 h2 h3
  rfl

/-- The blocks from B on may have turned. -/
def fromB (B : Nat) : Nat → Bool := fun k => decide (B ≤ k)
theorem exc_below {B : Nat} {W w' : World} (h : Below B W w') : Exc W (fromB B) w' :=
  exc_of h.os h.tape h.output h.size fun k _ hk => h.block k (by unfold fromB at hk; simpa using hk)
theorem exc_cell {W : World} {B : Nat} {a : Addr} {v : Value} (h : W.cell? a = some v) (hB : a.block < B) : ∀ p : ExcP W (fromB B), p.w.cell? a = some v := fun p => by
  rw [World.cell?_of_block (w := W) (p.block a.block (block_lt_of_cell h) (by unfold fromB; simpa using hB))]; exact h
end Go.Proofs.Ins

set_option linter.unusedSimpArgs false
set_option linter.unusedVariables false
namespace Go.Proofs.Ins
open Go.RowKit

def u16c (L : Nat → Nat → Nat) (i : Nat) : List Value := [.int .u16 (L i 0 : Int), .int .u16 (L i 1 : Int), .int .u16 (L i 2 : Int), .int .u16 (L i 3 : Int)]

theorem row4 {w w' : World} {b off n k B : Nat} {L : Nat → Nat → Nat} (h : SReads w b off 4 n (u16c L)) (hk : k < n) (hb : Below B w w') (hB : b < B) :
    w'.cell? ⟨b, off + k * 4, none⟩ = some (.int .u16 (L k 0 : Int)) ∧ w'.cell? ⟨b, off + k * 4 + 1, none⟩ = some (.int .u16 (L k 1 : Int)) ∧ w'.cell? ⟨b, off + k * 4 + 2, none⟩ = some (.int .u16 (L k 2 : Int)) ∧ w'.cell? ⟨b, off + k * 4 + 3, none⟩ = some (.int .u16 (L k 3 : Int)) :=
  ⟨(h.below hb hB) k 0 hk (by omega), (h.below hb hB) k 1 hk (by omega), (h.below hb hB) k 2 hk (by omega), (h.below hb hB) k 3 hk (by omega)⟩

/-- A slice of the call's own, handed back. -/
def RetO (w : World) (T : TypeId) (n sz : Nat) (F : Nat → List Value) (e : Ending) (w' : World) : Prop :=
  ∃ v, e = .returned v ∧ SOwn w' w.heap.size T sz v n F ∧ Below w.heap.size w w'
def c16 (L : Nat → Nat) (i : Nat) : List Value := [.int .u16 (L i : Int)]

def lenOf : Value → Nat
  | .slice _ n _ => n
  | _ => 0

end Go.Proofs.Ins

set_option linter.unusedSimpArgs false
set_option linter.unusedVariables false
namespace Go.Proofs.Ins
open Go.RowKit

/-- A voter as one value. -/
def V8.v (v : V8) : Value := .agg #[.int .i64 v.p, .bool v.a.n, .string v.a.s, .string v.a.d, .bool v.k.n, .string v.k.s, .string v.k.d, .bool v.x]
def V8.fits (v : V8) (k : Nat) : Prop := v.a.fits k ∧ v.k.fits k
/-- One of a voter's numbers lies below 0. -/
def negV (v : V8) : Bool := decide (sg v.a.q < 0) || decide (sg v.k.q < 0)
def negR (r : R3) : Bool := decide (sg r.q < 0)

theorem sign_r3 (r : R3) (w : World) (h : r.fits 268435456) :
    Calls Tryz.prog 60 #[.agg #[.bool r.n, .string r.s, .string r.d]] w fun e w' => e = .returned (.int .i64 (sg r.q)) ∧ Below w.heap.size w w' := sign_rat r.n r.s r.d w h.1 h.2

set_option maxRecDepth 100000 in
set_option maxHeartbeats 800000 in
theorem check1_any (v : V8) (w : World) (h : v.fits 268435456) :
    Calls Tryz.prog 59 #[v.v] w fun e w' => e = .returned (.bool (negV v)) ∧ Below w.heap.size w w' := by
  have HC1 := Lib.hid (fun w => sign_r3 v.a w h.1)
  have HC2 := Lib.hid (fun w => sign_r3 v.k w h.2)
  unfold negV V8.v
  clear h
  generalize sg v.a.q = s1 at *
  generalize sg v.k.q = s2 at *
  generalize v.a.n = an at *
  generalize v.a.s = as' at *
  generalize v.a.d = ad at *
  generalize v.k.n = kn at *
  generalize v.k.s = ks at *
  generalize v.k.d = kd at *
  generalize v.p = vp at *
  generalize v.x = vx at *
  generalize hT : (decide (s1 < 0) || decide (s2 < 0)) = T
  have HT := Lib.hid hT
  clear hT
  go_enter Tryz.func59, Tryz.ntmps59
  go_wp2_with fail
  refine (HC1.out _).mono ?_; rintro e w3 ⟨rfl, hb3⟩
  obtain ⟨H1, HB⟩ := boxes1 hb3
  have a4 : w3.cell? ⟨w.heap.size, 4, none⟩ = some (.bool kn) := H1.cell 4
  have a5 : w3.cell? ⟨w.heap.size, 5, none⟩ = some (.string ks) := H1.cell 5
  have a6 : w3.cell? ⟨w.heap.size, 6, none⟩ = some (.string kd) := H1.cell 6
  have HB := Lib.hid HB
  clear hb3 H1
  by_cases h1 : s1 < 0
  · have h2 : decide (s1 < 0) = true := decide_eq_true h1
    have HR := Lib.hid (show T = true by rw [← HT.out, h2]; rfl)
    clear h1
    go_wp2
    go_ret
    exact ⟨ret_bool HR.out.symm, HB.out⟩
  · have h2 : decide (s1 < 0) = false := decide_eq_false h1
    have HR := Lib.hid (show T = decide (s2 < 0) by rw [← HT.out, h2]; rfl)
    clear h1
    go_wp2_with fail
    refine (HC2.out _).mono ?_; rintro e w4 ⟨rfl, hb4⟩
    have HB := Lib.hid (chain HB.out hb4 (Nat.le_refl _))
    clear hb4 a4 a5 a6
    go_wp2
    go_ret
    exact ⟨ret_bool HR.out.symm, HB.out⟩

set_option maxRecDepth 100000 in
set_option maxHeartbeats 800000 in
theorem check2_any (r : R3) (w : World) (h : r.fits 268435456) :
    Calls Tryz.prog 63 #[.agg #[.bool r.n, .string r.s, .string r.d]] w fun e w' => e = .returned (.bool (negR r)) ∧ Below w.heap.size w w' := by
  have HC1 := Lib.hid (fun w => sign_r3 r w h)
  unfold negR
  clear h
  generalize sg r.q = s1 at *
  generalize r.n = an at *
  generalize r.s = as' at *
  generalize r.d = ad at *
  go_enter Tryz.func63, Tryz.ntmps63
  go_wp2_with fail
  refine (HC1.out _).mono ?_; rintro e w3 ⟨rfl, hb3⟩
  have HB := Lib.hid (boxes1 hb3).2
  clear hb3
  go_wp2
  go_ret
  exact ⟨rfl, HB.out⟩

/-- For one below n, as a truth value. -/
def anyB (p : Nat → Bool) (n : Nat) : Bool := (List.range n).any p
theorem anyB_false {p : Nat → Bool} {n : Nat} (h : ∀ i, i < n → p i = false) : anyB p n = false := by
  unfold anyB; rw [List.any_eq_false]; intro x hx; rw [h x (by simpa using hx)]; simp
theorem anyB_true {p : Nat → Bool} {n i : Nat} (hi : i < n) (h : p i = true) : anyB p n = true := by
  unfold anyB; rw [List.any_eq_true]; exact ⟨i, by simpa using hi, h⟩
/-- What an index search hands back. -/
def RetIx (w : World) (b : Bool) (e : Ending) (w' : World) : Prop := ∃ i : Int, e = .returned (.int .i64 i) ∧ decide (0 ≤ i) = b ∧ Below w.heap.size w w'

set_option maxRecDepth 100000 in
set_option maxHeartbeats 800000 in
theorem index_voter (a : Option Addr) (n cap : Nat) (V : Nat → V8) (w : World) (hA : SArg w a n 8 fun i => (V i).c) (hQ : ∀ i, i < n → (V i).fits 268435456) (hn : n ≤ 140737488351232) :
    Calls Tryz.prog 92 #[.slice a n cap, .func (.func 59) #[] #[]] w (RetIx w (anyB (fun i => negV (V i)) n)) := by
  have HQ := Lib.hid hQ
  have HA := Lib.hid hA
  clear hA hQ
  have HE := Lib.hid (fun h2 => anyB_false (n := n) (p := fun i => negV (V i)) h2)
  have HX := Lib.hid (fun i hi h => anyB_true (n := n) (i := i) (p := fun i => negV (V i)) hi h)
  go_enter Tryz.func92, Tryz.ntmps92
  go_wp2
  go_loopw [8] (fun i wr => ∃ k : Nat, i = .int .i64 k ∧ k ≤ n ∧ Hid (∀ i, i < k → negV (V i) = false) ∧ Below w.heap.size w wr) (fun i _ => n - (intOf i).toNat)
  case atStart => exact ⟨0, rfl, by omega, fun i hi => by omega, Below.refl _ _⟩
  case round =>
    obtain ⟨k, rfl, hk, hs, hbel⟩ := hrel
    by_cases hlt : k < n
    · rcases HA.out with h0 | ⟨b, off, rfl, hb, hr⟩
      · omega
      obtain ⟨c0, c1, c2, c3, c4, c5, c6, c7⟩ := (hr.below hbel hb).v8 hlt
      have HC := Lib.hid (fun w => check1_any (V k) w (HQ.out k hlt))
      have HB := Lib.hid hbel
      have hsz := hbel.size
      have HXK := Lib.hid (HX.out k hlt)
      have hsn : (∀ i, i < k → negV (V i) = false) → negV (V k) = false → ∀ i, i < k + 1 → negV (V i) = false := fun h1 h2 i hi => by
        by_cases e : i = k
        · rw [e]; exact h2
        · exact h1 i (by omega)
      have HSN := Lib.hid (hsn hs.out)
      generalize negV (V k) = sb at *
      unfold V8.v at HC
      have HK := Lib.hid (show decide (0 ≤ (k : Int)) = true by simp)
      clear hr hbel hsn
      go_wp2_with fail
      refine (HC.out _).mono ?_; rintro e w3 ⟨rfl, hb3⟩
      have HB3 := Lib.hid (chain HB.out hb3 (Nat.le_refl _))
      clear hb3
      cases sb
      · go_wp2
        go_roundw
        case rel => exact ⟨k + 1, by go_num, by omega, HSN.out (by first | rfl | trivial), HB3.out⟩
        case measure => simp [intOf]; omega
      · go_wp2
        go_ret
        exact ⟨_, rfl, by rw [HXK.out (by first | rfl | trivial)]; exact HK.out, HB3.out⟩
    · obtain rfl : k = n := by omega
      have HF := Lib.hid (HE.out hs.out)
      clear HX HE
      go_wp2
      go_ret
      exact ⟨_, rfl, by rw [HF.out]; rfl, hbel⟩

set_option maxRecDepth 100000 in
set_option maxHeartbeats 800000 in
theorem contains_voter (a : Option Addr) (n cap : Nat) (V : Nat → V8) (w : World) (hA : SArg w a n 8 fun i => (V i).c) (hQ : ∀ i, i < n → (V i).fits 268435456) (hn : n ≤ 140737488351232) :
    Calls Tryz.prog 61 #[.slice a n cap, .func (.func 59) #[] #[]] w fun e w' => e = .returned (.bool (anyB (fun i => negV (V i)) n)) ∧ Below w.heap.size w w' := by
  have HC := Lib.hid (index_voter a n cap V w hA hQ hn)
  generalize anyB (fun i => negV (V i)) n = T at *
  clear hA hQ
  go_enter Tryz.func61, Tryz.ntmps61
  go_wp2_with fail
  refine HC.out.mono ?_
  rintro e w3 ⟨i, rfl, hi, hb3⟩
  have HI := Lib.hid hi
  have HB3 := Lib.hid hb3
  clear hi hb3 HC
  go_wp2
  go_ret
  exact ⟨ret_bool HI.out, HB3.out⟩

set_option maxRecDepth 100000 in
set_option maxHeartbeats 800000 in
theorem index_rat (a : Option Addr) (n cap : Nat) (V : Nat → R3) (w : World) (hA : SArg w a n 3 fun i => (V i).c) (hQ : ∀ i, i < n → (V i).fits 268435456) (hn : n ≤ 140737488351232) :
    Calls Tryz.prog 93 #[.slice a n cap, .func (.func 63) #[] #[]] w (RetIx w (anyB (fun i => negR (V i)) n)) := by
  have HQ := Lib.hid hQ
  have HA := Lib.hid hA
  clear hA hQ
  have HE := Lib.hid (fun h2 => anyB_false (n := n) (p := fun i => negR (V i)) h2)
  have HX := Lib.hid (fun i hi h => anyB_true (n := n) (i := i) (p := fun i => negR (V i)) hi h)
  go_enter Tryz.func93, Tryz.ntmps93
  go_wp2
  go_loopw [8] (fun i wr => ∃ k : Nat, i = .int .i64 k ∧ k ≤ n ∧ Hid (∀ i, i < k → negR (V i) = false) ∧ Below w.heap.size w wr) (fun i _ => n - (intOf i).toNat)
  case atStart => exact ⟨0, rfl, by omega, fun i hi => by omega, Below.refl _ _⟩
  case round =>
    obtain ⟨k, rfl, hk, hs, hbel⟩ := hrel
    by_cases hlt : k < n
    · rcases HA.out with h0 | ⟨b, off, rfl, hb, hr⟩
      · omega
      obtain ⟨c0, c1, c2⟩ := (hr.below hbel hb).r3 hlt
      have HC := Lib.hid (fun w => check2_any (V k) w (HQ.out k hlt))
      have HB := Lib.hid hbel
      have hsz := hbel.size
      have HXK := Lib.hid (HX.out k hlt)
      have hsn : (∀ i, i < k → negR (V i) = false) → negR (V k) = false → ∀ i, i < k + 1 → negR (V i) = false := fun h1 h2 i hi => by
        by_cases e : i = k
        · rw [e]; exact h2
        · exact h1 i (by omega)
      have HSN := Lib.hid (hsn hs.out)
      generalize negR (V k) = sb at *
      skip
      have HK := Lib.hid (show decide (0 ≤ (k : Int)) = true by simp)
      clear hr hbel hsn
      go_wp2_with fail
      refine (HC.out _).mono ?_; rintro e w3 ⟨rfl, hb3⟩
      have HB3 := Lib.hid (chain HB.out hb3 (Nat.le_refl _))
      clear hb3
      cases sb
      · go_wp2
        go_roundw
        case rel => exact ⟨k + 1, by go_num, by omega, HSN.out (by first | rfl | trivial), HB3.out⟩
        case measure => simp [intOf]; omega
      · go_wp2
        go_ret
        exact ⟨_, rfl, by rw [HXK.out (by first | rfl | trivial)]; exact HK.out, HB3.out⟩
    · obtain rfl : k = n := by omega
      have HF := Lib.hid (HE.out hs.out)
      clear HX HE
      go_wp2
      go_ret
      exact ⟨_, rfl, by rw [HF.out]; rfl, hbel⟩

set_option maxRecDepth 100000 in
set_option maxHeartbeats 800000 in
theorem contains_rat (a : Option Addr) (n cap : Nat) (V : Nat → R3) (w : World) (hA : SArg w a n 3 fun i => (V i).c) (hQ : ∀ i, i < n → (V i).fits 268435456) (hn : n ≤ 140737488351232) :
    Calls Tryz.prog 62 #[.slice a n cap, .func (.func 63) #[] #[]] w fun e w' => e = .returned (.bool (anyB (fun i => negR (V i)) n)) ∧ Below w.heap.size w w' := by
  have HC := Lib.hid (index_rat a n cap V w hA hQ hn)
  generalize anyB (fun i => negR (V i)) n = T at *
  clear hA hQ
  go_enter Tryz.func62, Tryz.ntmps62
  go_wp2_with fail
  refine HC.out.mono ?_
  rintro e w3 ⟨i, rfl, hi, hb3⟩
  have HI := Lib.hid hi
  have HB3 := Lib.hid hb3
  clear hi hb3 HC
  go_wp2
  go_ret
  exact ⟨ret_bool HI.out, HB3.out⟩

/-- What a check of voters and amounts says. -/
def chk (n m : Nat) (V : Nat → V8) (Q : Nat → R3) : Int := if 64 < n then 2 else if m ≠ n then 4 else if (anyB (fun i => negV (V i)) n || anyB (fun i => negR (Q i)) m) = true then 7 else 0

set_option maxRecDepth 100000 in
set_option maxHeartbeats 800000 in
theorem check_any (a1 : Option Addr) (n c1 : Nat) (a2 : Option Addr) (m c2 : Nat) (V : Nat → V8) (Q : Nat → R3) (w : World) (hV : SArg w a1 n 8 fun i => (V i).c) (hA : SArg w a2 m 3 fun i => (Q i).c)
    (fV : ∀ i, i < n → (V i).fits 268435456) (fQ : ∀ i, i < m → (Q i).fits 268435456) (hn : n ≤ 140737488351232) (hm : m ≤ 140737488351232) :
    Calls Tryz.prog 28 #[.slice a1 n c1, .slice a2 m c2] w fun e w' => e = .returned (.int .i64 (chk n m V Q)) ∧ Below w.heap.size w w' := by
  have HC1 := Lib.hid (fun w (h : SArg w a1 n 8 fun i => (V i).c) => contains_voter a1 n c1 V w h fV hn)
  have HC2 := Lib.hid (fun w (h : SArg w a2 m 3 fun i => (Q i).c) => contains_rat a2 m c2 Q w h fQ hm)
  have HV := Lib.hid hV
  have HA := Lib.hid hA
  clear hV hA fV fQ
  unfold chk
  generalize anyB (fun i => negV (V i)) n = T1 at *
  generalize anyB (fun i => negR (Q i)) m = T2 at *
  by_cases h1 : 64 < n
  · rw [if_pos h1]
    go_enter Tryz.func28, Tryz.ntmps28
    go_wp2
    go_ret
    exact ⟨rfl, Below.refl _ _⟩
  · rw [if_neg h1]
    have hl1 : decide (64 < n) = false := by simp; omega
    have hl1' : decide ((64 : Int) < (n : Int)) = false := by simp; omega
    by_cases h2 : m = n
    · rw [if_neg (by omega)]
      generalize hR : (if (T1 || T2) = true then (7 : Int) else 0) = R
      have HR := Lib.hid hR
      clear hR
      subst h2
      go_enter Tryz.func28, Tryz.ntmps28
      go_wp2_with fail
      refine (HC1.out _ HV.out).mono ?_
      rintro e w3 ⟨rfl, hb3⟩
      have HB := Lib.hid hb3
      have HA2 := Lib.hid (HA.out.on hb3)
      clear hb3
      cases T1
      · go_wp2_with fail
        refine (HC2.out _ HA2.out).mono ?_
        rintro e w4 ⟨rfl, hb4⟩
        have HB := Lib.hid (chain HB.out hb4 (Nat.le_refl _))
        clear hb4
        cases T2
        · have HR2 := Lib.hid (show R = 0 from HR.out.symm.trans rfl)
          go_wp2
          go_ret
          exact ⟨by rw [HR2.out]; rfl, HB.out⟩
        · have HR2 := Lib.hid (show R = 7 from HR.out.symm.trans rfl)
          go_wp2
          go_ret
          exact ⟨by rw [HR2.out]; rfl, HB.out⟩
      · have HR2 := Lib.hid (show R = 7 from HR.out.symm.trans rfl)
        go_wp2
        go_ret
        exact ⟨by rw [HR2.out]; rfl, HB.out⟩
    · rw [if_pos h2]
      have h2' : ((m : Int) == (n : Int)) = false := by simp; omega
      have h2'' : ¬ ((m : Int) = (n : Int)) := by omega
      go_enter Tryz.func28, Tryz.ntmps28
      go_wp2
      go_ret
      exact ⟨rfl, Below.refl _ _⟩

/-- The least share of one voter. -/
def leastR (v : V8) (x : R3) : R3 := if x.q = 0 then ofQ 0 else if v.a.q = 0 then v.k else ofQ (minR (x.q / v.a.q) v.k.q)
theorem sg_eq_zero {q : Rat} : sg q = 0 ↔ q = 0 := by
  unfold sg; by_cases h : q = 0
  · simp [h]
  · rw [if_neg h]; by_cases h2 : q < 0
    · rw [if_pos h2]; simp [h]
    · rw [if_neg h2]; simp [h]

set_option maxRecDepth 100000 in
set_option maxHeartbeats 1600000 in
theorem least_any (v : V8) (x : R3) (w : World) (hv : v.fits 1000) (hx : x.fits 1000) :
    Calls Tryz.prog 30 #[v.v, .agg #[.bool x.n, .string x.s, .string x.d]] w fun e w' => e = .returned (.agg #[.bool (leastR v x).n, .string (leastR v x).s, .string (leastR v x).d]) ∧ Below w.heap.size w w' := by
  obtain ⟨⟨hv1, hv2⟩, hv3, hv4⟩ := hv
  obtain ⟨hx1, hx2⟩ := hx
  have HS := Lib.hid (fun w => sign_r3 x w ⟨by omega, by omega⟩)
  have HD := Lib.hid (fun w => divide_rat x.n x.s x.d v.a.n v.a.s v.a.d w (by omega) (by omega))
  unfold leastR V8.v
  have hq1 : rq x.n x.s x.d = x.q := rfl
  have hq2 : rq v.a.n v.a.s v.a.d = v.a.q := rfl
  rw [hq1, hq2] at HD
  clear hq1 hq2
  by_cases h1 : x.q = 0
  · rw [if_pos h1]
    have h2 := sg_eq_zero.mpr h1
    rw [h2] at HS
    unfold ofQ
    rw [rn_zero, rs_zero, rd_zero]
    clear HD h1 h2
    generalize x.n = xn at *
    generalize x.s = xs at *
    generalize x.d = xd at *
    generalize v.a.n = an at *
    generalize v.a.s = as' at *
    generalize v.a.d = ad at *
    generalize v.k.n = kn at *
    generalize v.k.s = ks at *
    generalize v.k.d = kd at *
    generalize v.p = vp at *
    generalize v.x = vx at *
    go_enter Tryz.func30, Tryz.ntmps30
    go_wp2_with fail
    refine (HS.out _).mono ?_; rintro e w3 ⟨rfl, hb3⟩
    obtain ⟨H1, H2, H3, HB⟩ := boxes3 hb3
    obtain ⟨a0, a1, a2, a3, a4, a5⟩ := H3.get3
    have H2 := Lib.hid H3
    have HB := Lib.hid HB
    clear hb3 H1 H3
    go_wp2
    refine bodyPost_forget (fun W => Blk W (w.heap.size + 1 + 1) #[.bool false, .string ⟨#[]⟩, .string ⟨#[]⟩] ∧ Below w.heap.size w W) ⟨by exact Blk.set3 H2.out _ _ _, below_set3 HB.out (by omega) _ _ _⟩ ?_
    rintro WR ⟨hr9, hb9⟩
    obtain ⟨y90, y91, y92, -, -, -⟩ := hr9.get3
    exact bodyPost_ret (v := .agg #[.bool false, .string ⟨#[]⟩, .string ⟨#[]⟩]) (by simp [results, Tryz.results30, go_sem, y90, y91, y92]) rfl ⟨rfl, hb9⟩
  · rw [if_neg h1]
    have h2 : (sg x.q == 0) = false := by simp [sg_eq_zero, h1]
    have h2' : ¬ sg x.q = 0 := by simp [sg_eq_zero, h1]
    by_cases h3 : v.a.q = 0
    · rw [if_pos h3]
      unfold rvB at HD
      rw [h3] at HD
      have hok : okR 0 = false := by decide
      rw [hok] at HD
      generalize rn (divR x.q 0) = r1 at *
      generalize rs (divR x.q 0) = r2 at *
      generalize rd (divR x.q 0) = r3 at *
      generalize sg x.q = sx at *
      clear h1 h3 hok
      generalize x.n = xn at *
      generalize x.s = xs at *
      generalize x.d = xd at *
      generalize v.a.n = an at *
      generalize v.a.s = as' at *
      generalize v.a.d = ad at *
      generalize v.k.n = kn at *
      generalize v.k.s = ks at *
      generalize v.k.d = kd at *
      generalize v.p = vp at *
      generalize v.x = vx at *
      go_enter Tryz.func30, Tryz.ntmps30
      go_wp2_with fail
      refine (HS.out _).mono ?_; rintro e w3 ⟨rfl, hb3⟩
      obtain ⟨H1, H2, H3, HB⟩ := boxes3 hb3
      obtain ⟨a0, a1, a2, -, -, -⟩ := H2.get3
      have b1 : w3.cell? ⟨w.heap.size, 1, none⟩ = some (.bool an) := H1.cell 1
      have b2 : w3.cell? ⟨w.heap.size, 2, none⟩ = some (.string as') := H1.cell 2
      have b3 : w3.cell? ⟨w.heap.size, 3, none⟩ = some (.string ad) := H1.cell 3
      have H1 := Lib.hid H1
      have H3 := Lib.hid H3
      have HB := Lib.hid HB
      clear hb3 H2
      go_wp2_with fail
      refine (HD.out _).mono ?_; rintro e w4 ⟨rfl, hb4⟩
      have J1 := Lib.hid (H1.out.on hb4)
      have H4 := H3.out.on hb4
      have HB := Lib.hid (chain HB.out hb4 (Nat.le_refl _))
      have b1 : (w4.alloc (.cells #[.bool r1, .string r2, .string r3] 30)).cell? ⟨w.heap.size, 4, none⟩ = some (.bool kn) := (J1.out.alloc _).cell 4
      have b2 : (w4.alloc (.cells #[.bool r1, .string r2, .string r3] 30)).cell? ⟨w.heap.size, 5, none⟩ = some (.string ks) := (J1.out.alloc _).cell 5
      have b3 : (w4.alloc (.cells #[.bool r1, .string r2, .string r3] 30)).cell? ⟨w.heap.size, 6, none⟩ = some (.string kd) := (J1.out.alloc _).cell 6
      obtain ⟨f0, f1, f2, f3, f4, f5⟩ := (H4.alloc (.cells #[.bool r1, .string r2, .string r3] 30)).get3
      have hz4 : w.heap.size + 1 + 1 < w4.heap.size := H4.lt
      have H5 := Lib.hid H4
      have HB5 := Lib.hid HB.out
      obtain ⟨g0, g1, g2, g3, g4, g5⟩ := H4.get3
      have H2 := Lib.hid (H4.alloc (.cells #[.bool r1, .string r2, .string r3] 30))
      have HB := Lib.hid (HB.out.alloc (by omega) (.cells #[.bool r1, .string r2, .string r3] 30))
      clear hb4 H1 H3 a0 a1 a2 H4
      go_wp2
      refine bodyPost_forget (fun W => Blk W (w.heap.size + 1 + 1) #[.bool kn, .string ks, .string kd] ∧ Below w.heap.size w W) ⟨(Blk.set3 H5.out _ _ _).alloc _, (below_set3 HB5.out (by omega) _ _ _).alloc (by simp; omega) _⟩ ?_
      rintro WR ⟨hr9, hb9⟩
      obtain ⟨y90, y91, y92, -, -, -⟩ := hr9.get3
      exact bodyPost_ret (v := .agg #[.bool kn, .string ks, .string kd]) (by simp [results, Tryz.results30, go_sem, y90, y91, y92]) rfl ⟨rfl, hb9⟩
    · rw [if_neg h3]
      unfold rvB at HD
      have hok : okR v.a.q = true := by unfold okR; simp [h3]
      have hdv : divR x.q v.a.q = x.q / v.a.q := by unfold divR; rw [if_neg h3]
      rw [hok, hdv] at HD
      have hsm : Sm 4002 (x.q / v.a.q) := ((sm_raw x.n x.s x.d).div (sm_raw v.a.n v.a.s v.a.d) h3).mono (by omega)
      have hM := fun w => min_rat (rn (x.q / v.a.q)) (rs (x.q / v.a.q)) (rd (x.q / v.a.q)) v.k.n v.k.s v.k.d w (by have := hsm.rs; have := hsm.rd; omega) (by omega)
      have hq3 : rq v.k.n v.k.s v.k.d = v.k.q := rfl
      rw [rq_of, hq3] at hM
      unfold rv at hM
      have HM := Lib.hid hM
      unfold ofQ
      generalize minR (x.q / v.a.q) v.k.q = M at *
      generalize x.q / v.a.q = R at *
      clear hsm hM hdv hok h1 h3 hq3
      generalize rn M = m1 at *
      generalize rs M = m2 at *
      generalize rd M = m3 at *
      generalize rn R = r1 at *
      generalize rs R = r2 at *
      generalize rd R = r3 at *
      generalize sg x.q = sx at *
      generalize x.n = xn at *
      generalize x.s = xs at *
      generalize x.d = xd at *
      generalize v.a.n = an at *
      generalize v.a.s = as' at *
      generalize v.a.d = ad at *
      generalize v.k.n = kn at *
      generalize v.k.s = ks at *
      generalize v.k.d = kd at *
      generalize v.p = vp at *
      generalize v.x = vx at *
      go_enter Tryz.func30, Tryz.ntmps30
      go_wp2_with fail
      refine (HS.out _).mono ?_; rintro e w3 ⟨rfl, hb3⟩
      obtain ⟨H1, H2, H3, HB⟩ := boxes3 hb3
      obtain ⟨a0, a1, a2, -, -, -⟩ := H2.get3
      have b1 : w3.cell? ⟨w.heap.size, 1, none⟩ = some (.bool an) := H1.cell 1
      have b2 : w3.cell? ⟨w.heap.size, 2, none⟩ = some (.string as') := H1.cell 2
      have b3 : w3.cell? ⟨w.heap.size, 3, none⟩ = some (.string ad) := H1.cell 3
      have H1 := Lib.hid H1
      have H3 := Lib.hid H3
      have HB := Lib.hid HB
      clear hb3 H2
      go_wp2_with fail
      refine (HD.out _).mono ?_; rintro e w4 ⟨rfl, hb4⟩
      have J1 := Lib.hid (H1.out.on hb4)
      have H4 := H3.out.on hb4
      have HB := Lib.hid (chain HB.out hb4 (Nat.le_refl _))
      have b1 : (w4.alloc (.cells #[.bool r1, .string r2, .string r3] 30)).cell? ⟨w.heap.size, 4, none⟩ = some (.bool kn) := (J1.out.alloc _).cell 4
      have b2 : (w4.alloc (.cells #[.bool r1, .string r2, .string r3] 30)).cell? ⟨w.heap.size, 5, none⟩ = some (.string ks) := (J1.out.alloc _).cell 5
      have b3 : (w4.alloc (.cells #[.bool r1, .string r2, .string r3] 30)).cell? ⟨w.heap.size, 6, none⟩ = some (.string kd) := (J1.out.alloc _).cell 6
      obtain ⟨f0, f1, f2, f3, f4, f5⟩ := (H4.alloc (.cells #[.bool r1, .string r2, .string r3] 30)).get3
      have hz4 : w.heap.size + 1 + 1 < w4.heap.size := H4.lt
      have H5 := Lib.hid H4
      have HB5 := Lib.hid HB.out
      obtain ⟨g0, g1, g2, g3, g4, g5⟩ := H4.get3
      have H2 := Lib.hid (H4.alloc (.cells #[.bool r1, .string r2, .string r3] 30))
      have HB := Lib.hid (HB.out.alloc (by omega) (.cells #[.bool r1, .string r2, .string r3] 30))
      clear hb4 H1 H3 a0 a1 a2 H4
      clear f0 f1 f2 f3 f4 f5
      go_wp2_with fail
      refine (HM.out _).mono ?_; rintro e w5 ⟨rfl, hb5⟩
      have H2 := Lib.hid (H2.out.on hb5)
      have HB := Lib.hid (chain HB.out hb5 (Nat.le_refl _))
      obtain ⟨f0, f1, f2, f3, f4, f5⟩ := H2.out.get3
      clear hb5 b1 b2 b3
      go_wp2
      refine bodyPost_forget (fun W => Blk W (w.heap.size + 1 + 1) #[.bool m1, .string m2, .string m3] ∧ Below w.heap.size w W) ⟨by exact Blk.set3 H2.out _ _ _, below_set3 HB.out (by omega) _ _ _⟩ ?_
      rintro WR ⟨hr9, hb9⟩
      obtain ⟨y90, y91, y92, -, -, -⟩ := hr9.get3
      exact bodyPost_ret (v := .agg #[.bool m1, .string m2, .string m3]) (by simp [results, Tryz.results30, go_sem, y90, y91, y92]) rfl ⟨rfl, hb9⟩
end Go.Proofs.Ins

set_option linter.unusedSimpArgs false
set_option linter.unusedVariables false
namespace Go.Proofs.Ins
open Go.RowKit

theorem maxR_or (p q : Rat) : maxR p q = p ∨ maxR p q = q := by unfold maxR; split <;> simp
theorem minR_or (p q : Rat) : minR p q = p ∨ minR p q = q := by unfold minR; split <;> simp
theorem sm_maxR {k : Nat} {p q : Rat} (h : Sm k p) (h2 : Sm k q) : Sm k (maxR p q) := by rcases maxR_or p q with e | e <;> rw [e] <;> assumption
theorem sm_minR {k : Nat} {p q : Rat} (h : Sm k p) (h2 : Sm k q) : Sm k (minR p q) := by rcases minR_or p q with e | e <;> rw [e] <;> assumption
def leastQ (v : V8) (x : R3) : Rat := (leastR v x).q
theorem leastQ_eq (v : V8) (x : R3) : leastQ v x = if x.q = 0 then 0 else if v.a.q = 0 then v.k.q else minR (x.q / v.a.q) v.k.q := by
  unfold leastQ leastR
  split
  · exact ofQ_q 0
  · split
    · rfl
    · exact ofQ_q _
theorem sm_r3 {r : R3} {k : Nat} (h : r.fits k) : Sm (k + k + 1) r.q := (sm_raw r.n r.s r.d).mono (by have := h.1; have := h.2; omega)
theorem sm_least {v : V8} {x : R3} (hv : v.fits 1000) (hx : x.fits 1000) : Sm 4002 (leastQ v x) := by
  rw [leastQ_eq]
  split
  · exact sm_zero _ (by omega)
  · split
    · exact (sm_r3 hv.2).mono (by omega)
    · rename_i h
      exact sm_minR (((sm_r3 hx).div (sm_r3 hv.1) h).mono (by omega)) ((sm_r3 hv.2).mono (by omega))
theorem least_fits {v : V8} {x : R3} (hv : v.fits 1000) (hx : x.fits 1000) : (leastR v x).fits 4002 := by
  unfold leastR
  split
  · exact ofQ_fits (sm_zero _ (by omega))
  · split
    · exact ⟨Nat.le_trans hv.2.1 (by omega), Nat.le_trans hv.2.2 (by omega)⟩
    · rename_i h
      exact ofQ_fits (sm_minR (((sm_r3 hx).div (sm_r3 hv.1) h).mono (by omega)) ((sm_r3 hv.2).mono (by omega)))
/-- The greatest of the least shares. -/
def flo (V : Nat → V8) (A : Nat → R3) : Nat → Rat
  | 0 => 0
  | k + 1 => maxR (flo V A k) (leastQ (V k) (A k))
theorem sm_flo {V : Nat → V8} {A : Nat → R3} : ∀ n, (∀ i, i < n → (V i).fits 1000) → (∀ i, i < n → (A i).fits 1000) → Sm 4002 (flo V A n)
  | 0, _, _ => sm_zero _ (by omega)
  | n + 1, h1, h2 => sm_maxR (sm_flo n (fun i hi => h1 i (by omega)) fun i hi => h2 i (by omega)) (sm_least (h1 n (by omega)) (h2 n (by omega)))
/-- The floor. -/
def flQ (n m : Nat) (V : Nat → V8) (A : Nat → R3) : Rat := if chk n m V A = 0 then minR (flo V A n) 1 else 0

set_option maxRecDepth 100000 in
set_option maxHeartbeats 1600000 in
theorem floor_any (a1 : Option Addr) (n c1 : Nat) (a2 : Option Addr) (m c2 : Nat) (V : Nat → V8) (A : Nat → R3) (w : World) (hV : SArg w a1 n 8 fun i => (V i).c) (hA : SArg w a2 m 3 fun i => (A i).c)
    (fV : ∀ i, i < n → (V i).fits 1000) (fA : ∀ i, i < m → (A i).fits 1000) (hn : n ≤ 1000000) (hm : m ≤ 1000000) :
    Calls Tryz.prog 11 #[.slice a1 n c1, .slice a2 m c2] w fun e w' => e = .returned (.tuple #[rv (flQ n m V A), .int .i64 (chk n m V A)]) ∧ Below w.heap.size w w' := by
  have HC := Lib.hid (fun w (h1 : SArg w a1 n 8 fun i => (V i).c) (h2 : SArg w a2 m 3 fun i => (A i).c) => check_any a1 n c1 a2 m c2 V A w h1 h2 (fun i hi => by have := fV i hi; exact ⟨⟨by have := this.1.1; omega, by have := this.1.2; omega⟩, ⟨by have := this.2.1; omega, by have := this.2.2; omega⟩⟩) (fun i hi => by have := fA i hi; exact ⟨by have := this.1; omega, by have := this.2; omega⟩) (by omega) (by omega))
  have HV := Lib.hid (hV.on ((Below.refl w.heap.size w).alloc (Nat.le_refl _) (.cells #[.bool false, .string ⟨#[]⟩, .string ⟨#[]⟩] 30)))
  have HA := Lib.hid (hA.on ((Below.refl w.heap.size w).alloc (Nat.le_refl _) (.cells #[.bool false, .string ⟨#[]⟩, .string ⟨#[]⟩] 30)))
  have HV0 := Lib.hid hV
  have HA0 := Lib.hid hA
  by_cases hc : chk n m V A = 0
  · have hmn : m = n := by
      unfold chk at hc
      by_cases h1 : 64 < n
      · rw [if_pos h1] at hc; cases hc
      · rw [if_neg h1] at hc
        by_cases h2 : m = n
        · exact h2
        · rw [if_pos h2] at hc; cases hc
    subst hmn
    have hq : flQ m m V A = minR (flo V A m) 1 := by unfold flQ; rw [if_pos hc]
    rw [hq, hc]
    rw [hc] at HC
    unfold rv
    have hsf := sm_flo (V := V) (A := A) m fV fA
    have h1s : Sm 1 (1 : Rat) := ⟨by decide, by decide⟩
    have hM := fun w => min_rat (rn (flo V A m)) (rs (flo V A m)) (rd (flo V A m)) (rn 1) (rs 1) (rd 1) w (by have := hsf.rs; have := hsf.rd; omega) (by have := h1s.rs; have := h1s.rd; omega)
    rw [rq_of, rq_of] at hM
    unfold rv at hM
    have HM := Lib.hid hM
    have hI := fun w => int_any 1 w (by omega) (by omega)
    rw [show (((1 : Int) : Rat)) = 1 from rfl] at hI
    have HI := Lib.hid hI
    have HFV := Lib.hid fV
    have HFA := Lib.hid fA
    generalize minR (flo V A m) 1 = T at *
    generalize rn T = t1 at *
    generalize rs T = t2 at *
    generalize rd T = t3 at *
    generalize rn 1 = o1 at *
    generalize rs 1 = o2 at *
    generalize rd 1 = o3 at *
    clear hq hsf h1s hM hI fV fA hV hA hc
    go_enter Tryz.func11, Tryz.ntmps11
    go_wp2_with fail
    refine (HC.out _ HV.out HA.out).mono ?_
    rintro e w3 ⟨rfl, hb3⟩
    obtain ⟨H1, HB⟩ := boxes1 hb3
    have hz3 := H1.lt
    have H1 := Lib.hid (H1.alloc (.cells #[.bool false, .string ⟨#[]⟩, .string ⟨#[]⟩] 30))
    have H2 := Lib.hid (Blk.new w3 #[.bool false, .string ⟨#[]⟩, .string ⟨#[]⟩] 30)
    have HB := Lib.hid (HB.alloc (by omega) (.cells #[.bool false, .string ⟨#[]⟩, .string ⟨#[]⟩] 30))
    clear hb3 HV HA HC
    go_wp2_with fail
    go_loopw [19] (fun i wr => ∃ k : Nat, i = .int .i64 k ∧ k ≤ m ∧ Blk wr w.heap.size #[.bool false, .string ⟨#[]⟩, .string ⟨#[]⟩] ∧ Blk wr w3.heap.size (ofQ (flo V A k)).c.toArray ∧ Below w.heap.size w wr) (fun i _ => m - (intOf i).toNat)
    case atStart => exact ⟨0, rfl, by omega, H1.out, H2.out, HB.out⟩
    case round =>
      obtain ⟨k, rfl, hk, J1, J2, hbel⟩ := hrel
      have HB4 := Lib.hid hbel
      have hzr := J2.lt
      have hzw := hbel.size
      by_cases hlt : k < m
      · skip
        rcases HV0.out with h0 | ⟨bv, ov, rfl, lv, rv'⟩
        · omega
        rcases HA0.out with h0 | ⟨ba, oa, rfl, la, ra⟩
        · omega
        obtain ⟨v0, v1, v2, v3, v4, v5, v6, v7⟩ := (rv'.below hbel lv).v8 hlt
        have hlq := sm_least (HFV.out k hlt) (HFA.out k hlt)
        have hlf := least_fits (HFV.out k hlt) (HFA.out k hlt)
        have hsf := sm_flo (V := V) (A := A) k (fun i hi => HFV.out i (by omega)) (fun i hi => HFA.out i (by omega))
        have HL := Lib.hid (fun w => least_any (V k) (A k) w (HFV.out k hlt) (HFA.out k hlt))
        have hX := fun w => max_rat (rn (flo V A k)) (rs (flo V A k)) (rd (flo V A k)) (leastR (V k) (A k)).n (leastR (V k) (A k)).s (leastR (V k) (A k)).d w (by have := hsf.rs; have := hsf.rd; omega) (by have := hlf.1; have := hlf.2; omega)
        rw [rq_of, show rq (leastR (V k) (A k)).n (leastR (V k) (A k)).s (leastR (V k) (A k)).d = leastQ (V k) (A k) from rfl, show maxR (flo V A k) (leastQ (V k) (A k)) = flo V A (k + 1) from rfl] at hX
        unfold rv at hX
        have HX := Lib.hid hX
        have JK := Lib.hid (show Blk wr w3.heap.size #[.bool (rn (flo V A k)), .string (rs (flo V A k)), .string (rd (flo V A k))] from J2)
        have HJ1 := Lib.hid J1
        have hgoal : ∀ W, Blk W w3.heap.size #[.bool (rn (flo V A (k + 1))), .string (rs (flo V A (k + 1))), .string (rd (flo V A (k + 1)))] → Blk W w3.heap.size (ofQ (flo V A (k + 1))).c.toArray := fun W h => h
        have HGO := Lib.hid hgoal
        have hca : ∀ W, Below w.heap.size w W → W.cell? ⟨ba, oa + k * 3, none⟩ = some (.bool (A k).n) ∧ W.cell? ⟨ba, oa + k * 3 + 1, none⟩ = some (.string (A k).s) ∧ W.cell? ⟨ba, oa + k * 3 + 2, none⟩ = some (.string (A k).d) := fun W h => (ra.below h la).r3 hlt
        have HCA := Lib.hid hca
        clear J1 J2 rv' ra hlq hlf hsf hX hgoal hca
        generalize hF2 : flo V A (k + 1) = F2 at *
        have HF2 := Lib.hid hF2
        clear hF2
        unfold V8.v at HL
        generalize flo V A k = F1 at *
        generalize rn F1 = g1 at *
        generalize rs F1 = g2 at *
        generalize rd F1 = g3 at *
        generalize hlr : leastR (V k) (A k) = LR at *
        generalize LR.n = l1 at *
        generalize LR.s = l2 at *
        generalize LR.d = l3 at *
        clear hlr
        generalize hvk : V k = vk at *
        generalize hak : A k = ak at *
        generalize vk.p = vp at *
        generalize vk.a.n = an at *
        generalize vk.a.s = as' at *
        generalize vk.a.d = ad at *
        generalize vk.k.n = kn at *
        generalize vk.k.s = ks at *
        generalize vk.k.d = kd at *
        generalize vk.x = vx at *
        generalize ak.n = xn at *
        generalize ak.s = xs at *
        generalize ak.d = xd at *
        clear hvk hak
        have i1 : (0 : Int) ≤ (k : Int) := by omega
        have i2 : (k : Int) < (m : Int) := by omega
        generalize rn F2 = n1 at *
        generalize rs F2 = n2 at *
        generalize rd F2 = n3 at *
        clear HM HI HFV HFA HV0 HA0
        go_wp2_with fail
        refine wp_forget (fun W => Blk W w3.heap.size #[.bool g1, .string g2, .string g3] ∧ Blk W wr.heap.size #[.int .i64 vp, .bool an, .string as', .string ad, .bool kn, .string ks, .string kd, .bool vx] ∧ Blk W w.heap.size #[.bool false, .string ⟨#[]⟩, .string ⟨#[]⟩] ∧ Below w.heap.size w W)
          ⟨JK.out.alloc _, Blk.new wr _ _, HJ1.out.alloc _, HB4.out.alloc (by omega) _⟩ ?_
        rintro W ⟨H1, H2, H3, HBW⟩
        obtain ⟨q0, q1, q2⟩ := HCA.out W HBW
        obtain ⟨k0, k1, k2⟩ := H1.later3
        have k3 := cell_regrown (H2.cell 0)
        have k4 := cell_regrown (H2.cell 1)
        have k5 := cell_regrown (H2.cell 2)
        have k6 := cell_regrown (H2.cell 3)
        have k7 := cell_regrown (H2.cell 4)
        have k8 := cell_regrown (H2.cell 5)
        have k9 := cell_regrown (H2.cell 6)
        have k10 := cell_regrown (H2.cell 7)
        have k11 := cell_regrown q0
        have k12 := cell_regrown q1
        have k13 := cell_regrown q2
        clear q0 q1 q2 v0 v1 v2 v3 v4 v5 v6 v7
        refine wp_region_qbt 8 (by kernel_rfl) (by kernel_rfl) ?_
        simp only [List.take_succ_cons, List.take_zero, List.drop_succ_cons, List.drop_zero]
        repeat (first | go_big_quiet_skip | quiet_step (first | with_reducible exact Calls.later (HL.out _) | with_reducible exact Calls.later (HX.out _)))
        clear k0 k1 k2 k3 k4 k5 k6 k7 k8 k9 k10 k11 k12 k13
        refine wpQuiet_nil ?_
        intro W1 hb1
        have J1 := Lib.hid (H1.on hb1)
        have J3 := Lib.hid (H3.on hb1)
        have JB := Lib.hid (chain HBW hb1 (Nat.le_refl _))
        obtain ⟨a0, a1, a2, a3, a4, a5⟩ := J1.out.get3
        clear hb1 H1 H2 H3 HBW hbel
        go_wp2
        go_roundw
        case rel => exact ⟨k + 1, by go_num, by omega, J3.out.set3Other (by omega) _ _ _, by rw [HF2.out]; exact HGO.out _ (Blk.set3 J1.out _ _ _), below_set3 JB.out (by omega) _ _ _⟩
        case measure => simp [intOf]; omega
      · obtain rfl : k = m := by omega
        have H1 : Blk wr w3.heap.size #[.bool (rn (flo V A k)), .string (rs (flo V A k)), .string (rd (flo V A k))] := J2
        have H3 := Lib.hid J1
        clear J2 J1 HV0 HA0 HFV HFA
        have hnl : decide ((k : Int) < (k : Int)) = false := by simp
        generalize flo V A k = F at *
        generalize rn F = g1 at *
        generalize rs F = g2 at *
        generalize rd F = g3 at *
        obtain ⟨k0, k1, k2⟩ := H1.later3
        go_wp2
        refine wp_region_qbt 3 (by kernel_rfl) (by kernel_rfl) ?_
        simp only [List.take_succ_cons, List.take_zero, List.drop_succ_cons, List.drop_zero]
        repeat (first | go_big_quiet_skip | quiet_step (first | with_reducible exact Calls.later (HI.out _) | with_reducible exact Calls.later (HM.out _)))
        clear k0 k1 k2
        refine wpQuiet_nil ?_
        intro W1 hb1
        have H2 := Lib.hid (H3.out.on hb1)
        have HB := Lib.hid (chain HB4.out hb1 (Nat.le_refl _))
        obtain ⟨a0, a1, a2, a3, a4, a5⟩ := H2.out.get3
        clear hb1 H1 H3 hbel
        go_wp2
        refine bodyPost_forget (fun W => Blk W w.heap.size #[.bool t1, .string t2, .string t3] ∧ Below w.heap.size w W) ⟨by exact Blk.set3 H2.out _ _ _, below_set3 HB.out (by omega) _ _ _⟩ ?_
        rintro WR ⟨hr9, hb9⟩
        obtain ⟨y90, y91, y92, -, -, -⟩ := hr9.get3
        exact bodyPost_ret (v := .tuple #[.agg #[.bool t1, .string t2, .string t3], .int .i64 0]) (by simp [results, Tryz.results11, go_sem, y90, y91, y92]) rfl ⟨rfl, hb9⟩
  · have hq : flQ n m V A = 0 := by unfold flQ; rw [if_neg hc]
    rw [hq]
    unfold rv
    rw [rn_zero, rs_zero, rd_zero]
    have h1 : (chk n m V A == 0) = false := by simp [hc]
    generalize chk n m V A = c at *
    clear fV fA hV hA hq
    go_enter Tryz.func11, Tryz.ntmps11
    go_wp2_with fail
    refine (HC.out _ HV.out HA.out).mono ?_
    rintro e w3 ⟨rfl, hb3⟩
    obtain ⟨H1, HB⟩ := boxes1 hb3
    obtain ⟨a0, a1, a2, a3, a4, a5⟩ := H1.get3
    have H2 := Lib.hid H1
    have HB := Lib.hid HB
    clear hb3 H1
    go_wp2
    refine bodyPost_forget (fun W => Blk W w.heap.size #[.bool false, .string ⟨#[]⟩, .string ⟨#[]⟩] ∧ Below w.heap.size w W) ⟨by exact Blk.set3 H2.out _ _ _, below_set3 HB.out (by omega) _ _ _⟩ ?_
    rintro WR ⟨hr9, hb9⟩
    obtain ⟨y90, y91, y92, -, -, -⟩ := hr9.get3
    exact bodyPost_ret (v := .tuple #[.agg #[.bool false, .string ⟨#[]⟩, .string ⟨#[]⟩], .int .i64 c]) (by simp [results, Tryz.results11, go_sem, y90, y91, y92]) rfl ⟨rfl, hb9⟩
end Go.Proofs.Ins
