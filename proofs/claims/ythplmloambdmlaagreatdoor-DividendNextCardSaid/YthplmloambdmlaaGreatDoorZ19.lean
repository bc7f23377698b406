/- The executor: more operations that only read. -/
import Derived.Test.YthplmloambdmlaaGreatDoorZ18
import Derived.WalkKit
import Derived.WalkSpells
import Derived.WalkLawsBesides

set_option linter.unusedSimpArgs false
set_option linter.unusedVariables false
namespace Go.Proofs.Ex
open Go.RowKit Go.Proofs.Ins

abbrev Ph := Nat → Option (Nat × Nat)
def capOk (C o n K : Nat) : Cap → Prop
  | .ex k => K = k
  | .opn => o = 0 ∧ K = C
  | .any => True
def RB (φ : Ph) : B → Value → Prop
  | .int k n, v => v = .int k n
  | .bool b, v => v = .bool b
  | .nat n, v => v = .string (bn n)
  | .ptr b o, v => ∃ p, φ b = some p ∧ v = .pointer (some ⟨p.1, o, none⟩)
  | .nilp, v => v = .pointer none
  | .sl b o n c, v => ∃ p K, φ b = some p ∧ v = .slice (some ⟨p.1, o, none⟩) n K ∧ n ≤ K ∧ capOk p.2 o n K c
  | .nils, v => v = .slice none 0 0
  | .mp b, v => ∃ p, φ b = some p ∧ v = .map (some p.1)
def RBs (φ : Ph) : List B → List Value → Prop
  | [], [] => True
  | x :: l, v :: r => RB φ x v ∧ RBs φ l r
  | _, _ => False
def RV (φ : Ph) : V → Value → Prop
  | .c x, v => RB φ x v
  | .agg l, v => ∃ r, v = .agg r ∧ RBs φ l r.toList
  | .fn f caps, v => ∃ r, v = .func (.func f) #[] r ∧ RBs φ caps r.toList
  | .nilf, v => v = .nilFunc
  | .tnil, v => v = .tuple #[]
  | .tcons a r, v => ∃ x xs, v = .tuple (x :: xs).toArray ∧ RV φ a x ∧ RV φ r (.tuple xs.toArray)
  | .und, _ => True
def RVs (φ : Ph) : List V → List Value → Prop
  | [], [] => True
  | x :: l, v :: r => RV φ x v ∧ RVs φ l r
  | _, _ => False
/-- φ' says of old names what φ says. -/
def Ext (n : Nat) (φ φ' : Ph) : Prop := ∀ b, b < n → φ' b = φ b
def BkPl (φ : Ph) (k : Bk) (p : Nat × Nat) (w : World) : Prop :=
  ∃ cs T, w.heap[p.1]? = some (.cells cs T (0, 0)) ∧ RBs φ k.cells (cs.toList.take k.cells.length) ∧ k.cells.length ≤ cs.size ∧
    ∀ e t, k.opn = some (e, t) → T = t ∧ cs.size = p.2 * e ∧ p.2 ≤ maxLen
def BkMp (k : Bk) (p : Nat × Nat) (w : World) : Prop := ∃ l, k.cells = flatL l ∧ MLegs w p.1 l
def BkOk (φ : Ph) (k : Bk) (p : Nat × Nat) (w : World) : Prop := (k.pl = true ∧ BkPl φ k p w) ∨ (k.pl = false ∧ BkMp k p w)
theorem BkOk.plain {φ : Ph} {k : Bk} {p : Nat × Nat} {w : World} (h : BkOk φ k p w) (hk : k.pl = true) : BkPl φ k p w := by
  rcases h with h | h
  · exact h.2
  · rw [hk] at h; cases h.1
theorem BkOk.map {φ : Ph} {k : Bk} {p : Nat × Nat} {w : World} (h : BkOk φ k p w) (hk : k.pl = false) : BkMp k p w := by
  rcases h with h | h
  · rw [hk] at h; cases h.1
  · exact h.2
theorem pl_none {c : List B} : (⟨c, none⟩ : Bk).pl = true := rfl
theorem pl_some {c : List B} {e t : Nat} (h : 0 < e) : (⟨c, some (e, t)⟩ : Bk).pl = true := by
  cases e with
  | zero => omega
  | succ e => rfl
theorem pl_map {c : List B} {t : Nat} : (⟨c, some (0, t)⟩ : Bk).pl = false := rfl
theorem pl_cells {k : Bk} (c : List B) (h : k.pl = true) : (⟨c, k.opn⟩ : Bk).pl = true := h
structure Rel (N : Nat) (w0 : World) (φ : Ph) (σ : St) (w : World) : Prop where
  n0 : N ≤ w0.heap.size
  bel : Below N w0 w
  inj : ∀ b b' p p', φ b = some p → φ b' = some p' → p.1 = p'.1 → (σ.h.get b).isSome = true → (σ.h.get b').isSome = true → b = b'
  lo : ∀ b p, φ b = some p → N ≤ p.1 ∧ p.1 < w.heap.size
  blk : ∀ b k p, σ.h.get b = some k → φ b = some p → BkOk φ k p w
  nxt : ∀ b, σ.nxt ≤ b → φ b = none ∧ σ.h.get b = none
def RT (φ : Ph) (tm : Tr V) (a : Act) : Prop := ∀ t v, tm.get t = some v → RV φ v (a.tmps.getD t undef)

/-- Which names a value holds are old. -/
def Old (n : Nat) (φ : Ph) : Prop := ∀ b, n ≤ b → φ b = none
theorem Rel.old {N : Nat} {w0 w : World} {φ : Ph} {σ : St} (h : Rel N w0 φ σ w) : Old σ.nxt φ := fun b hb => (h.nxt b hb).1
theorem Ext.some {n : Nat} {φ φ' : Ph} (h : Ext n φ φ') (ho : Old n φ) {b : Nat} {p : Nat × Nat} (hb : φ b = some p) : φ' b = some p := by
  by_cases hlt : b < n
  · rw [h b hlt]; exact hb
  · rw [ho b (by omega)] at hb; cases hb
theorem RB.ext {n : Nat} {φ φ' : Ph} (h : Ext n φ φ') (ho : Old n φ) {x : B} {v : Value} (hv : RB φ x v) : RB φ' x v := by
  cases x <;> simp only [RB] at hv ⊢ <;> try exact hv
  case ptr b o => obtain ⟨p, hp, e⟩ := hv; exact ⟨p, h.some ho hp, e⟩
  case sl b o n c => obtain ⟨p, K, hp, e, r⟩ := hv; exact ⟨p, K, h.some ho hp, e, r⟩
  case mp b => obtain ⟨p, hp, e⟩ := hv; exact ⟨p, h.some ho hp, e⟩
theorem RBs.ext {n : Nat} {φ φ' : Ph} (h : Ext n φ φ') (ho : Old n φ) : ∀ {l : List B} {r : List Value}, RBs φ l r → RBs φ' l r
  | [], [], _ => trivial
  | _ :: _, _ :: _, hv => ⟨hv.1.ext h ho, RBs.ext h ho hv.2⟩
  | [], _ :: _, hv => hv.elim
  | _ :: _, [], hv => hv.elim
theorem RV.ext {n : Nat} {φ φ' : Ph} (h : Ext n φ φ') (ho : Old n φ) : ∀ {x : V} {v : Value}, RV φ x v → RV φ' x v
  | .c _, _, hv => RB.ext h ho hv
  | .agg _, _, ⟨r, e, hr⟩ => ⟨r, e, hr.ext h ho⟩
  | .fn _ _, _, ⟨r, e, hr⟩ => ⟨r, e, hr.ext h ho⟩
  | .nilf, _, hv => hv
  | .tnil, _, hv => hv
  | .tcons _ _, _, ⟨x, xs, e, h1, h2⟩ => ⟨x, xs, e, h1.ext h ho, h2.ext h ho⟩
  | .und, _, _ => trivial
theorem RVs.ext {n : Nat} {φ φ' : Ph} (h : Ext n φ φ') (ho : Old n φ) : ∀ {l : List V} {r : List Value}, RVs φ l r → RVs φ' l r
  | [], [], _ => trivial
  | _ :: _, _ :: _, hv => ⟨hv.1.ext h ho, RVs.ext h ho hv.2⟩
  | [], _ :: _, hv => hv.elim
  | _ :: _, [], hv => hv.elim
theorem RT.ext {n : Nat} {φ φ' : Ph} (h : Ext n φ φ') (ho : Old n φ) {tm : Tr V} {a : Act} (hv : RT φ tm a) : RT φ' tm a := fun t v ht => (hv t v ht).ext h ho
theorem Ext.refl (n : Nat) (φ : Ph) : Ext n φ φ := fun _ _ => rfl
theorem Ext.trans {n m : Nat} {φ φ' φ'' : Ph} (h : Ext n φ φ') (h' : Ext m φ' φ'') (hnm : n ≤ m) : Ext n φ φ'' := fun b hb => (h' b (by omega)).trans (h b hb)

theorem RBs.length {φ : Ph} : ∀ {l : List B} {r : List Value}, RBs φ l r → l.length = r.length
  | [], [], _ => rfl
  | _ :: _, _ :: _, hv => by simp [RBs.length hv.2]
  | [], _ :: _, hv => hv.elim
  | _ :: _, [], hv => hv.elim
theorem RBs.drop {φ : Ph} : ∀ (n : Nat) {l : List B} {r : List Value}, RBs φ l r → RBs φ (l.drop n) (r.drop n)
  | 0, _, _, h => h
  | n + 1, [], [], _ => trivial
  | n + 1, _ :: _, _ :: _, hv => RBs.drop n hv.2
  | _ + 1, [], _ :: _, hv => hv.elim
  | _ + 1, _ :: _, [], hv => hv.elim
theorem RBs.take {φ : Ph} : ∀ (n : Nat) {l : List B} {r : List Value}, RBs φ l r → RBs φ (l.take n) (r.take n)
  | 0, _, _, h => by simp [RBs]
  | n + 1, [], [], _ => trivial
  | n + 1, _ :: _, _ :: _, hv => ⟨hv.1, RBs.take n hv.2⟩
  | _ + 1, [], _ :: _, hv => hv.elim
  | _ + 1, _ :: _, [], hv => hv.elim
theorem RBs.append {φ : Ph} : ∀ {l : List B} {r : List Value} {l' : List B} {r' : List Value}, RBs φ l r → RBs φ l' r' → RBs φ (l ++ l') (r ++ r')
  | [], [], _, _, _, h => h
  | _ :: _, _ :: _, _, _, hv, h => ⟨hv.1, RBs.append hv.2 h⟩
  | [], _ :: _, _, _, hv, _ => hv.elim
  | _ :: _, [], _, _, hv, _ => hv.elim
theorem RBs.get {φ : Ph} : ∀ {l : List B} {r : List Value} (j : Nat) (x : B), RBs φ l r → l[j]? = some x → ∃ v, r[j]? = some v ∧ RB φ x v
  | _ :: _, v :: _, 0, _, hv, h => by cases h; exact ⟨v, rfl, hv.1⟩
  | _ :: l, _ :: r, j + 1, x, hv, h => RBs.get (l := l) (r := r) j x hv.2 (by simpa using h)
  | [], _, _, _, _, h => by simp at h
  | _ :: _, [], _, _, hv, _ => hv.elim
theorem RBs.oneCell {φ : Ph} : ∀ {l : List B} {r : List Value}, RBs φ l r → ∀ v ∈ r, v.oneCell' = true
  | [], [], _, _, h => by cases h
  | x :: l, v :: r, hv, u, h => by
    rcases List.mem_cons.mp h with rfl | h
    · have := hv.1
      cases x <;> simp only [RB] at this
      case ptr => obtain ⟨p, -, e⟩ := this; rw [e]; rfl
      case sl => obtain ⟨p, K, -, e, -⟩ := this; rw [e]; rfl
      case mp => obtain ⟨p, -, e⟩ := this; rw [e]; rfl
      all_goals (rw [this]; rfl)
    · exact RBs.oneCell hv.2 u h
  | [], _ :: _, hv, _, _ => hv.elim
  | _ :: _, [], hv, _, _ => hv.elim
theorem RV.cells {φ : Ph} {x : V} {v : Value} {l : List B} (h : RV φ x v) (hl : x.cells = some l) : RBs φ l v.cells.toList := by
  cases x <;> simp only [V.cells, Option.some.injEq, reduceCtorEq] at hl
  case c b =>
    subst hl
    have h1 : RB φ b v := h
    have hc : v.cells = #[v] := by
      cases b <;> simp only [RB] at h1
      case ptr => obtain ⟨p, -, e⟩ := h1; rw [e]; rfl
      case sl => obtain ⟨p, K, -, e, -⟩ := h1; rw [e]; rfl
      case mp => obtain ⟨p, -, e⟩ := h1; rw [e]; rfl
      all_goals (rw [h1]; rfl)
    rw [hc]
    exact ⟨h1, trivial⟩
  case agg l' =>
    subst hl
    obtain ⟨r, e, hr⟩ := h
    rw [e]
    exact hr
theorem wr_spec {φ : Ph} : ∀ (o : Nat) (l vs l' : List B) (r rs : List Value), wrC l o vs = some l' → RBs φ l r → RBs φ vs rs → o + vs.length ≤ l.length ∧ RBs φ l' (r.take o ++ rs ++ r.drop (o + rs.length))
  | 0, l, vs, l', r, rs, h, hl, hv => by
    unfold wrC at h
    cases hb : Nat.ble vs.length l.length with
    | false => rw [hb] at h; cases h
    | true =>
      rw [hb] at h
      cases h
      have := hl.drop vs.length
      rw [hv.length] at this
      exact ⟨by simpa using Nat.le_of_ble_eq_true hb, by simpa using hv.append (by rw [hv.length]; exact this)⟩
  | o + 1, [], vs, l', r, rs, h, hl, hv => by cases h
  | o + 1, x :: l, vs, l', [], rs, h, hl, hv => hl.elim
  | o + 1, x :: l, vs, l', v :: r, rs, h, hl, hv => by
    unfold wrC at h
    cases hw : wrC l o vs with
    | none => rw [hw] at h; cases h
    | some l2 =>
      rw [hw] at h
      cases h
      obtain ⟨h1, h2⟩ := wr_spec o l vs l2 r rs hw hl.2 hv
      refine ⟨by simp only [List.length_cons]; omega, ?_⟩
      rw [show o + 1 + rs.length = (o + rs.length) + 1 by omega]
      exact ⟨hl.1, h2⟩
theorem RV.tm {φ : Ph} {tm : Tr V} {a : Act} (h : RT φ tm a) (i : Nat) : RV φ (tm.getV i) (a.tmps.getD i undef) := by
  unfold Tr.getV
  cases ht : tm.get i with
  | none => trivial
  | some v => exact h i v ht

section
variable {N : Nat} {w0 w : World} {φ : Ph} {σ : St}
/-- The cells of a block from one on. -/
theorem Rel.cellsAt (h : Rel N w0 φ σ w) {b o : Nat} {k : Bk} {p : Nat × Nat} (hk : σ.h.get b = some k) (hpl : k.pl = true) (hp : φ b = some p) :
    ∃ cs T, w.heap[p.1]? = some (.cells cs T (0, 0)) ∧ RBs φ (k.cells.drop o) ((cs.toList.take k.cells.length).drop o) ∧ k.cells.length ≤ cs.size ∧ ∀ j, (w.cell? ((⟨p.1, o, none⟩ : Addr).add j)) = cs[o + j]? := by
  obtain ⟨cs, T, hc, hr, hl, -⟩ := (h.blk b k p hk hp).plain hpl
  refine ⟨cs, T, hc, hr.drop o, hl, fun j => ?_⟩
  rw [Addr.add_lit, cell_of_row w p.1 (o + j) cs T (0, 0) hc]
theorem Rel.drew (h : Rel N w0 φ σ w) : Rel N w0 φ σ w.drew :=
  ⟨h.n0, h.bel.drew, h.inj, h.lo, h.blk, h.nxt⟩
theorem Rel.drawn (h : Rel N w0 φ σ w) : Rel N w0 φ σ { w with drawn := w.drawn + 1 } := h.drew
theorem Rel.size (h : Rel N w0 φ σ w) : N ≤ w.heap.size := Nat.le_trans h.n0 h.bel.size
end
end Go.Proofs.Ex

set_option linter.unusedSimpArgs false
set_option linter.unusedVariables false
namespace Go.Proofs.Ex
open Go.RowKit Go.Proofs.Ins

def kB : Value → B → Bool
  | .int k n, .int j m => decide (k = j) && decide (n = m)
  | .bool a, .bool b => a == b
  | .string s, .nat 0 => s.data.toList.isEmpty
  | .pointer none, .nilp => true
  | .slice none 0 0, .nils => true
  | _, _ => false
def kBs : List Value → List B → Bool
  | [], [] => true
  | v :: r, x :: l => kB v x && kBs r l
  | _, _ => false
def kV : Value → V → Bool
  | .agg r, .agg l => kBs r.toList l
  | .nilFunc, .nilf => true
  | v, .c x => kB v x
  | _, _ => false
def opd : Operand → O → Bool
  | .tmp t, .t i => Nat.beq t i
  | .const v, .k x => kV v x
  | .func f, .k (.fn g []) => Nat.beq f g
  | _, _ => false
def opds : List Operand → List O → Bool
  | [], [] => true
  | x :: l, y :: r => opd x y && opds l r
  | _, _ => false
theorem kB_RB {φ : Ph} {v : Value} {x : B} (h : kB v x = true) : RB φ x v := by
  unfold kB at h
  split at h <;> simp only [RB]
  · simp only [Bool.and_eq_true, decide_eq_true_eq] at h; rw [h.1, h.2]
  · rw [eq_of_beq h]
  · next s =>
    have : s = ⟨#[]⟩ := by
      cases s with
      | mk d => simp at h; rw [h]
    rw [this, bn_zero]
  · cases h
theorem kBs_RBs {φ : Ph} : ∀ {r : List Value} {l : List B}, kBs r l = true → RBs φ l r
  | [], [], _ => trivial
  | _ :: _, _ :: _, h => by
    unfold kBs at h
    rw [Bool.and_eq_true] at h
    exact ⟨kB_RB h.1, kBs_RBs h.2⟩
  | [], _ :: _, h => by cases h
  | _ :: _, [], h => by cases h
theorem kV_RV {φ : Ph} {v : Value} {x : V} (h : kV v x = true) : RV φ x v := by
  unfold kV at h
  split at h
  · exact ⟨_, rfl, kBs_RBs h⟩
  · rfl
  · exact kB_RB h
  · cases h
theorem opd_RV {φ : Ph} {tm : Tr V} {a : Act} {x : Operand} {y : O} (h : opd x y = true) (ht : RT φ tm a) : RV φ (y.ev tm) (a.eval x) := by
  unfold opd at h
  split at h
  · next t i =>
    have : t = i := Nat.eq_of_beq_eq_true h
    subst this
    exact RV.tm ht t
  · exact kV_RV h
  · next f g =>
    have : f = g := Nat.eq_of_beq_eq_true h
    subst this
    exact ⟨#[], rfl, trivial⟩
  · cases h
theorem opds_RVs {φ : Ph} {tm : Tr V} {a : Act} (ht : RT φ tm a) : ∀ {l : List Operand} {r : List O}, opds l r = true → RVs φ (r.map (·.ev tm)) (l.map a.eval)
  | [], [], _ => trivial
  | _ :: _, _ :: _, h => by
    unfold opds at h
    rw [Bool.and_eq_true] at h
    exact ⟨opd_RV h.1 ht, opds_RVs ht h.2⟩
  | [], _ :: _, h => by cases h
  | _ :: _, [], h => by cases h
def opdO : Option Operand → Option O → Bool
  | none, none => true
  | some x, some y => opd x y
  | _, _ => false

/-- The type's size in cells, and whether its values are aggregates. -/
def aggD : TypeDesc → Bool
  | .struct _ | .array _ _ => true
  | _ => false
def tyOk (P : Program) (t : TypeId) (n : Nat) (g : Bool) : Bool :=
  match P.info? t, P.underlying t with
  | some i, some d => Nat.beq i.size n && (aggD d == g) && (g || Nat.beq n 1)
  | _, _ => false
theorem tyOk_spec {P : Program} {t : TypeId} {n : Nat} {g : Bool} (h : tyOk P t n g = true) (w : World) :
    (sizeOf t).run P w = .ok n w ∧ (isAgg t).run P w = .ok g w ∧ (g = true ∨ n = 1) := by
  unfold tyOk at h
  split at h
  · next i d hi hd =>
    simp only [Bool.and_eq_true, Bool.or_eq_true] at h
    obtain ⟨⟨h1, h2⟩, h3⟩ := h
    have h1 := Nat.eq_of_beq_eq_true h1
    have h2 := eq_of_beq h2
    refine ⟨by simp [sizeOf, typeInfo, hi, h1], ?_, h3.imp id Nat.eq_of_beq_eq_true⟩
    simp only [isAgg, Sem.run_bind, run_underlying hd, Result.andThen_ok]
    rw [← h2]
    cases d <;> rfl
  · cases h
def szOk (P : Program) (t : TypeId) (n : Nat) : Bool := match P.info? t with | some i => Nat.beq i.size n | none => false
theorem szOk_spec {P : Program} {t : TypeId} {n : Nat} (h : szOk P t n = true) (w : World) : (sizeOf t).run P w = .ok n w := by
  unfold szOk at h
  split at h
  · next i hi => simp [sizeOf, typeInfo, hi, Nat.eq_of_beq_eq_true h]
  · cases h

/-- Cells from one on, read. -/
theorem rd_spec {φ : Ph} {l : List B} {r : List Value} {o n : Nat} {g : Bool} {v : V} (h : rdC l o n g = some v) (hg : g = true ∨ n = 1) (hr : RBs φ l r) :
    ∃ xs, xs.length = n ∧ (∀ j u, xs[j]? = some u → r[o + j]? = some u) ∧ (g = true → RV φ v (.agg xs.toArray)) ∧ (g = false → ∃ u, xs = [u] ∧ RV φ v u) := by
  have hd := (hr.drop o).take n
  unfold rdC at h
  cases g with
  | true =>
    simp only at h
    cases hb : Nat.beq ((l.drop o).take n).length n with
    | false => rw [hb] at h; cases h
    | true =>
      rw [hb] at h
      cases h
      have hb := Nat.eq_of_beq_eq_true hb
      refine ⟨_, by rw [← hd.length]; exact hb, fun j u hu => ?_, fun _ => ⟨_, rfl, by simpa using hd⟩, fun h => by cases h⟩
      rw [List.getElem?_take] at hu
      split at hu
      · simpa using hu
      · cases hu
  | false =>
    have hn : n = 1 := hg.resolve_left (by simp)
    subst hn
    simp only at h
    have hd0 := hr.drop o
    cases hx : l.drop o with
    | nil => rw [hx] at h; cases h
    | cons x t =>
      rw [hx] at h hd0
      cases h
      cases hy : r.drop o with
      | nil => rw [hy] at hd0; exact hd0.elim
      | cons u t' =>
        rw [hy] at hd0
        refine ⟨[u], rfl, fun j u' hu => ?_, (fun h => by cases h), fun _ => ⟨u, rfl, hd0.1⟩⟩
        cases j with
        | zero =>
          cases hu
          have : (r.drop o)[0]? = some u := by rw [hy]; rfl
          simpa using this
        | succ j => simp at hu

section
variable {P : Program} {N : Nat} {w0 w : World} {φ : Ph} {σ : St} {tm : Tr V} {a : Act}

/-- A variable read. -/
theorem loadVar_spec (hR : Rel N w0 φ σ w) {t : TypeId} {n : Nat} {g : Bool} (ht : tyOk P t n g = true) {b o : Nat} {k : Bk} {p : Nat × Nat} {v : V} (hk : σ.h.get b = some k) (hpl : k.pl = true) (hp : φ b = some p)
    (h : rdC k.cells o n g = some v) : ∃ cv, (loadVar t ⟨p.1, o, none⟩).run P w = .ok cv w ∧ RV φ v cv := by
  obtain ⟨h1, h2, h3⟩ := tyOk_spec ht w
  obtain ⟨cs, T, hc, hr, hl, -⟩ := (hR.blk b k p hk hp).plain hpl
  obtain ⟨xs, hx, hxs, hag, hsc⟩ := rd_spec h h3 hr
  have hcell : ∀ j u, xs[j]? = some u → w.cell? ((⟨p.1, o, none⟩ : Addr).add j) = some u := fun j u hu => by
    rw [Addr.add_lit, cell_of_row w p.1 (o + j) cs T (0, 0) hc]
    have h6 := hxs j u hu
    rw [List.getElem?_take] at h6
    split at h6
    · simpa using h6
    · cases h6
  cases g with
  | true =>
    have h4 := run_loadCells_list (P := P) w ⟨p.1, o, none⟩ xs hcell
    rw [hx] at h4
    refine ⟨_, ?_, hag rfl⟩
    unfold loadVar
    simp only [Sem.run_bind, h2, Result.andThen_ok, if_true, h1, h4, Sem.run_pure]
  | false =>
    obtain ⟨u, rfl, hu⟩ := hsc rfl
    have h5 := hcell 0 u rfl
    rw [Addr.add_zero'] at h5
    refine ⟨u, ?_, hu⟩
    unfold loadVar
    simp only [Sem.run_bind, h2, Result.andThen_ok, Bool.false_eq_true, if_false, run_load, h5]
end
end Go.Proofs.Ex

set_option linter.unusedSimpArgs false
set_option linter.unusedVariables false
namespace Go.Proofs.Ex
open Go.RowKit Go.Proofs.Ins

def isNilK : Operand → Bool
  | .const (.slice none 0 0) | .const (.pointer none) | .const .nilFunc => true
  | _ => false
def partsOk (pl : Nat → Option (Nat × Nat)) : List (Nat × Operand) → List (Nat × Nat × O) → Bool
  | [], [] => true
  | (i, x) :: r, (o, n, y) :: s => (match pl i with | some (p, q) => Nat.beq p o && Nat.beq q n | none => false) && opd x y && partsOk pl r s
  | _, _ => false
def placesOf (P : Program) : List Field → Option (List (Nat × Nat))
  | [] => some []
  | f :: r => match P.info? f.type, placesOf P r with | some i, some l => some ((f.offset, i.size) :: l) | _, _ => none
/-- The struct has just these three cells: a truth value and two strings. -/
def ratTy (P : Program) (t : TypeId) : Bool :=
  match P.underlying t with
  | some (.struct fs) => (match fs.toList with
    | [f, g, h] => f.name != "_" && g.name != "_" && h.name != "_" && Nat.beq f.offset 0 && Nat.beq g.offset 1 && Nat.beq h.offset 2 &&
      (match P.underlying f.type, P.underlying g.type, P.underlying h.type with | some .bool, some .string, some .string => true | _, _, _ => false) && !P.stoodInHeld t && !P.eqGuardType P.depth t
    | _ => false)
  | _ => false
def fieldOk (P : Program) (s : TypeId) (f : Nat) : Option Field :=
  match P.underlying s with
  | some (.struct fs) => fs[f]?
  | _ => none
def impQ (P : Program) (op : Op) : AOp → Bool
  | .mov y => (match op with | .move x | .assign x => opd x y | _ => false)
  | .pick c' a' b' => (match op with | .pick c a b => opd c c' && opd a a' && opd b b' | _ => false)
  | .load n g y => (match op with | .load t x => opd x y && tyOk P t n g | _ => false)
  | .faddr off y => (match op with | .fieldAddr s x f => opd x y && (match fieldOk P s f with | some fd => Nat.beq fd.offset off && (match P.info? fd.type with | some i => !Nat.beq i.size 0 | none => false) | none => false) | _ => false)
  | .field off n g y => (match op with | .field s x f => opd x y && (match fieldOk P s f with | some fd => Nat.beq fd.offset off && tyOk P fd.type n g | none => false) | _ => false)
  | .iaddr e x' i' => (match op with | .indexAddr t x i => opd x x' && opd i i' && (match P.underlying t with | some (.slice el) => szOk P el e | _ => false) | _ => false)
  | .ext i' y => (match op with | .extract x i => opd x y && Nat.beq i i' | _ => false)
  | .bin b x' y' => (match op with | .binOp b' t x y _ => decide (b = b') && opd x x' && opd y y' && true | _ => false)
  | .eqb p x' y' => (match op with | .binOp b t x y _ => (match b with | .eql => p | .neq => !p | _ => false) && opd x x' && opd y y' && (match P.underlying t with | some .bool => true | _ => false) | _ => false)
  | .eqagg p x' y' => (match op with | .binOp b t x y _ => (match b with | .eql => p | .neq => !p | _ => false) && opd x x' && opd y y' && ratTy P t | _ => false)
  | .nil k p x' => (match op with | .binOp b t x y _ => (match b with | .eql => p | .neq => !p | _ => false) && opd x x' && (match k, P.underlying t, y with
      | 0, some (.slice _), .const (.slice none 0 0) => true | 1, some (.pointer _), .const (.pointer none) => true | 2, some (.func _ _ _), .const .nilFunc => true | _, _, _ => false) | _ => false)
  | .not y => (match op with | .unOp .not _ x => opd x y | _ => false)
  | .conv k y => (match op with | .convert src dst x => opd x y && (P.underlying src).isSome && (match P.underlying dst with | some (.int j) => decide (j = k) | _ => false) | _ => false)
  | .build z ps => (match op with | .build t parts => (match P.info? t with | some i => (match i.zero with | some zv => kBs zv.cells.toList z | none => false) | none => false) &&
      (match P.underlying t with | some (.struct fs) => (match placesOf P fs.toList with | some pl => partsOk (fun i => pl[i]?) parts.toList ps | none => false) | _ => false) | _ => false)
  | .mkfn f' cs => (match op with | .makeFunc (.func f) first caps => Nat.beq f f' && first.toList.isEmpty && opds caps.toList cs | _ => false)
  | .len y => (match op with | .call c => (match c.callee with | .builtin .len => (match c.args.toList, c.argTypes.toList with
      | [x], [t] => opd x y && (match P.underlying t with | some (.slice _) => true | _ => false) | _, _ => false) | _ => false) | _ => false)
  | .slice e y lo' hi' mx' => (match op with | .slice t x lo hi mx => opd x y && opdO lo lo' && opdO hi hi' && opdO mx mx' && (mx.isNone || hi.isSome) && (match P.underlying t with | some (.slice el) => szOk P el e | _ => false) | _ => false)
  | .lookup m' k' => (match op with | .lookup t m k false => opd m m' && opd k k' && Nat.beq t 241 | _ => false)
  | .min2 x' y' => (match op with | .call c => (match c.callee with | .builtin .min => (match c.args.toList with | [x, y] => opd x x' && opd y y' | _ => false) | _ => false) | _ => false)
  | .nchk y => (match op with | .nilCheck x => opd x y | _ => false)
  | .bad => true
  | _ => false

theorem asN_spec {v : V} {n : Nat} (h : asN v = some n) : v = .c (.int .i64 (Int.ofNat n)) := by
  unfold asN at h
  split at h
  · cases h; rfl
  · cases h
theorem inR_wrap {k : IntKind} {n : Int} (h : inR k n = true) : k.wrap n = n := by
  unfold inR at h
  split at h
  · next m => have := Nat.le_of_ble_eq_true h; rw [IntKind.wrap_i64]; simp only [Int.ofNat_eq_natCast]; omega
  · next m => have := Nat.le_of_ble_eq_true h; rw [IntKind.wrap_i64]; omega
  · next m => have := Nat.le_of_ble_eq_true h; rw [IntKind.wrap_u8]; simp only [Int.ofNat_eq_natCast]; omega
  · cases h
theorem bn_beq (a b : Nat) : ((bn a).toList == (bn b).toList) = Nat.beq a b := by
  by_cases h : a = b
  · subst h; simp
  · have h1 : Nat.beq a b = false := by
      cases hb : Nat.beq a b with
      | true => exact absurd (Nat.eq_of_beq_eq_true hb) h
      | false => rfl
    rw [h1]
    have h2 : bn a ≠ bn b := fun e => h (by rw [← nv_bn a, ← nv_bn b, e])
    rw [beq_eq_false_iff_ne]
    intro e
    rw [ByteArray.toList_eq, ByteArray.toList_eq] at e
    apply h2
    generalize bn a = x at e
    generalize bn b = y at e
    obtain ⟨⟨l⟩⟩ := x
    obtain ⟨⟨m⟩⟩ := y
    simp at e
    rw [e]

section
variable {P : Program} {N : Nat} {w0 w : World} {φ : Ph} {σ : St} {tm : Tr V} {a : Act} {v : V}
/-- What is to be shown of an operation that only reads. -/
def YQ (P : Program) (w : World) (φ : Ph) (a : Act) (op : Op) (v : V) : Prop :=
  ∀ o : Oper, o.op = op → ∃ cv, (execOp a.eval o).run P w = .ok (.value cv) w ∧ RV φ v cv

theorem q_mov {op : Op} {y : O} (hi : impQ P op (.mov y) = true) (h : stepQ (.mov y) tm σ = some v) (ht : RT φ tm a) : YQ P w φ a op v := by
  have hv : v = y.ev tm := by
    simp only [stepQ, Option.some.injEq] at h
    exact h.symm
  subst hv
  simp only [impQ] at hi
  intro o ho
  split at hi
  · exact ⟨_, by simp [execOp, ho], opd_RV hi ht⟩
  · exact ⟨_, by simp [execOp, ho], opd_RV hi ht⟩
  · cases hi
theorem q_pick {op : Op} {x y z : O} (hi : impQ P op (.pick x y z) = true) (h : stepQ (.pick x y z) tm σ = some v) (ht : RT φ tm a) : YQ P w φ a op v := by
  simp only [impQ] at hi
  simp only [stepQ, qpick] at h
  intro o ho
  split at hi
  · simp only [Bool.and_eq_true] at hi
    have hc := opd_RV hi.1.1 ht
    split at h
    · next t hc' =>
      cases h
      rw [hc'] at hc
      simp only [RV, RB] at hc
      cases t
      · exact ⟨_, by simp [execOp, ho, hc, asBool], opd_RV hi.2 ht⟩
      · exact ⟨_, by simp [execOp, ho, hc, asBool], opd_RV hi.1.2 ht⟩
    · cases h
  · cases hi
theorem q_load (hR : Rel N w0 φ σ w) {op : Op} {n : Nat} {g : Bool} {y : O} (hi : impQ P op (.load n g y) = true) (h : stepQ (.load n g y) tm σ = some v) (ht : RT φ tm a) : YQ P w φ a op v := by
  simp only [impQ] at hi
  simp only [stepQ, qload] at h
  intro o ho
  split at hi
  · next t x =>
    simp only [Bool.and_eq_true] at hi
    have hx := opd_RV hi.1 ht
    split at h
    · next b off hx' =>
      rw [hx'] at hx
      obtain ⟨p, hp, e⟩ := hx
      split at h
      · next k hk =>
        cases hpl : k.pl with
        | false => rw [hpl] at h; cases h
        | true =>
          rw [hpl] at h
          obtain ⟨cv, h1, h2⟩ := loadVar_spec (P := P) hR hi.2 hk hpl hp h
          exact ⟨cv, by simp [execOp, ho, Instr.loadAt, Instr.sureAddr, e, h1], h2⟩
      · cases h
    · cases h
  · cases hi
theorem q_lookup [hPP : IsProg P] (hR : Rel N w0 φ σ w) {op : Op} {y z : O} (hi : impQ P op (.lookup y z) = true) (h : stepQ (.lookup y z) tm σ = some v) (ht : RT φ tm a) : YQ P w φ a op v := by
  obtain rfl := hPP.eq
  simp only [impQ] at hi
  simp only [stepQ, qlookup] at h
  intro o ho
  split at hi
  · next t m k =>
    simp only [Bool.and_eq_true] at hi
    obtain ⟨⟨i1, i2⟩, i3⟩ := hi
    have i3 := Nat.eq_of_beq_eq_true i3
    subst i3
    have hm := opd_RV i1 ht
    have hk := opd_RV i2 ht
    split at h
    · next b e j hy hz =>
      rw [hy] at hm
      rw [hz] at hk
      obtain ⟨p, hp, e1⟩ := hm
      obtain ⟨r, e2, hr⟩ := hk
      obtain ⟨l⟩ := r
      have e3 : l = [.int .i64 e, .int .i64 j] := by
        match l, hr with
        | [u, v], hr =>
          have h1 : u = .int .i64 e := hr.1
          have h2 : v = .int .i64 j := hr.2.1
          rw [h1, h2]
      subst e3
      split at h
      · next c t hb =>
        cases hw : (inR .i64 e && inR .i64 j) with
        | false => rw [hw] at h; cases h
        | true =>
          rw [hw] at h
          cases h
          rw [Bool.and_eq_true] at hw
          obtain ⟨L, hL, hM⟩ := (hR.blk b _ p hb hp).map pl_map
          have hL : c = flatL L := hL
          have := hM.look (e, j) (inR_wf hw.1) (inR_wf hw.2)
          refine ⟨.bool (hasB c e j), ?_, rfl⟩
          rw [hL, show hasB (flatL L) e j = ML.hasP L (e, j) from hasB_flat L (e, j)]
          simp only [ML.kv] at this
          simp [execOp, ho, e1, e2, this]
      · cases h
    · cases h
  · cases hi
theorem q_min2 {op : Op} {y z : O} (hi : impQ P op (.min2 y z) = true) (h : stepQ (.min2 y z) tm σ = some v) (ht : RT φ tm a) : YQ P w φ a op v := by
  simp only [impQ] at hi
  simp only [stepQ, qmin2] at h
  intro o ho
  split at hi
  · next c =>
    split at hi
    · next hc =>
      split at hi
      · next x u hX =>
        rw [Bool.and_eq_true] at hi
        have hx := opd_RV hi.1 ht
        have hu := opd_RV hi.2 ht
        split at h
        · next j m k n hy hz =>
          rw [hy] at hx
          rw [hz] at hu
          have hx : a.eval x = .int j m := hx
          have hu : a.eval u = .int k n := hu
          cases hjk : decide (j = k) with
          | false => rw [hjk] at h; cases h
          | true =>
            have ejk : j = k := of_decide_eq_true hjk
            subst ejk
            rw [hjk] at h
            simp only [cond_true] at h
            have hA : c.args = #[x, u] := by rw [← Array.toArray_toList (xs := c.args), hX]
            have hrun : (execOp a.eval o).run P w = .ok (.value (.int j (if n < m then n else m))) w := by
              simp [execOp, ho, resolve, hc, hA, invoke, builtin, hx, hu, Builtin.min_, Builtin.min2]
            split at h
            · next hd =>
              cases h
              rw [if_pos (of_decide_eq_true hd)] at hrun
              exact ⟨_, hrun, rfl⟩
            · next hd =>
              cases h
              rw [if_neg (of_decide_eq_false hd)] at hrun
              exact ⟨_, hrun, rfl⟩
        · cases h
      · cases hi
    · cases hi
  · cases hi
theorem fieldOk_spec {s : TypeId} {f : Nat} {fd : Field} (h : fieldOk P s f = some fd) : ∃ fs, P.underlying s = some (.struct fs) ∧ fs[f]? = some fd := by
  unfold fieldOk at h
  split at h
  · next fs hf => exact ⟨fs, hf, h⟩
  · cases h
theorem q_faddr {op : Op} {n : Nat} {y : O} (hi : impQ P op (.faddr n y) = true) (h : stepQ (.faddr n y) tm σ = some v) (ht : RT φ tm a) : YQ P w φ a op v := by
  simp only [impQ] at hi
  simp only [stepQ, qfaddr, fN_eq] at h
  intro o ho
  split at hi
  · next s x f =>
    rw [Bool.and_eq_true] at hi
    have hx := opd_RV hi.1 ht
    have hi2 := hi.2
    split at hi2
    · next fd hfd =>
      obtain ⟨fs, hfs, hfd⟩ := fieldOk_spec hfd
      rw [Bool.and_eq_true] at hi2
      have ho2 := Nat.eq_of_beq_eq_true hi2.1
      have hi3 := hi2.2
      split at hi3
      · next i hinf =>
        have hz : ¬ i.size = 0 := by
          intro e; rw [e] at hi3; simp at hi3
        split at h
        · next b off hx' =>
          rw [hx'] at hx
          obtain ⟨p, hp, e⟩ := hx
          cases h
          refine ⟨.pointer (some ⟨p.1, off + n, none⟩), ?_, p, hp, rfl⟩
          simp [execOp, ho, Instr.fieldAt, run_underlying hfs, hfd, Instr.sureAddr, e, fieldPlace, sizeOf, typeInfo, hinf, hz, Addr.add_lit, ho2]
        · cases h
      · cases hi3
    · cases hi2
  · cases hi
theorem q_field {op : Op} {off n : Nat} {g : Bool} {y : O} (hi : impQ P op (.field off n g y) = true) (h : stepQ (.field off n g y) tm σ = some v) (ht : RT φ tm a) : YQ P w φ a op v := by
  simp only [impQ] at hi
  simp only [stepQ, qfield] at h
  intro o ho
  split at hi
  · next s x f =>
    rw [Bool.and_eq_true] at hi
    have hx := opd_RV hi.1 ht
    have hi2 := hi.2
    split at hi2
    · next fd hfd =>
      obtain ⟨fs, hfs, hfd⟩ := fieldOk_spec hfd
      rw [Bool.and_eq_true] at hi2
      have ho2 := Nat.eq_of_beq_eq_true hi2.1
      obtain ⟨h1, h2, h3⟩ := tyOk_spec hi2.2 w
      split at h
      · next l hx' =>
        rw [hx'] at hx
        obtain ⟨r, e, hr⟩ := hx
        cases g with
        | true =>
          refine ⟨.agg (r.extract off (off + n)), ?_, ?_⟩
          · simp [execOp, ho, Instr.field, run_underlying hfs, hfd, asAgg, e, part, h2, h1, ho2]
          · unfold rdC at h
            simp only at h
            cases hb : Nat.beq ((l.drop off).take n).length n with
            | false => rw [hb] at h; cases h
            | true =>
              rw [hb] at h
              cases h
              refine ⟨_, rfl, ?_⟩
              have := (hr.drop off).take n
              rw [Array.toList_extract, List.extract_eq_take_drop]
              simpa using this
        | false =>
          obtain ⟨xs, hx, hxs, -, hsc⟩ := rd_spec h h3 hr
          obtain ⟨u, rfl, hu⟩ := hsc rfl
          refine ⟨u, ?_, hu⟩
          have h9 := hxs 0 u rfl
          simp only [Nat.add_zero, Array.getElem?_toList] at h9
          simp [execOp, ho, Instr.field, run_underlying hfs, hfd, asAgg, e, part, h2, ho2, h9]
      · cases h
    · cases hi2
  · cases hi
theorem q_iaddr {op : Op} {n : Nat} {y i : O} (hi : impQ P op (.iaddr n y i) = true) (h : stepQ (.iaddr n y i) tm σ = some v) (ht : RT φ tm a) : YQ P w φ a op v := by
  simp only [impQ] at hi
  simp only [stepQ, qiaddr] at h
  intro o ho
  split at hi
  · next t x ix =>
    rw [Bool.and_eq_true, Bool.and_eq_true] at hi
    have hx := opd_RV hi.1.1 ht
    have hix := opd_RV hi.1.2 ht
    have hi2 := hi.2
    split at hi2
    · next el hel =>
      have hs := szOk_spec hi2 w
      split at h
      · next b off len c j hx' hj =>
        rw [asN_spec hj] at hix
        rw [hx'] at hx
        obtain ⟨p, K, hp, e, hle, -⟩ := hx
        simp only [RV, RB] at hix
        cases hb : Nat.blt j len with
        | false => rw [hb] at h; cases h
        | true =>
          rw [hb] at h
          simp only [cond_true, fN_eq] at h
          cases h
          have hlt : j < len := Nat.le_of_ble_eq_true hb
          refine ⟨.pointer (some ⟨p.1, off + j * n, none⟩), ?_, p, hp, rfl⟩
          have hE : P.elem t = el := by simp [Program.elem, hel]
          simp only [execOp, ho, Sem.run_bind]
          rw [e, hix, run_indexAt_slice (P := P) w t _ len K .i64 _ (by rw [hE]; exact hel), if_pos ⟨by simp, by simpa using hlt⟩, hE, hs]
          simp [Addr.add_lit]
      · cases h
    · cases hi2
  · cases hi
end
end Go.Proofs.Ex

set_option linter.unusedSimpArgs false
set_option linter.unusedVariables false
namespace Go.Proofs.Ex
open Go.RowKit Go.Proofs.Ins

section
variable {P : Program} {N : Nat} {w0 w : World} {φ : Ph} {σ : St} {tm : Tr V} {a : Act} {v : V}

theorem q_ext {op : Op} {i : Nat} {y : O} (hi : impQ P op (.ext i y) = true) (h : stepQ (.ext i y) tm σ = some v) (ht : RT φ tm a) : YQ P w φ a op v := by
  simp only [impQ] at hi
  simp only [stepQ, qext] at h
  intro o ho
  split at hi
  · next x j =>
    rw [Bool.and_eq_true] at hi
    have hx := opd_RV hi.1 ht
    have hj := Nat.eq_of_beq_eq_true hi.2
    subst hj
    split at h
    · next hy =>
      rw [hy] at hx
      cases h
      obtain ⟨u, xs, e, h1, h2⟩ := hx
      exact ⟨u, by simp [execOp, ho, Instr.extract, e], h1⟩
    · next hy =>
      rw [hy] at hx
      cases h
      obtain ⟨u, xs, e, h1, u2, xs2, e2, h3, h4⟩ := hx
      have e2 : xs = u2 :: xs2 := by simpa using e2
      subst e2
      exact ⟨u2, by simp [execOp, ho, Instr.extract, e], h3⟩
    · next hy =>
      rw [hy] at hx
      cases h
      obtain ⟨u, xs, e, h1, u2, xs2, e2, h3, u3, xs3, e3, h5, h6⟩ := hx
      have e2 : xs = u2 :: xs2 := by simpa using e2
      have e3 : xs2 = u3 :: xs3 := by simpa using e3
      subst e2
      subst e3
      exact ⟨u3, by simp [execOp, ho, Instr.extract, e], h5⟩
    · cases h
  · cases hi
theorem mkI_spec {k : IntKind} {n : Int} (h : mkI k n = some v) : v = .c (.int k n) ∧ k.wrap n = n := by
  unfold mkI at h
  rw [fI_eq] at h
  cases hr : inR k n with
  | false => rw [hr] at h; cases h
  | true => rw [hr] at h; cases h; exact ⟨rfl, inR_wrap hr⟩
theorem binI_spec {b : BinOp} {k : IntKind} {x y : Int} (h : binI b k x y = some v) (t : TypeId) (X Y : Operand) :
    ∃ cv, ((do eqGuard b t X Y (.int k x) (.int k y); binOp b t (.int k x) (.int k y)) : Sem Value).run P w = .ok cv w ∧ RV φ v cv := by
  cases b <;> simp only [binI] at h
  case add => obtain ⟨rfl, e⟩ := mkI_spec h; exact ⟨_, by simp [eqGuard_at_int, binOp_add, Op.intArith]; rfl, by rw [e]; rfl⟩
  case sub => obtain ⟨rfl, e⟩ := mkI_spec h; exact ⟨_, by simp [eqGuard_at_int, binOp_sub, Op.intArith]; rfl, by rw [e]; rfl⟩
  case mul => obtain ⟨rfl, e⟩ := mkI_spec h; exact ⟨_, by simp [eqGuard_at_int, binOp_mul, Op.intArith]; rfl, by rw [e]; rfl⟩
  case eql => cases h; exact ⟨.bool (x == y), by simp [eqGuard_at_int, binOp_eql], by show Value.bool _ = .bool _; congr 1⟩
  case neq => cases h; exact ⟨.bool (x != y), by simp [eqGuard_at_int, binOp_neq], by show Value.bool _ = .bool _; congr 1⟩
  case lss => cases h; exact ⟨.bool (x < y), by simp [eqGuard_at_int, binOp_lss], rfl⟩
  case leq => cases h; exact ⟨.bool (x ≤ y), by simp [eqGuard_at_int, binOp_leq], rfl⟩
  case gtr => cases h; exact ⟨.bool (x > y), by simp [eqGuard_at_int, binOp_gtr], rfl⟩
  case geq => cases h; exact ⟨.bool (x ≥ y), by simp [eqGuard_at_int, binOp_geq], rfl⟩
  all_goals cases h
theorem q_bin {op : Op} {b : BinOp} {x y : O} (hi : impQ P op (.bin b x y) = true) (h : stepQ (.bin b x y) tm σ = some v) (ht : RT φ tm a) : YQ P w φ a op v := by
  simp only [impQ] at hi
  simp only [stepQ] at h
  intro o ho
  split at hi
  · next b' t X Y _ =>
    simp only [Bool.and_eq_true, decide_eq_true_eq] at hi
    obtain ⟨⟨⟨rfl, h1⟩, h2⟩, -⟩ := hi
    have hx := opd_RV h1 ht
    have hy := opd_RV h2 ht
    unfold binV at h
    split at h
    · next j p k q ex ey =>
      rw [ex] at hx; rw [ey] at hy
      simp only [RV, RB] at hx hy
      cases hk : decide (j = k) with
      | false => rw [hk] at h; cases h
      | true =>
        rw [hk] at h
        have hk : j = k := of_decide_eq_true hk
        subst hk
        obtain ⟨cv, e1, e2⟩ := binI_spec (P := P) (w := w) (φ := φ) h t X Y
        refine ⟨cv, ?_, e2⟩
        simp only [execOp, ho, hx, hy]
        rw [Sem.run_bind, e1]
        rfl
    · next p q ex ey =>
      rw [ex] at hx; rw [ey] at hy
      simp only [RV, RB] at hx hy
      split at h
      · cases h; exact ⟨_, by simp only [execOp, ho, hx, hy, Sem.run_bind, eqGuard_at_string, Sem.run_pure, Result.andThen_ok, binOp, Op.stringOp, bn_beq], rfl⟩
      · cases h; exact ⟨_, by simp only [execOp, ho, hx, hy, Sem.run_bind, eqGuard_at_string, Sem.run_pure, Result.andThen_ok, binOp, Op.stringOp, bn_beq], rfl⟩
      · cases h
    · cases h
  · cases hi
theorem q_eqb {op : Op} {p : Bool} {x y : O} (hi : impQ P op (.eqb p x y) = true) (h : stepQ (.eqb p x y) tm σ = some v) (ht : RT φ tm a) : YQ P w φ a op v := by
  simp only [impQ] at hi
  simp only [stepQ, qeqb] at h
  intro o ho
  split at hi
  · next b t X Y _ =>
    simp only [Bool.and_eq_true] at hi
    obtain ⟨⟨⟨h0, h1⟩, h2⟩, h3⟩ := hi
    have hx := opd_RV h1 ht
    have hy := opd_RV h2 ht
    split at h3
    · next hb =>
      split at h
      · next q r ex ey =>
        rw [ex] at hx; rw [ey] at hy
        simp only [RV, RB] at hx hy
        cases h
        split at h0
        · rw [h0]; exact ⟨.bool (q == r), by simp only [execOp, ho, hx, hy, Sem.run_bind, eqGuard_at_bool, Sem.run_pure, Result.andThen_ok, run_eql_bool w t q r hb], by show Value.bool _ = .bool _; congr 1; cases q <;> cases r <;> rfl⟩
        · have h0 : p = false := by simpa using h0
          rw [h0]; exact ⟨.bool (!(q == r)), by simp only [execOp, ho, hx, hy, Sem.run_bind, eqGuard_at_bool, Sem.run_pure, Result.andThen_ok, run_neq_bool w t q r hb], by show Value.bool _ = .bool _; congr 1; cases q <;> cases r <;> rfl⟩
        · cases h0
      · cases h
    · cases h3
  · cases hi
theorem q_not {op : Op} {x : O} (hi : impQ P op (.not x) = true) (h : stepQ (.not x) tm σ = some v) (ht : RT φ tm a) : YQ P w φ a op v := by
  simp only [impQ] at hi
  simp only [stepQ, qnot] at h
  intro o ho
  split at hi
  · have hx := opd_RV hi ht
    split at h
    · next b e =>
      rw [e] at hx
      simp only [RV, RB] at hx
      cases h
      exact ⟨.bool (!b), by simp [execOp, ho, hx, Op.unary], rfl⟩
    · cases h
  · cases hi
theorem q_conv {op : Op} {k : IntKind} {x : O} (hi : impQ P op (.conv k x) = true) (h : stepQ (.conv k x) tm σ = some v) (ht : RT φ tm a) : YQ P w φ a op v := by
  simp only [impQ] at hi
  simp only [stepQ, qconv] at h
  intro o ho
  split at hi
  · next src dst X =>
    simp only [Bool.and_eq_true] at hi
    have hx := opd_RV hi.1.1 ht
    have h2 := hi.2
    obtain ⟨d, hd⟩ := Option.isSome_iff_exists.mp hi.1.2
    split at h2
    · next j hj =>
      have := of_decide_eq_true h2
      subst this
      split at h
      · next k' n e =>
        rw [e] at hx
        simp only [RV, RB] at hx
        cases hr : inR j n with
        | false => rw [hr] at h; cases h
        | true =>
          rw [hr] at h
          cases h
          refine ⟨.int j n, ?_, rfl⟩
          simp [execOp, ho, hx, convert, run_underlying hd, run_underlying hj, Conv.intToInt, inR_wrap hr]
      · cases h
    · cases h2
  · cases hi
theorem q_nchk {op : Op} {x : O} (hi : impQ P op (.nchk x) = true) (h : stepQ (.nchk x) tm σ = some v) (ht : RT φ tm a) : YQ P w φ a op v := by
  simp only [impQ] at hi
  simp only [stepQ, qnchk] at h
  intro o ho
  split at hi
  · have hx := opd_RV hi ht
    split at h
    · next b off e =>
      rw [e] at hx
      cases h
      obtain ⟨p, hp, e2⟩ := hx
      exact ⟨_, by simp [execOp, ho, e2], p, hp, rfl⟩
    · next f l e =>
      rw [e] at hx
      cases h
      obtain ⟨r, e2, hr⟩ := hx
      exact ⟨_, by simp [execOp, ho, e2], r, rfl, hr⟩
    · cases h
  · cases hi
theorem q_len {op : Op} {x : O} (hi : impQ P op (.len x) = true) (h : stepQ (.len x) tm σ = some v) (ht : RT φ tm a) : YQ P w φ a op v := by
  simp only [impQ] at hi
  simp only [stepQ, qlen] at h
  intro o ho
  split at hi
  · next c =>
    split at hi
    · next hc =>
      split at hi
      · next X t hX hT =>
        rw [Bool.and_eq_true] at hi
        have hx := opd_RV hi.1 ht
        have h2 := hi.2
        have hX : c.args = #[X] := by rw [← Array.toArray_toList (xs := c.args), hX]
        have hT : c.argTypes = #[t] := by rw [← Array.toArray_toList (xs := c.argTypes), hT]
        split at h2
        · next el hel =>
          have hE : P.underlying t = some (.slice (P.elem t)) := by rw [hel]; simp [Program.elem, hel]
          split at h
          · next b off n cp e =>
            rw [e] at hx
            obtain ⟨p, K, hp, e2, -⟩ := hx
            cases h
            exact ⟨.int .i64 n, by simp [execOp, ho, resolve, hc, hX, hT, invoke, builtin, e2, run_len_slice w t _ _ n K hE, goInt], rfl⟩
          · next e =>
            rw [e] at hx
            simp only [RV, RB] at hx
            cases h
            exact ⟨.int .i64 0, by simp [execOp, ho, resolve, hc, hX, hT, invoke, builtin, hx, run_len_slice w t _ _ 0 0 hE, goInt], rfl⟩
          · cases h
        · cases h2
      · cases hi
    · cases hi
  · cases hi
theorem evBs_spec (ht : RT φ tm a) : ∀ {cs : List O} {l : List B} {xs : List Operand}, evBs tm cs = some l → opds xs cs = true → RBs φ l (xs.map a.eval)
  | [], l, [], h, _ => by
    simp only [evBs, Option.some.injEq] at h
    subst h
    trivial
  | [], _, _ :: _, _, h => by cases h
  | _ :: _, _, [], _, h => by cases h
  | y :: ys, l, x :: xs, h, hc => by
    unfold opds at hc
    rw [Bool.and_eq_true] at hc
    have hx := opd_RV hc.1 ht
    unfold evBs at h
    split at h
    · next b l' e e2 =>
      cases h
      rw [e] at hx
      exact ⟨hx, evBs_spec ht e2 hc.2⟩
    · cases h
theorem q_mkfn {op : Op} {f : Nat} {cs : List O} (hi : impQ P op (.mkfn f cs) = true) (h : stepQ (.mkfn f cs) tm σ = some v) (ht : RT φ tm a) : YQ P w φ a op v := by
  simp only [impQ] at hi
  simp only [stepQ, qmkfn] at h
  intro o ho
  split at hi
  · next f' first caps =>
    simp only [Bool.and_eq_true] at hi
    have hf := Nat.eq_of_beq_eq_true hi.1.1
    subst hf
    have hfirst : first = #[] := by
      have := hi.1.2
      rw [← Array.toArray_toList (xs := first)]
      cases hl : first.toList with
      | nil => rfl
      | cons x l => rw [hl] at this; cases this
    have hcs := hi.2
    split at h
    · next l hl =>
      cases h
      refine ⟨_, by simp [execOp, ho, Instr.makeFunc, hfirst]; rfl, _, rfl, ?_⟩
      rw [Array.toList_map]
      exact evBs_spec ht hl hcs
    · cases h
  · cases hi
end
end Go.Proofs.Ex
