/- The executor: what is taken by contract; the laws' own examples. -/
import Derived.Test.YtiaefgffeekfkaaGreatDoorZ14
import Derived.Test.YtiaefgffeekfkaaGreatDoorZ25
import Derived.Test.YtiaefgffeekfkaaGreatDoorZ2

set_option linter.unusedSimpArgs false
set_option linter.unusedVariables false
namespace Go.Proofs.Xe
open Go Go.RowKit Go.ChangeShapes Go.WideShapes Go.ChangeAt Go.Deep Go.Proofs.Ins Go.Proofs.YtiaefgffeekfkaaGreatDoor
section
variable {H : Type} {enc : TypeId × Value → H} {W : World} {sp : Nat → Bool} {held : Bool}
theorem sl_form {P : Program} {t e : TypeId} (ht : P.underlying t = some (.slice e)) {fuel : Nat} {a : Option Addr} {n c : Nat} {x : DataW H × List MemPlace} (h : DataW.trod enc P W 0 sp held fuel t [.slice a n c] = some x) : ((a = none ∧ n = 0 ∧ c = 0) ∨ ∃ y, a = some y) ∧ n ≤ c ∧ c ≤ 9223372036854775807 := by
 rcases open_slice ht h with ⟨e1, -⟩ | ⟨a', len, cap, m, k, D, Pl, e1, -, hl, hm, -⟩
 ·simp only [List.cons.injEq, Value.slice.injEq, and_true] at e1
  obtain ⟨rfl, rfl, rfl⟩ := e1
  exact ⟨.inl ⟨rfl, rfl, rfl⟩, Nat.le_refl _, by omega⟩
 ·simp only [List.cons.injEq, Value.slice.injEq, and_true] at e1
  obtain ⟨rfl, rfl, rfl⟩ := e1
  simp only [maxLen] at hm
  exact ⟨.inr ⟨_, rfl⟩, hl, by omega⟩
set_option maxRecDepth 100000 in
theorem x_u16s {fuel : Nat} {cs : List Value} {x : DataW H × List MemPlace} (h : DataW.trod enc Tryz.prog W 0 sp held fuel 22 cs = some x) (hL : Light Tryz.prog 22 x.1) :
  ∃ v n, ∃ M : Nat → Nat, cs = [v] ∧ n ≤ 140737488351232 ∧ HL (St.of W).h 1 (absB W.heap.size v) n (fun i => [.int .u16 (.ofNat (M i))]) ∧ ∀ i, i < n → M i ≤ 65535 := by
 obtain ⟨a, n, c, M, rfl, hn, hs, hM⟩ := arg_u16s h hL
 obtain ⟨h1, h2, h3⟩ := sl_form Tryz.underlying22 h
 exact ⟨_, n, M, rfl, hn, HL.of hs h1 h2 h3 (by decide) (fun _ _ => rfl) (fun i _ v hv => by
  simp only [c16, List.mem_singleton] at hv
  rw [hv]; rfl), hM⟩
set_option maxRecDepth 100000 in
theorem x_arr4_cells {fuel : Nat} {cs : List Value} {x : DataW H × List MemPlace} (h : DataW.trod enc Tryz.prog W 0 sp held fuel 115 cs = some x) :
  ∃ m : Nat → Nat, cs = [.int .u16 (m 0 : Int), .int .u16 (m 1 : Int), .int .u16 (m 2 : Int), .int .u16 (m 3 : Int)] ∧ ∀ j, m j ≤ 65535 := by
 obtain ⟨xs, n, rfl, rfl, hl, hx, hf⟩ := DataW.trod_array Tryz.underlying115 h
 have hc : Tryz.prog.cellsOf 115 = 4 := by kernel_rfl
 have hc0 : Tryz.prog.cellsOf 24 = 1 := by kernel_rfl
 simp only [hc0, Nat.mul_one] at hf
 rw [hc] at hl
 match cs, hl, xs, hx with
 | [c0, c1, c2, c3], _, [x0, x1, x2, x3], _ =>
  obtain ⟨m0, e0, l0⟩ := u16_cells (show DataW.trod enc Tryz.prog W 0 sp held n 24 [c0] = some x0 from hf 0 (by omega))
  obtain ⟨m1, e1, l1⟩ := u16_cells (show DataW.trod enc Tryz.prog W 0 sp held n 24 [c1] = some x1 from hf 1 (by omega))
  obtain ⟨m2, e2, l2⟩ := u16_cells (show DataW.trod enc Tryz.prog W 0 sp held n 24 [c2] = some x2 from hf 2 (by omega))
  obtain ⟨m3, e3, l3⟩ := u16_cells (show DataW.trod enc Tryz.prog W 0 sp held n 24 [c3] = some x3 from hf 3 (by omega))
  simp at e0 e1 e2 e3
  subst e0 e1 e2 e3
  exact ⟨fun j => if j = 0 then m0 else if j = 1 then m1 else if j = 2 then m2 else m3, rfl, fun j => by dsimp only; split; exact l0; split; exact l1; split; exact l2; exact l3⟩
set_option maxRecDepth 100000 in
theorem x_arrs {fuel : Nat} {cs : List Value} {x : DataW H × List MemPlace} (h : DataW.trod enc Tryz.prog W 0 sp held fuel 23 cs = some x) (hL : Light Tryz.prog 23 x.1) :
  ∃ v n, ∃ L : Nat → Nat → Nat, cs = [v] ∧ n ≤ 140737488351232 ∧ HL (St.of W).h 4 (absB W.heap.size v) n (fun i => [.int .u16 (.ofNat (L i 0)), .int .u16 (.ofNat (L i 1)), .int .u16 (.ofNat (L i 2)), .int .u16 (.ofNat (L i 3))]) ∧ ∀ i j, i < n → L i j ≤ 65535 := by
 obtain ⟨a, n, c, C, rfl, hn, hs0, hx⟩ := open_rows (k := 4) Tryz.underlying23 (by kernel_rfl) (by omega) (of_decide_eq_true (by kernel_rfl)) h hL
 obtain ⟨L, hLL⟩ := choose_lt (α := Nat → Nat) (p := fun i m => C i = [.int .u16 (m 0 : Int), .int .u16 (m 1 : Int), .int .u16 (m 2 : Int), .int .u16 (m 3 : Int)] ∧ ∀ j, m j ≤ 65535) (fun i hi => by
  obtain ⟨_, n, y, h1, h2⟩ := hx i hi
  exact x_arr4_cells h1)
 have hs := hs0.congr fun i hi => (hLL i hi).1
 obtain ⟨h1, h2, h3⟩ := sl_form Tryz.underlying23 h
 exact ⟨_, n, L, rfl, hn, HL.of hs h1 h2 h3 (by decide) (fun _ _ => rfl) (fun i _ v hv => by
  simp only [List.mem_cons, List.not_mem_nil, or_false] at hv
  rcases hv with rfl | rfl | rfl | rfl <;> rfl), fun i j hi => (hLL i hi).2 j⟩
set_option maxRecDepth 100000 in
theorem x_u16ss {fuel : Nat} {cs : List Value} {x : DataW H × List MemPlace} (h : DataW.trod enc Tryz.prog W 0 sp held fuel 25 cs = some x) (hL : Light Tryz.prog 25 x.1) :
  ∃ v n, ∃ (R : Nat → B) (ns : Nat → Nat) (M : Nat → Nat → Nat), cs = [v] ∧ n ≤ 140737488351232 ∧ HL (St.of W).h 1 (absB W.heap.size v) n (fun i => [R i]) ∧ (∀ i, i < n → HL (St.of W).h 1 (R i) (ns i) fun k => [.int .u16 (.ofNat (M i k))]) ∧ ∀ i, i < n → ∀ k, k < ns i → M i k ≤ 65535 := by
 obtain ⟨a, n, c, C, rfl, hn, hs, hx⟩ := open_rows (k := 1) Tryz.underlying25 (by kernel_rfl) (by omega) (of_decide_eq_true (by kernel_rfl)) h hL
 obtain ⟨h1, h2, h3⟩ := sl_form Tryz.underlying25 h
 obtain ⟨f, hf⟩ := choose_lt (α := Value × Nat × (Nat → Nat)) (p := fun i z => C i = [z.1] ∧ HL (St.of W).h 1 (absB W.heap.size z.1) z.2.1 (fun k => [.int .u16 (.ofNat (z.2.2 k))]) ∧ ∀ k, k < z.2.1 → z.2.2 k ≤ 65535) (fun i hi => by
  obtain ⟨_, m, y, k1, k2⟩ := hx i hi
  obtain ⟨v, n', M, e, -, k3, k4⟩ := x_u16s k1 k2
  exact ⟨(v, n', M), e, k3, k4⟩)
 refine ⟨_, n, fun i => absB W.heap.size (f i).1, fun i => (f i).2.1, fun i => (f i).2.2, rfl, hn, ?_, fun i hi => (hf i hi).2.1, fun i hi => (hf i hi).2.2⟩
 have := HL.of hs h1 h2 h3 (by decide) (fun i hi => (hx i hi).1) (fun i hi v hv => by
  rw [(hf i hi).1, List.mem_singleton] at hv
  rw [hv]; exact (hf i hi).2.1.kn)
 rcases this with h | ⟨b, o, c', e, h⟩
 ·exact .inl h
 ·exact .inr ⟨b, o, c', e, fun i hi => by
   rw [h i hi]
   show some (V.agg ((C i).map (absB W.heap.size))) = _
   rw [(hf i hi).1]; rfl⟩
end
end Go.Proofs.Xe

set_option linter.unusedSimpArgs false
set_option linter.unusedVariables false
namespace Go.Proofs.Ins
structure SmallE (k : Nat) (e : Est) : Prop where
 m : e.m.fits k
 c : ∀ i, i < e.c.length → (ix e.c i).a.fits k
 a : ∀ i j l, i < e.a.length → j < (ix e.a i).length → l < (ix (ix e.a i) j).length → (ix (ix (ix e.a i) j) l).a.fits k
 lc : e.c.length ≤ 140737488351232
 la : e.a.length ≤ 140737488351232
 lt : ∀ i, i < e.a.length → (ix e.a i).length ≤ 140737488351232
 lp : ∀ i j, i < e.a.length → j < (ix e.a i).length → (ix (ix e.a i) j).length ≤ 140737488351232
structure SmallG (k : Nat) (g : Grp) : Prop where
 e : ∀ i, i < g.e.length → SmallE k (ix g.e i)
 w : ∀ i, i < g.d.length → (ix g.d i).w.fits k
 le : g.e.length ≤ 140737488351232
 ld : g.d.length ≤ 140737488351232
 ll : ∀ i, i < g.d.length → (ix g.d i).l.length ≤ 140737488351232
end Go.Proofs.Ins

set_option linter.unusedSimpArgs false
set_option linter.unusedVariables false
namespace Go.Proofs.Xe
open Go.RowKit Go.Proofs.Ins
def HLp (p : Nat → Prop) (h : Tr Bk) (e : Nat) (v : B) (n : Nat) (G : Nat → List B) : Prop :=
 (n = 0 ∧ v = .nils) ∨ ∃ b o c, v = .sl b o n c ∧ (0 < n → p b) ∧ ∀ i, i < n → ld h b (o + i * e) e true = some (.agg (G i))
section
variable {p q : Nat → Prop} {h h' : Tr Bk} {e n : Nat} {v : B} {G : Nat → List B}
theorem HLp.hl (hl : HLp p h e v n G) : HL h e v n G := by
 rcases hl with h | ⟨b, o, c, h1, h2, h3⟩
 ·exact .inl h
 ·exact .inr ⟨b, o, c, h1, h3⟩
theorem HL.hlp (hl : HL h e v n G) : HLp (fun _ => True) h e v n G := by
 rcases hl with h | ⟨b, o, c, h1, h3⟩
 ·exact .inl h
 ·exact .inr ⟨b, o, c, h1, fun _ => trivial, h3⟩
theorem HLp.len (hl : HLp p h e v n G) : lenV (.c v) = some (.c (.int .i64 (.ofNat n))) := hl.hl.len
theorem HLp.kn (hl : HLp p h e v n G) : v.kn = true := hl.hl.kn
theorem HLp.pos (hl : HLp p h e v n G) (hn : 0 < n) : ∃ b o c, v = .sl b o n c ∧ p b ∧ ∀ i, i < n → ld h b (o + i * e) e true = some (.agg (G i)) := by
 rcases hl with ⟨rfl, -⟩ | ⟨b, o, c, h1, h2, h3⟩
 ·omega
 ·exact ⟨b, o, c, h1, h2 hn, h3⟩
theorem HLp.keep (hl : HLp p h e v n G) (hk : ∀ b, p b → h' b = h b) (hp : ∀ b, p b → q b) : HLp q h' e v n G := by
 rcases hl with h1 | ⟨b, o, c, h1, h2, h3⟩
 ·exact .inl h1
 ·refine .inr ⟨b, o, c, h1, fun h => hp _ (h2 h), fun i hi => ?_⟩
  have := h3 i hi
  unfold ld at this ⊢
  rw [hk b (h2 (by omega))]; exact this
theorem HLp.congr {G' : Nat → List B} (hl : HLp p h e v n G) (hg : ∀ i, i < n → G i = G' i) : HLp p h e v n G' := by
 rcases hl with h1 | ⟨b, o, c, h1, h2, h3⟩
 ·exact .inl h1
 ·exact .inr ⟨b, o, c, h1, h2, fun i hi => by rw [← hg i hi]; exact h3 i hi⟩
theorem HLp.nil : HLp p h e .nils 0 G := .inl ⟨rfl, rfl⟩
end
def c5B (x : C5) : List B := [.int .i64 x.h, .int .i64 x.r, .bool x.a.n, .str x.a.s, .str x.a.d]
def prtB (x : Prt) : List B := [.int .i64 x.k, .bool x.b, .bool x.a.n, .str x.a.s, .str x.a.d]
def lgB (x : Ins.Lg) : List B := [.int .i64 x.e, .int .i64 x.k]
def HClaims (p : Nat → Prop) (h : Tr Bk) (v : B) (l : List C5) : Prop := HLp p h 5 v l.length fun i => c5B (ix l i)
def HParts (p : Nat → Prop) (h : Tr Bk) (v : B) (l : List Prt) : Prop := HLp p h 5 v l.length fun i => prtB (ix l i)
def HLegs (p : Nat → Prop) (h : Tr Bk) (v : B) (l : List Ins.Lg) : Prop := HLp p h 2 v l.length fun i => lgB (ix l i)
def HTiers (p : Nat → Prop) (h : Tr Bk) (v : B) (l : Agr) : Prop := ∃ T : Nat → B, HLp p h 1 v l.length (fun i => [T i]) ∧ ∀ i, i < l.length → HParts p h (T i) (ix l i)
def HAgrs (p : Nat → Prop) (h : Tr Bk) (v : B) (l : List Agr) : Prop := ∃ T : Nat → B, HLp p h 1 v l.length (fun i => [T i]) ∧ ∀ i, i < l.length → HTiers p h (T i) (ix l i)
def HEsts (p : Nat → Prop) (h : Tr Bk) (v : B) (l : List Est) : Prop := ∃ C A : Nat → B, HLp p h 5 v l.length (fun i => [.bool (ix l i).m.n, .str (ix l i).m.s, .str (ix l i).m.d, C i, A i]) ∧ ∀ i, i < l.length → HClaims p h (C i) (ix l i).c ∧ HAgrs p h (A i) (ix l i).a
def HDbts (p : Nat → Prop) (h : Tr Bk) (v : B) (l : List Dbt) : Prop := ∃ L : Nat → B, HLp p h 4 v l.length (fun i => [.bool (ix l i).w.n, .str (ix l i).w.s, .str (ix l i).w.d, L i]) ∧ ∀ i, i < l.length → HLegs p h (L i) (ix l i).l
structure HGrp (p : Nat → Prop) (h : Tr Bk) (ev dv : B) (g : Grp) : Prop where
 e : HEsts p h ev g.e
 d : HDbts p h dv g.d
section
variable {p q p' : Nat → Prop} {h h' : Tr Bk} {v ev dv : B}
theorem HTiers.keep {l : Agr} (hl : HTiers p h v l) (hk : ∀ b, p b → h' b = h b) (hp : ∀ b, p b → q b) : HTiers q h' v l := by
 obtain ⟨T, h1, h2⟩ := hl
 exact ⟨T, h1.keep hk hp, fun i hi => (h2 i hi).keep hk hp⟩
theorem HAgrs.keep {l : List Agr} (hl : HAgrs p h v l) (hk : ∀ b, p b → h' b = h b) (hp : ∀ b, p b → q b) : HAgrs q h' v l := by
 obtain ⟨T, h1, h2⟩ := hl
 exact ⟨T, h1.keep hk hp, fun i hi => (h2 i hi).keep hk hp⟩
theorem HEsts.keep {l : List Est} (hl : HEsts p h v l) (hk : ∀ b, p b → h' b = h b) (hp : ∀ b, p b → q b) : HEsts q h' v l := by
 obtain ⟨C, A, h1, h2⟩ := hl
 exact ⟨C, A, h1.keep hk hp, fun i hi => ⟨(h2 i hi).1.keep hk hp, (h2 i hi).2.keep hk hp⟩⟩
theorem HDbts.keep {l : List Dbt} (hl : HDbts p h v l) (hk : ∀ b, p b → h' b = h b) (hp : ∀ b, p b → q b) : HDbts q h' v l := by
 obtain ⟨L, h1, h2⟩ := hl
 exact ⟨L, h1.keep hk hp, fun i hi => (h2 i hi).keep hk hp⟩
theorem HGrp.keep {g : Grp} (hg : HGrp p h ev dv g) (hk : ∀ b, p b → h' b = h b) (hp : ∀ b, p b → q b) : HGrp q h' ev dv g := ⟨hg.e.keep hk hp, hg.d.keep hk hp⟩
end
/-! ### What it says of a world -/
end Go.Proofs.Xe

namespace Go.Proofs.Xe
open Go.RowKit Go.Proofs.Ins
def orcG (_ : Nat) (_ : List V) (_ : St) : Option (V × St) := none
theorem orcG_ok (f : Nat) (args : List V) (σ : St) (v : V) (σ' : St) (h : orcG f args σ = some (v, σ')) : okF Tryz.prog f ∧ ∀ (N : Nat) (w0 : World) (φ : Ph) (w : World) (cargs : Array Value), Rel N w0 φ σ w → RVs φ args cargs.toList →
  Calls Tryz.prog f cargs w fun e w' => ∃ cv, e = .returned cv ∧ ∃ φ', Ext σ.nxt φ φ' ∧ Rel N w0 φ' σ' w' ∧ RV φ' v cv ∧ σ.nxt ≤ σ'.nxt := by cases h
end Go.Proofs.Xe

set_option linter.unusedSimpArgs false
set_option linter.unusedVariables false
namespace Go.Proofs.Xe
open Go.RowKit Go.Proofs.Ins
def AwakeOk (f : Nat) : Prop := okF Tryz.prog f ∧ ∀ w, Calls Tryz.prog f #[] w fun e w' => e = .returned (.bool true) ∧ Below w.heap.size w w'
def awN : List Nat := [
 9,
 23,
 1000000]
noncomputable section
open Classical in
def orcW (f : Nat) (args : List V) (σ : St) : Option (V × St) := bif awN.contains f then (match args with | [] => if AwakeOk f then some (.c (.bool true), σ) else none | _ => none) else none
def orcA (f : Nat) (args : List V) (σ : St) : Option (V × St) := match orcE f args σ with
 | some r => some r
 | none => match orcG f args σ with
  | some r => some r
  | none => orcW f args σ
end
theorem orcA_ok (f : Nat) (args : List V) (σ : St) (v : V) (σ' : St) (h : orcA f args σ = some (v, σ')) : okF Tryz.prog f ∧ ∀ (N : Nat) (w0 : World) (φ : Ph) (w : World) (cargs : Array Value), Rel N w0 φ σ w → RVs φ args cargs.toList →
  Calls Tryz.prog f cargs w fun e w' => ∃ cv, e = .returned cv ∧ ∃ φ', Ext σ.nxt φ φ' ∧ Rel N w0 φ' σ' w' ∧ RV φ' v cv ∧ σ.nxt ≤ σ'.nxt := by
 unfold orcA at h
 split at h
 ·next r hr => cases h; exact orcE_ok f args σ v σ' hr
 ·split at h
  ·next r hr => cases h; exact orcG_ok f args σ v σ' hr
  ·unfold orcW at h
   cases hb : awN.contains f with
   | false => rw [hb] at h; cases h
   | true =>
    rw [hb] at h
    simp only [cond_true] at h
    split at h
    ·split at h
     ·next ha =>
      cases h
      refine ⟨ha.1, fun N w0 φ w cargs hR hargs => ?_⟩
      obtain ⟨l⟩ := cargs
      match l, hargs with
      | [], _ => exact (ha.2 w).mono fun e w' he => ⟨_, he.1, φ, Ext.refl _ _, hR.below he.2, rfl, Nat.le_refl _⟩
     ·cases h
    ·cases h
class HasA (E : Env) : Prop where
 a : ∀ f args σ r, orcA f args σ = some r → E.orc f args σ = some r
instance {E : Env} [h : HasA E] : HasO E := ⟨fun f args σ v hv => h.a f args σ _ (by unfold orcA orcE; rw [hv])⟩
theorem callX_orc {E : Env} [hE : HasA E] {f : Nat} {args : List V} {v : V} {σ σ2 : St} {K : V → St → Prop} (h : orcA f args σ = some (v, σ2)) : CallX E f args σ K = K v σ2 := by
 refine propext ⟨fun ⟨n, v', σ', h1, h2⟩ => ?_, fun hk => call_orc (hE.a f args σ _ h) hk⟩
 have h3 : callF E 1 f args σ = some (v, σ2) := by rw [callF]; unfold xCall; rw [hE.a f args σ _ h]
 have a := callF_mono (show n ≤ n + 1 by omega) f args σ _ h1
 have b := callF_mono (show 1 ≤ n + 1 by omega) f args σ _ h3
 rw [a] at b
 cases b
 exact h2
section
variable {E : Env} [HasA E] {σ : St} {K : V → St → Prop}
theorem x_awake21 (h : AwakeOk 9) : CallX E 9 [] σ K = K (.c (.bool true)) σ :=
 callX_orc (by
  unfold orcA orcE orcP orcG orcW
  simp only [Nat.reduceEqDiff, reduceIte, show awN.contains 9 = true from rfl, cond_true, if_pos h])
end
end Go.Proofs.Xe
