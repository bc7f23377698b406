/- The executor's oracles: fractions and natural numbers by their contracts. Printed by x16gen.py. -/
import Derived.Test.YtiaefgffeekfkaaGreatDoorZ20
import Derived.Test.YtiaefgffeekfkaaGreatDoorZ21
import Derived.Test.YtiaefgffeekfkaaGreatDoorZ13

set_option linter.unusedSimpArgs false
set_option linter.unusedVariables false
namespace Go.Proofs.Xe
open Go.RowKit Go.Proofs.Ins
def szK : Nat := 60000000
def Sz (q : Rat) : Prop := Sm szK q
def SzN (a : Nat) : Prop := (bn a).size ≤ 60000000
def rV (q : Rat) : V := .agg [.bool (rn q), .str (rs q), .str (rd q)]
def rbV (q : Rat) (b : Bool) : V := .tcons (rV q) (.tcons (.c (.bool b)) .tnil)
def iV (i : Int) : V := .c (.int .i64 i)
theorem rV_inj {p q : Rat} (h : rV p = rV q) : p = q := by
 unfold rV at h
 simp only [V.agg.injEq, List.cons.injEq, B.bool.injEq, B.str.injEq, and_true] at h
 exact fields_inj h.1 h.2.1 h.2.2
theorem Sz.sizes {p : Rat} (h : Sz p) : (rs p).size ≤ 60000000 ∧ (rd p).size ≤ 60000000 := ⟨Sm.rs h, Sm.rd h⟩
theorem rV_RV (q : Rat) (φ : Ph) : RV φ (rV q) (rv q) := ⟨_, rfl, rfl, rfl, rfl, trivial⟩
theorem rbV_RV (q : Rat) (b : Bool) (φ : Ph) : RV φ (rbV q b) (rvB q b) := ⟨_, [.bool b], rfl, rV_RV q φ, .bool b, [], rfl, rfl, rfl⟩
def okFB (P : Program) (f : Nat) : Bool := match P.funcs[f]? with | some fn => !fn.body.isNone && !(fn.name == "runtime.NumGoroutine") | none => false
theorem okF_of {P : Program} {f : Nat} (h : okFB P f = true) : okF P f := by
 unfold okFB at h
 split at h
 ·next fn hfn =>
  simp only [Bool.and_eq_true, Bool.not_eq_true'] at h
  exact ⟨fn, hfn, h.1, h.2⟩
 ·cases h
def Ct (P : Program) (f : Nat) (v : V) (cargs : Array Value) (w : World) : Prop :=
 Calls P f cargs w fun e w' => ∃ cv, e = .returned cv ∧ Below w.heap.size w w' ∧ ∀ φ', RV φ' v cv
variable {φ : Ph} {args : List V} {v : V} {cargs : Array Value} {P : Program} {f : Nat}
theorem one_arg {x : V} (h : RVs φ [x] cargs.toList) : ∃ u, cargs = #[u] ∧ RV φ x u := by
 obtain ⟨l⟩ := cargs
 match l, h with
 | [u], h => exact ⟨u, rfl, h.1⟩
theorem two_args {x y : V} (h : RVs φ [x, y] cargs.toList) : ∃ u v, cargs = #[u, v] ∧ RV φ x u ∧ RV φ y v := by
 obtain ⟨l⟩ := cargs
 match l, h with
 | [u, v], h => exact ⟨u, v, rfl, h.1, h.2.1⟩
theorem three_args {x y z : V} (h : RVs φ [x, y, z] cargs.toList) : ∃ u v t, cargs = #[u, v, t] ∧ RV φ x u ∧ RV φ y v ∧ RV φ z t := by
 obtain ⟨l⟩ := cargs
 match l, h with
 | [u, v, t], h => exact ⟨u, v, t, rfl, h.1, h.2.1, h.2.2.1⟩
theorem rat_val {n : Bool} {s d : ByteArray} {cv : Value} (h : RV φ (.agg [.bool n, .str s, .str d]) cv) : cv = .agg #[.bool n, .string s, .string d] := by
 obtain ⟨r, e, hr⟩ := h
 obtain ⟨l⟩ := r
 match l, hr with
 | [a, b, c], ⟨h1, h2, h3, _⟩ =>
  simp only [RB] at h1 h2 h3
  rw [e, h1, h2, h3]
theorem ite_fn {c : Prop} [Decidable c] {x y : List V → Option V} {a : List V} {v : V} (h : (if c then x else y) a = some v) : (c ∧ x a = some v) ∨ (¬ c ∧ y a = some v) := by
 by_cases hc : c
 ·rw [if_pos hc] at h; exact .inl ⟨hc, h⟩
 ·rw [if_neg hc] at h; exact .inr ⟨hc, h⟩
inductive FT where
 | leaf
 | node (k : Nat) (F : AF) (l r : FT)
def FT.find : FT → Nat → Option AF
 | .leaf, _ => none
 | .node k F l r, f => bif Nat.beq f k then some F else bif Nat.blt f k then l.find f else r.find f
def FT.all (p : Nat → AF → Bool) : FT → Bool
 | .leaf => true
 | .node k F l r => p k F && (l.all p && r.all p)
theorem FT.find_all {p : Nat → AF → Bool} {f : Nat} {F : AF} : ∀ {t : FT}, t.all p = true → t.find f = some F → p f F = true
 | .leaf, _, h => by cases h
 | .node k G l r, ha, h => by
  simp only [FT.all, Bool.and_eq_true] at ha
  unfold FT.find at h
  rw [bif_beq] at h
  split at h
  ·next e => cases h; rw [e]; exact ha.1
  ·cases hb : Nat.blt f k with
   | true => rw [hb] at h; exact FT.find_all ha.2.1 h
   | false => rw [hb] at h; exact FT.find_all ha.2.2 h
abbrev ki (n : Nat) : O := .k (.c (.int .i64 (.ofNat n)))
abbrev kf (n : Nat) : O := .k (.fn n [])
abbrev kb (b : Bool) : O := .k (.c (.bool b))
abbrev d (n : Nat) : Option Nat := some n
abbrev s0 : B := .str ⟨#[]⟩
abbrev i0 : B := .int .i64 (.ofNat 0)
noncomputable section
open Classical in
def kR2 (R : Rat → Rat → V) : List V → Option V
 | [.agg [.bool n, .str s, .str d], .agg [.bool m, .str t, .str e]] => if s.size + d.size ≤ 130000000 ∧ t.size + e.size ≤ 130000000 then some (R (rq n s d) (rq m t e)) else none
 | _ => none
open Classical in
def kR1 (R : Rat → V) : List V → Option V
 | [.agg [.bool n, .str s, .str d]] => if s.size + d.size ≤ 130000000 then some (R (rq n s d)) else none
 | _ => none
open Classical in
def k2 (R : Rat → Rat → V) (args : List V) : Option V := if h : ∃ x : Rat × Rat, args = [rV x.1, rV x.2] ∧ Sz x.1 ∧ Sz x.2 then some (R (Classical.choose h).1 (Classical.choose h).2) else none
open Classical in
def k1 (R : Rat → V) (args : List V) : Option V := if h : ∃ p : Rat, args = [rV p] ∧ Sz p then some (R (Classical.choose h)) else none
open Classical in
def kN2 (R : Nat → Nat → V) (args : List V) : Option V := if h : ∃ x : Nat × Nat, args = [.c (.str (bn x.1)), .c (.str (bn x.2))] ∧ SzN x.1 ∧ SzN x.2 then some (R (Classical.choose h).1 (Classical.choose h).2) else none
open Classical in
def kND (R : Nat → Nat → V) (args : List V) : Option V := if h : ∃ x : Nat × Nat, args = [.c (.str (bn x.1)), .c (.str (bn x.2))] ∧ SzN x.1 ∧ SzN x.2 ∧ 0 < x.2 then some (R (Classical.choose h).1 (Classical.choose h).2) else none
open Classical in
def kMk (R : Bool → Nat → Nat → V) (args : List V) : Option V := if h : ∃ x : Bool × Nat × Nat, args = [.c (.bool x.1), .c (.str (bn x.2.1)), .c (.str (bn x.2.2))] ∧ SzN x.2.1 ∧ SzN x.2.2 ∧ 0 < x.2.2 then some (R (Classical.choose h).1 (Classical.choose h).2.1 (Classical.choose h).2.2) else none
def kI (R : Int → V) : List V → Option V
 | [.c (.int .i64 i)] => if -9223372036854775808 ≤ i ∧ i ≤ 9223372036854775807 then some (R i) else none
 | _ => none
def kU (R : Nat → V) : List V → Option V
 | [.c (.int .u16 i)] => if 0 ≤ i ∧ i ≤ 65535 then some (R i.toNat) else none
 | _ => none
def kF (R : Nat → V) : List V → Option V
 | [.c (.int .u64 i)] => if 0 ≤ i ∧ i < 18446744073709551616 then some (R i.toNat) else none
 | _ => none
def k0 (v : V) : List V → Option V
 | [] => some v
 | _ => none
end
theorem bn_inj {a b : Nat} (h : bn a = bn b) : a = b := by rw [← nv_bn a, ← nv_bn b, h]
theorem kR2_eq (R : Rat → Rat → V) {p q : Rat} (hp : Sz p) (hq : Sz q) : kR2 R [rV p, rV q] = some (R p q) := by
 unfold kR2 rV
 have := hp.sizes; have := hq.sizes
 simp only
 rw [if_pos (by omega), rq_of, rq_of]
theorem kR1_eq (R : Rat → V) {p : Rat} (hp : Sz p) : kR1 R [rV p] = some (R p) := by
 unfold kR1 rV
 have := hp.sizes
 simp only
 rw [if_pos (by omega), rq_of]
theorem k2_eq (R : Rat → Rat → V) {p q : Rat} (hp : Sz p) (hq : Sz q) : k2 R [rV p, rV q] = some (R p q) := by
 have h : ∃ x : Rat × Rat, [rV p, rV q] = [rV x.1, rV x.2] ∧ Sz x.1 ∧ Sz x.2 := ⟨(p, q), rfl, hp, hq⟩
 have h2 := (Classical.choose_spec h).1
 unfold k2
 rw [dif_pos h]
 generalize Classical.choose h = z at h2 ⊢
 simp only [List.cons.injEq, and_true] at h2
 rw [← rV_inj h2.1, ← rV_inj h2.2]
theorem k1_eq (R : Rat → V) {p : Rat} (hp : Sz p) : k1 R [rV p] = some (R p) := by
 have h : ∃ x : Rat, [rV p] = [rV x] ∧ Sz x := ⟨p, rfl, hp⟩
 have h2 := (Classical.choose_spec h).1
 unfold k1
 rw [dif_pos h]
 generalize Classical.choose h = z at h2 ⊢
 simp only [List.cons.injEq, and_true] at h2
 rw [← rV_inj h2]
theorem kN2_eq (R : Nat → Nat → V) {a b : Nat} (ha : SzN a) (hb : SzN b) : kN2 R [.c (.str (bn a)), .c (.str (bn b))] = some (R a b) := by
 have h : ∃ x : Nat × Nat, [V.c (.str (bn a)), .c (.str (bn b))] = [.c (.str (bn x.1)), .c (.str (bn x.2))] ∧ SzN x.1 ∧ SzN x.2 := ⟨(a, b), rfl, ha, hb⟩
 have h2 := (Classical.choose_spec h).1
 unfold kN2
 rw [dif_pos h]
 generalize Classical.choose h = z at h2 ⊢
 simp only [List.cons.injEq, and_true, V.c.injEq, B.str.injEq] at h2
 rw [← bn_inj h2.1, ← bn_inj h2.2]
theorem kND_eq (R : Nat → Nat → V) {a b : Nat} (ha : SzN a) (hb : SzN b) (h0 : 0 < b) : kND R [.c (.str (bn a)), .c (.str (bn b))] = some (R a b) := by
 have h : ∃ x : Nat × Nat, [V.c (.str (bn a)), .c (.str (bn b))] = [.c (.str (bn x.1)), .c (.str (bn x.2))] ∧ SzN x.1 ∧ SzN x.2 ∧ 0 < x.2 := ⟨(a, b), rfl, ha, hb, h0⟩
 have h2 := (Classical.choose_spec h).1
 unfold kND
 rw [dif_pos h]
 generalize Classical.choose h = z at h2 ⊢
 simp only [List.cons.injEq, and_true, V.c.injEq, B.str.injEq] at h2
 rw [← bn_inj h2.1, ← bn_inj h2.2]
theorem kMk_eq (R : Bool → Nat → Nat → V) {n : Bool} {a b : Nat} (ha : SzN a) (hb : SzN b) (h0 : 0 < b) : kMk R [.c (.bool n), .c (.str (bn a)), .c (.str (bn b))] = some (R n a b) := by
 have h : ∃ x : Bool × Nat × Nat, [V.c (.bool n), .c (.str (bn a)), .c (.str (bn b))] = [.c (.bool x.1), .c (.str (bn x.2.1)), .c (.str (bn x.2.2))] ∧ SzN x.2.1 ∧ SzN x.2.2 ∧ 0 < x.2.2 := ⟨(n, a, b), rfl, ha, hb, h0⟩
 have h2 := (Classical.choose_spec h).1
 unfold kMk
 rw [dif_pos h]
 generalize Classical.choose h = z at h2 ⊢
 simp only [List.cons.injEq, and_true, V.c.injEq, B.str.injEq, B.bool.injEq] at h2
 rw [← h2.1, ← bn_inj h2.2.1, ← bn_inj h2.2.2]
theorem kI_eq (R : Int → V) {i : Int} (h1 : -9223372036854775808 ≤ i) (h2 : i ≤ 9223372036854775807) : kI R [.c (.int .i64 i)] = some (R i) := by
 unfold kI; simp only; rw [if_pos ⟨h1, h2⟩]
theorem kU_eq (R : Nat → V) {x : Nat} (h1 : x ≤ 65535) : kU R [.c (.int .u16 (x : Int))] = some (R x) := by
 unfold kU; simp only; rw [if_pos (by omega), Int.toNat_natCast]
theorem kF_eq (R : Nat → V) {x : Nat} (h1 : x < 18446744073709551616) : kF R [.c (.int .u64 (x : Int))] = some (R x) := by
 unfold kF; simp only; rw [if_pos (by omega), Int.toNat_natCast]
theorem kR2_ok {R : Rat → Rat → V} (hc : ∀ n1 s1 d1 n2 s2 d2 w, s1.size + d1.size ≤ 130000000 → s2.size + d2.size ≤ 130000000 → Ct P f (R (rq n1 s1 d1) (rq n2 s2 d2)) #[.agg #[.bool n1, .string s1, .string d1], .agg #[.bool n2, .string s2, .string d2]] w)
  (h : kR2 R args = some v) (ha : RVs φ args cargs.toList) (w : World) : Ct P f v cargs w := by
 unfold kR2 at h
 split at h
 ·split at h
  ·next hs =>
   cases h
   obtain ⟨u, v, rfl, hu, hv⟩ := two_args ha
   rw [rat_val hu, rat_val hv]
   exact hc _ _ _ _ _ _ w hs.1 hs.2
  ·cases h
 ·cases h
theorem kR1_ok {R : Rat → V} (hc : ∀ n s d w, s.size + d.size ≤ 130000000 → Ct P f (R (rq n s d)) #[.agg #[.bool n, .string s, .string d]] w)
  (h : kR1 R args = some v) (ha : RVs φ args cargs.toList) (w : World) : Ct P f v cargs w := by
 unfold kR1 at h
 split at h
 ·split at h
  ·next hs =>
   cases h
   obtain ⟨u, rfl, hu⟩ := one_arg ha
   rw [rat_val hu]
   exact hc _ _ _ w hs
  ·cases h
 ·cases h
theorem k2_ok {R : Rat → Rat → V} (hc : ∀ p q w, Sz p → Sz q → Ct P f (R p q) #[.agg #[.bool (rn p), .string (rs p), .string (rd p)], .agg #[.bool (rn q), .string (rs q), .string (rd q)]] w)
  (h : k2 R args = some v) (ha : RVs φ args cargs.toList) (w : World) : Ct P f v cargs w := by
 unfold k2 at h
 split at h
 ·next hx =>
  obtain ⟨h1, h2, h3⟩ := Classical.choose_spec hx
  cases h
  rw [h1] at ha
  obtain ⟨u, v, rfl, hu, hv⟩ := two_args ha
  rw [rat_val hu, rat_val hv]
  exact hc _ _ w h2 h3
 ·cases h
theorem k1_ok {R : Rat → V} (hc : ∀ p w, Sz p → Ct P f (R p) #[.agg #[.bool (rn p), .string (rs p), .string (rd p)]] w)
  (h : k1 R args = some v) (ha : RVs φ args cargs.toList) (w : World) : Ct P f v cargs w := by
 unfold k1 at h
 split at h
 ·next hx =>
  obtain ⟨h1, h2⟩ := Classical.choose_spec hx
  cases h
  rw [h1] at ha
  obtain ⟨u, rfl, hu⟩ := one_arg ha
  rw [rat_val hu]
  exact hc _ w h2
 ·cases h
theorem kN2_ok {R : Nat → Nat → V} (hc : ∀ a b w, (bn a).size ≤ 60000000 → (bn b).size ≤ 60000000 → Ct P f (R a b) #[.string (bn a), .string (bn b)] w)
  (h : kN2 R args = some v) (ha : RVs φ args cargs.toList) (w : World) : Ct P f v cargs w := by
 unfold kN2 at h
 split at h
 ·next hx =>
  obtain ⟨h1, h2, h3⟩ := Classical.choose_spec hx
  cases h
  rw [h1] at ha
  obtain ⟨u, v, rfl, hu, hv⟩ := two_args ha
  have hu : u = _ := hu
  have hv : v = _ := hv
  rw [hu, hv]
  exact hc _ _ w h2 h3
 ·cases h
theorem kND_ok {R : Nat → Nat → V} (hc : ∀ a b w, (bn a).size ≤ 60000000 → (bn b).size ≤ 60000000 → 0 < b → Ct P f (R a b) #[.string (bn a), .string (bn b)] w)
  (h : kND R args = some v) (ha : RVs φ args cargs.toList) (w : World) : Ct P f v cargs w := by
 unfold kND at h
 split at h
 ·next hx =>
  obtain ⟨h1, h2, h3, h4⟩ := Classical.choose_spec hx
  cases h
  rw [h1] at ha
  obtain ⟨u, v, rfl, hu, hv⟩ := two_args ha
  have hu : u = _ := hu
  have hv : v = _ := hv
  rw [hu, hv]
  exact hc _ _ w h2 h3 h4
 ·cases h
theorem kMk_ok {R : Bool → Nat → Nat → V} (hc : ∀ n a b w, (bn a).size ≤ 60000000 → (bn b).size ≤ 60000000 → 0 < b → Ct P f (R n a b) #[.bool n, .string (bn a), .string (bn b)] w)
  (h : kMk R args = some v) (ha : RVs φ args cargs.toList) (w : World) : Ct P f v cargs w := by
 unfold kMk at h
 split at h
 ·next hx =>
  obtain ⟨h1, h2, h3, h4⟩ := Classical.choose_spec hx
  cases h
  rw [h1] at ha
  obtain ⟨t, u, v, rfl, ht, hu, hv⟩ := three_args ha
  have ht : t = _ := ht
  have hu : u = _ := hu
  have hv : v = _ := hv
  rw [ht, hu, hv]
  exact hc _ _ _ w h2 h3 h4
 ·cases h
theorem kI_ok {R : Int → V} (hc : ∀ i w, -9223372036854775808 ≤ i → i ≤ 9223372036854775807 → Ct P f (R i) #[.int .i64 i] w) (h : kI R args = some v) (ha : RVs φ args cargs.toList) (w : World) : Ct P f v cargs w := by
 unfold kI at h
 split at h
 ·split at h
  ·next hs =>
   cases h
   obtain ⟨u, rfl, hu⟩ := one_arg ha
   have hu : u = _ := hu
   rw [hu]
   exact hc _ w hs.1 hs.2
  ·cases h
 ·cases h
theorem kU_ok {R : Nat → V} (hc : ∀ (x : Nat) w, x ≤ 65535 → Ct P f (R x) #[.int .u16 (x : Int)] w) (h : kU R args = some v) (ha : RVs φ args cargs.toList) (w : World) : Ct P f v cargs w := by
 unfold kU at h
 split at h
 ·next i =>
  split at h
  ·next hs =>
   cases h
   obtain ⟨u, rfl, hu⟩ := one_arg ha
   have hu : u = .int .u16 i := hu
   have := hc i.toNat w (by omega)
   rw [Int.toNat_of_nonneg hs.1] at this
   rw [hu]; exact this
  ·cases h
 ·cases h
theorem kF_ok {R : Nat → V} (hc : ∀ (x : Nat) w, x < 18446744073709551616 → Ct P f (R x) #[.int .u64 (x : Int)] w) (h : kF R args = some v) (ha : RVs φ args cargs.toList) (w : World) : Ct P f v cargs w := by
 unfold kF at h
 split at h
 ·next i =>
  split at h
  ·next hs =>
   cases h
   obtain ⟨u, rfl, hu⟩ := one_arg ha
   have hu : u = .int .u64 i := hu
   have := hc i.toNat w (by omega)
   rw [Int.toNat_of_nonneg hs.1] at this
   rw [hu]; exact this
  ·cases h
 ·cases h
noncomputable section
def orcP (f : Nat) : List V → Option V :=
 if f = 93 then kR2 (fun p q => rV (p + q))
 else if f = 78 then kR2 (fun p q => rV (p - q))
 else if f = 250 then kR2 (fun p q => rV (p * q))
 else if f = 248 then kR2 (fun p q => rbV (divR p q) (okR q))
 else if f = 36 then kR2 (fun p q => iV (cmpR p q))
 else if f = 152 then kR2 (fun p q => rV (minR p q))
 else if f = 77 then kR2 (fun p q => rV (maxR p q))
 else if f = 127 then kR1 (fun p => iV (sg p))
 else if f = 132 then k1 (fun p => rV (-p))
 else if f = 198 then kI (fun i => rV (i : Rat))
 else if f = 94 then k2 (fun p q => rV (p + q))
 else if f = 73 then k2 (fun p q => rV (p - q))
 else if f = 38 then k2 (fun p q => .c (.bool (ltB p q)))
 else if f = 165 then k2 (fun p q => rV (lesR p q))
 else if f = 122 then k1 (fun p => rV (-p))
 else if f = 83 then k1 (fun p => rV (posR p))
 else if f = 81 then kR1 (fun p => iV (sg p))
 else if f = 40 then kR1 (fun p => rV p)
 else if f = 63 then kI (fun i => rV (i : Rat))
 else if f = 31 then kI (fun i => rV (i : Rat))
 else if f = 35 then kU (fun x => rV (amt x))
 else if f = 275 then kF (fun x => .c (.str (bn x)))
 else if f = 179 then kN2 (fun a b => .c (.str (bn (a + b))))
 else if f = 70 then kN2 (fun a b => .c (.str (bn (a * b))))
 else if f = 172 then kN2 (fun a b => .c (.str (bn (Nat.gcd a b))))
 else if f = 180 then kN2 (fun a b => if b ≤ a then .tcons (.c (.str (bn (a - b)))) (.tcons (.c (.bool true)) .tnil) else .tcons (.c (.str ⟨#[]⟩)) (.tcons (.c (.bool false)) .tnil))
 else if f = 215 then kND (fun a b => .tcons (.c (.str (bn (a / b)))) (.tcons (.c (.str (bn (a % b)))) (.tcons (.c (.bool true)) .tnil)))
 else if f = 286 then kMk (fun n a b => rbV (fr n a b) true)
 else fun _ => none
set_option maxRecDepth 100000 in
set_option maxHeartbeats 8000000 in
theorem orcP_ok (f : Nat) (args : List V) (v : V) (h : orcP f args = some v) : okF Tryz.prog f ∧ ∀ (φ : Ph) (cargs : Array Value) (w : World), RVs φ args cargs.toList → Ct Tryz.prog f v cargs w := by
 unfold orcP at h
 replace h := ite_fn h
 rcases h with ⟨e, h⟩ | ⟨-, h⟩
 ·subst e
  exact ⟨okF_of (by kernel_rfl), fun φ cargs w ha => kR2_ok (R := fun p q => rV (p + q)) (fun n1 s1 d1 n2 s2 d2 w h1 h2 => (add_rat n1 s1 d1 n2 s2 d2 w (by omega) (by omega)).mono fun _ _ he => ⟨_, he.1, he.2, fun φ => rV_RV _ φ⟩) h ha w⟩
 replace h := ite_fn h
 rcases h with ⟨e, h⟩ | ⟨-, h⟩
 ·subst e
  exact ⟨okF_of (by kernel_rfl), fun φ cargs w ha => kR2_ok (R := fun p q => rV (p - q)) (fun n1 s1 d1 n2 s2 d2 w h1 h2 => (subtract_rat n1 s1 d1 n2 s2 d2 w (by omega) (by omega)).mono fun _ _ he => ⟨_, he.1, he.2, fun φ => rV_RV _ φ⟩) h ha w⟩
 replace h := ite_fn h
 rcases h with ⟨e, h⟩ | ⟨-, h⟩
 ·subst e
  exact ⟨okF_of (by kernel_rfl), fun φ cargs w ha => kR2_ok (R := fun p q => rV (p * q)) (fun n1 s1 d1 n2 s2 d2 w h1 h2 => (multiply_rat n1 s1 d1 n2 s2 d2 w (by omega) (by omega)).mono fun _ _ he => ⟨_, he.1, he.2, fun φ => rV_RV _ φ⟩) h ha w⟩
 replace h := ite_fn h
 rcases h with ⟨e, h⟩ | ⟨-, h⟩
 ·subst e
  exact ⟨okF_of (by kernel_rfl), fun φ cargs w ha => kR2_ok (R := fun p q => rbV (divR p q) (okR q)) (fun n1 s1 d1 n2 s2 d2 w h1 h2 => (divide_rat n1 s1 d1 n2 s2 d2 w (by omega) (by omega)).mono fun _ _ he => ⟨_, he.1, he.2, fun φ => rbV_RV _ _ φ⟩) h ha w⟩
 replace h := ite_fn h
 rcases h with ⟨e, h⟩ | ⟨-, h⟩
 ·subst e
  exact ⟨okF_of (by kernel_rfl), fun φ cargs w ha => kR2_ok (R := fun p q => iV (cmpR p q)) (fun n1 s1 d1 n2 s2 d2 w h1 h2 => (compare_rat n1 s1 d1 n2 s2 d2 w (by omega) (by omega)).mono fun _ _ he => ⟨_, he.1, he.2, fun φ => rfl⟩) h ha w⟩
 replace h := ite_fn h
 rcases h with ⟨e, h⟩ | ⟨-, h⟩
 ·subst e
  exact ⟨okF_of (by kernel_rfl), fun φ cargs w ha => kR2_ok (R := fun p q => rV (minR p q)) (fun n1 s1 d1 n2 s2 d2 w h1 h2 => (min_rat n1 s1 d1 n2 s2 d2 w (by omega) (by omega)).mono fun _ _ he => ⟨_, he.1, he.2, fun φ => rV_RV _ φ⟩) h ha w⟩
 replace h := ite_fn h
 rcases h with ⟨e, h⟩ | ⟨-, h⟩
 ·subst e
  exact ⟨okF_of (by kernel_rfl), fun φ cargs w ha => kR2_ok (R := fun p q => rV (maxR p q)) (fun n1 s1 d1 n2 s2 d2 w h1 h2 => (max_rat n1 s1 d1 n2 s2 d2 w (by omega) (by omega)).mono fun _ _ he => ⟨_, he.1, he.2, fun φ => rV_RV _ φ⟩) h ha w⟩
 replace h := ite_fn h
 rcases h with ⟨e, h⟩ | ⟨-, h⟩
 ·subst e
  exact ⟨okF_of (by kernel_rfl), fun φ cargs w ha => kR1_ok (R := fun p => iV (sg p)) (fun n s d w h1 => (sign_rat n s d w (by omega) (by omega)).mono fun _ _ he => ⟨_, he.1, he.2, fun φ => rfl⟩) h ha w⟩
 replace h := ite_fn h
 rcases h with ⟨e, h⟩ | ⟨-, h⟩
 ·subst e
  exact ⟨okF_of (by kernel_rfl), fun φ cargs w ha => k1_ok (R := fun p => rV (-p)) (fun p w hp => (negate_any p w).mono fun _ _ he => ⟨_, he.1, he.2, fun φ => rV_RV _ φ⟩) h ha w⟩
 replace h := ite_fn h
 rcases h with ⟨e, h⟩ | ⟨-, h⟩
 ·subst e
  exact ⟨okF_of (by kernel_rfl), fun φ cargs w ha => kI_ok (R := fun i => rV (i : Rat)) (fun i w h1 h2 => (int_any i w h1 h2).mono fun _ _ he => ⟨_, he.1, he.2, fun φ => rV_RV _ φ⟩) h ha w⟩
 replace h := ite_fn h
 rcases h with ⟨e, h⟩ | ⟨-, h⟩
 ·subst e
  exact ⟨okF_of (by kernel_rfl), fun φ cargs w ha => k2_ok (R := fun p q => rV (p + q)) (fun p q w hp hq => (rplus_any p q szK w hp hq (by unfold szK; omega)).mono fun _ _ he => ⟨_, he.1, he.2, fun φ => rV_RV _ φ⟩) h ha w⟩
 replace h := ite_fn h
 rcases h with ⟨e, h⟩ | ⟨-, h⟩
 ·subst e
  exact ⟨okF_of (by kernel_rfl), fun φ cargs w ha => k2_ok (R := fun p q => rV (p - q)) (fun p q w hp hq => (rminus_any p q szK w hp hq (by unfold szK; omega)).mono fun _ _ he => ⟨_, he.1, he.2, fun φ => rV_RV _ φ⟩) h ha w⟩
 replace h := ite_fn h
 rcases h with ⟨e, h⟩ | ⟨-, h⟩
 ·subst e
  exact ⟨okF_of (by kernel_rfl), fun φ cargs w ha => k2_ok (R := fun p q => .c (.bool (ltB p q))) (fun p q w hp hq => (rless_any p q szK w hp hq (by unfold szK; omega)).mono fun _ _ he => ⟨_, he.1, he.2, fun φ => rfl⟩) h ha w⟩
 replace h := ite_fn h
 rcases h with ⟨e, h⟩ | ⟨-, h⟩
 ·subst e
  exact ⟨okF_of (by kernel_rfl), fun φ cargs w ha => k2_ok (R := fun p q => rV (lesR p q)) (fun p q w hp hq => (rlesser_any p q szK w hp hq (by unfold szK; omega)).mono fun _ _ he => ⟨_, he.1, he.2, fun φ => rV_RV _ φ⟩) h ha w⟩
 replace h := ite_fn h
 rcases h with ⟨e, h⟩ | ⟨-, h⟩
 ·subst e
  exact ⟨okF_of (by kernel_rfl), fun φ cargs w ha => k1_ok (R := fun p => rV (-p)) (fun p w hp => (opposite_any p w).mono fun _ _ he => ⟨_, he.1, he.2, fun φ => rV_RV _ φ⟩) h ha w⟩
 replace h := ite_fn h
 rcases h with ⟨e, h⟩ | ⟨-, h⟩
 ·subst e
  exact ⟨okF_of (by kernel_rfl), fun φ cargs w ha => k1_ok (R := fun p => rV (posR p)) (fun p w hp => (rpositive_any p w).mono fun _ _ he => ⟨_, he.1, he.2, fun φ => rV_RV _ φ⟩) h ha w⟩
 replace h := ite_fn h
 rcases h with ⟨e, h⟩ | ⟨-, h⟩
 ·subst e
  exact ⟨okF_of (by kernel_rfl), fun φ cargs w ha => kR1_ok (R := fun p => iV (sg p)) (fun n s d w h1 => (rsign_any n s d w (by omega) (by omega)).mono fun _ _ he => ⟨_, he.1, he.2, fun φ => rfl⟩) h ha w⟩
 replace h := ite_fn h
 rcases h with ⟨e, h⟩ | ⟨-, h⟩
 ·subst e
  exact ⟨okF_of (by kernel_rfl), fun φ cargs w ha => kR1_ok (R := fun p => rV p) (fun n s d w h1 => (fix_any n s d w (by omega) (by omega)).mono fun _ _ he => ⟨_, he.1, he.2, fun φ => rV_RV _ φ⟩) h ha w⟩
 replace h := ite_fn h
 rcases h with ⟨e, h⟩ | ⟨-, h⟩
 ·subst e
  exact ⟨okF_of (by kernel_rfl), fun φ cargs w ha => kI_ok (R := fun i => rV (i : Rat)) (fun i w h1 h2 => (rint_any i w h1 h2).mono fun _ _ he => ⟨_, he.1, he.2, fun φ => rV_RV _ φ⟩) h ha w⟩
 replace h := ite_fn h
 rcases h with ⟨e, h⟩ | ⟨-, h⟩
 ·subst e
  exact ⟨okF_of (by kernel_rfl), fun φ cargs w ha => kI_ok (R := fun i => rV (i : Rat)) (fun i w h1 h2 => (whole_any i w h1 h2).mono fun _ _ he => ⟨_, he.1, he.2, fun φ => rV_RV _ φ⟩) h ha w⟩
 replace h := ite_fn h
 rcases h with ⟨e, h⟩ | ⟨-, h⟩
 ·subst e
  exact ⟨okF_of (by kernel_rfl), fun φ cargs w ha => kU_ok (R := fun x => rV (amt x)) (fun x w h1 => (amount_any x w h1).mono fun _ _ he => ⟨_, he.1, he.2, fun φ => rV_RV _ φ⟩) h ha w⟩
 replace h := ite_fn h
 rcases h with ⟨e, h⟩ | ⟨-, h⟩
 ·subst e
  exact ⟨okF_of (by kernel_rfl), fun φ cargs w ha => kF_ok (R := fun x => .c (.str (bn x))) (fun x w h1 => (fromUint_any x w h1).mono fun _ _ he => ⟨_, he.1, he.2, fun φ => rfl⟩) h ha w⟩
 replace h := ite_fn h
 rcases h with ⟨e, h⟩ | ⟨-, h⟩
 ·subst e
  exact ⟨okF_of (by kernel_rfl), fun φ cargs w ha => kN2_ok (R := fun a b => .c (.str (bn (a + b)))) (fun a b w h1 h2 => by have := add_any (bn a) (bn b) w (by omega) (by omega); rw [nv_bn, nv_bn] at this; exact this.mono fun _ _ he => ⟨_, he.1, he.2, fun φ => rfl⟩) h ha w⟩
 replace h := ite_fn h
 rcases h with ⟨e, h⟩ | ⟨-, h⟩
 ·subst e
  exact ⟨okF_of (by kernel_rfl), fun φ cargs w ha => kN2_ok (R := fun a b => .c (.str (bn (a * b)))) (fun a b w h1 h2 => by have := multiply_any (bn a) (bn b) w (by omega) (by omega); rw [nv_bn, nv_bn] at this; exact this.mono fun _ _ he => ⟨_, he.1, he.2, fun φ => rfl⟩) h ha w⟩
 replace h := ite_fn h
 rcases h with ⟨e, h⟩ | ⟨-, h⟩
 ·subst e
  exact ⟨okF_of (by kernel_rfl), fun φ cargs w ha => kN2_ok (R := fun a b => .c (.str (bn (Nat.gcd a b)))) (fun a b w h1 h2 => by have := gcd_any (bn a) (bn b) w (by omega) (by omega); rw [nv_bn, nv_bn] at this; exact this.mono fun _ _ he => ⟨_, he.1, he.2, fun φ => rfl⟩) h ha w⟩
 replace h := ite_fn h
 rcases h with ⟨e, h⟩ | ⟨-, h⟩
 ·subst e
  refine ⟨okF_of (by kernel_rfl), fun φ cargs w ha => kN2_ok (R := fun a b => if b ≤ a then .tcons (.c (.str (bn (a - b)))) (.tcons (.c (.bool true)) .tnil) else .tcons (.c (.str ⟨#[]⟩)) (.tcons (.c (.bool false)) .tnil)) (fun a b w h1 h2 => ?_) h ha w⟩
  have := subtractS_any (bn a) (bn b) w (by omega) (by omega)
  rw [nv_bn, nv_bn] at this
  refine this.mono fun _ _ he => ⟨_, he.1, he.2, fun φ => ?_⟩
  by_cases hab : b ≤ a
  ·rw [if_pos hab, subV_yes hab]; exact ⟨_, [.bool true], rfl, rfl, .bool true, [], rfl, rfl, rfl⟩
  ·rw [if_neg hab, subV_no (by omega)]; exact ⟨_, [.bool false], rfl, rfl, .bool false, [], rfl, rfl, rfl⟩
 replace h := ite_fn h
 rcases h with ⟨e, h⟩ | ⟨-, h⟩
 ·subst e
  refine ⟨okF_of (by kernel_rfl), fun φ cargs w ha => kND_ok (R := fun a b => .tcons (.c (.str (bn (a / b)))) (.tcons (.c (.str (bn (a % b)))) (.tcons (.c (.bool true)) .tnil))) (fun a b w h1 h2 h0 => ?_) h ha w⟩
  have := divideS_any (bn a) (bn b) w (by omega) (by omega) (by rw [nv_bn]; exact h0)
  rw [nv_bn, nv_bn] at this
  exact this.mono fun _ _ he => ⟨_, he.1, he.2, fun φ => ⟨_, [.string (bn (a % b)), .bool true], rfl, rfl, _, [.bool true], rfl, rfl, .bool true, [], rfl, rfl, rfl⟩⟩
 replace h := ite_fn h
 rcases h with ⟨e, h⟩ | ⟨-, h⟩
 ·subst e
  refine ⟨okF_of (by kernel_rfl), fun φ cargs w ha => kMk_ok (R := fun n a b => rbV (fr n a b) true) (fun n a b w h1 h2 h0 => ?_) h ha w⟩
  have := make_yes n (bn a) (bn b) w (by omega) (by omega) (by rw [nv_bn]; exact h0)
  rw [nv_bn, nv_bn] at this
  exact this.mono fun _ _ he => ⟨_, he.1, he.2, fun φ => rbV_RV _ _ φ⟩
 cases h
def orcE (f : Nat) (args : List V) (σ : St) : Option (V × St) := match orcP f args with | some v => some (v, σ) | none => none
theorem orcE_ok (f : Nat) (args : List V) (σ : St) (v : V) (σ' : St) (h : orcE f args σ = some (v, σ')) : okF Tryz.prog f ∧ ∀ (N : Nat) (w0 : World) (φ : Ph) (w : World) (cargs : Array Value), Rel N w0 φ σ w → RVs φ args cargs.toList →
  Calls Tryz.prog f cargs w fun e w' => ∃ cv, e = .returned cv ∧ ∃ φ', Ext σ.nxt φ φ' ∧ Rel N w0 φ' σ' w' ∧ RV φ' v cv ∧ σ.nxt ≤ σ'.nxt := by
 unfold orcE at h
 split at h
 ·next u hu =>
  cases h
  obtain ⟨h1, h2⟩ := orcP_ok f args _ hu
  refine ⟨h1, fun N w0 φ w cargs hR ha => (h2 φ cargs w ha).mono fun e w' he => ?_⟩
  obtain ⟨cv, rfl, hb, hv⟩ := he
  exact ⟨cv, rfl, φ, Ext.refl _ _, hR.below hb, hv φ, Nat.le_refl _⟩
 ·cases h
class HasO (E : Env) : Prop where
 o : ∀ f args σ v, orcP f args = some v → E.orc f args σ = some (v, σ)
theorem callX_pure {E : Env} [hE : HasO E] {f : Nat} {args : List V} {v : V} {σ : St} {K : V → St → Prop} (h : orcP f args = some v) : CallX E f args σ K = K v σ := by
 refine propext ⟨fun ⟨n, v', σ', h1, h2⟩ => ?_, fun hk => call_orc (hE.o f args σ v h) hk⟩
 have h3 : callF E 1 f args σ = some (v, σ) := by rw [callF]; unfold xCall; rw [hE.o f args σ v h]
 have a := callF_mono (show n ≤ n + 1 by omega) f args σ _ h1
 have b := callF_mono (show 1 ≤ n + 1 by omega) f args σ _ h3
 rw [a] at b
 cases b
 exact h2
section
variable {E : Env} {σ : St} {K : V → St → Prop}
theorem x_Add [HasO E] (p q : Rat) (hp : Sz p) (hq : Sz q) : CallX E 93 [.agg [.bool (rn p), .str (rs p), .str (rd p)], .agg [.bool (rn q), .str (rs q), .str (rd q)]] σ K = K (.agg [.bool (rn (p + q)), .str (rs (p + q)), .str (rd (p + q))]) σ := callX_pure (by unfold orcP; simp only [Nat.reduceEqDiff, reduceIte]; exact kR2_eq _ hp hq)
theorem xr_Add [HasO E] (n m : Bool) (s d t e : ByteArray) (h1 : s.size + d.size ≤ 130000000) (h2 : t.size + e.size ≤ 130000000) : CallX E 93 [.agg [.bool n, .str s, .str d], .agg [.bool m, .str t, .str e]] σ K = K (.agg [.bool (rn ((rq n s d) + (rq m t e))), .str (rs ((rq n s d) + (rq m t e))), .str (rd ((rq n s d) + (rq m t e)))]) σ := callX_pure (by unfold orcP; simp only [Nat.reduceEqDiff, reduceIte]; exact if_pos (by omega))
theorem x_Subtract [HasO E] (p q : Rat) (hp : Sz p) (hq : Sz q) : CallX E 78 [.agg [.bool (rn p), .str (rs p), .str (rd p)], .agg [.bool (rn q), .str (rs q), .str (rd q)]] σ K = K (.agg [.bool (rn (p - q)), .str (rs (p - q)), .str (rd (p - q))]) σ := callX_pure (by unfold orcP; simp only [Nat.reduceEqDiff, reduceIte]; exact kR2_eq _ hp hq)
theorem xr_Subtract [HasO E] (n m : Bool) (s d t e : ByteArray) (h1 : s.size + d.size ≤ 130000000) (h2 : t.size + e.size ≤ 130000000) : CallX E 78 [.agg [.bool n, .str s, .str d], .agg [.bool m, .str t, .str e]] σ K = K (.agg [.bool (rn ((rq n s d) - (rq m t e))), .str (rs ((rq n s d) - (rq m t e))), .str (rd ((rq n s d) - (rq m t e)))]) σ := callX_pure (by unfold orcP; simp only [Nat.reduceEqDiff, reduceIte]; exact if_pos (by omega))
theorem x_Multiply [HasO E] (p q : Rat) (hp : Sz p) (hq : Sz q) : CallX E 250 [.agg [.bool (rn p), .str (rs p), .str (rd p)], .agg [.bool (rn q), .str (rs q), .str (rd q)]] σ K = K (.agg [.bool (rn (p * q)), .str (rs (p * q)), .str (rd (p * q))]) σ := callX_pure (by unfold orcP; simp only [Nat.reduceEqDiff, reduceIte]; exact kR2_eq _ hp hq)
theorem xr_Multiply [HasO E] (n m : Bool) (s d t e : ByteArray) (h1 : s.size + d.size ≤ 130000000) (h2 : t.size + e.size ≤ 130000000) : CallX E 250 [.agg [.bool n, .str s, .str d], .agg [.bool m, .str t, .str e]] σ K = K (.agg [.bool (rn ((rq n s d) * (rq m t e))), .str (rs ((rq n s d) * (rq m t e))), .str (rd ((rq n s d) * (rq m t e)))]) σ := callX_pure (by unfold orcP; simp only [Nat.reduceEqDiff, reduceIte]; exact if_pos (by omega))
theorem x_Divide [HasO E] (p q : Rat) (hp : Sz p) (hq : Sz q) : CallX E 248 [.agg [.bool (rn p), .str (rs p), .str (rd p)], .agg [.bool (rn q), .str (rs q), .str (rd q)]] σ K = K (.tcons (.agg [.bool (rn (divR p q)), .str (rs (divR p q)), .str (rd (divR p q))]) (.tcons (.c (.bool (okR q))) .tnil)) σ := callX_pure (by unfold orcP; simp only [Nat.reduceEqDiff, reduceIte]; exact kR2_eq _ hp hq)
theorem x_Compare [HasO E] (p q : Rat) (hp : Sz p) (hq : Sz q) : CallX E 36 [.agg [.bool (rn p), .str (rs p), .str (rd p)], .agg [.bool (rn q), .str (rs q), .str (rd q)]] σ K = K (.c (.int .i64 (cmpR p q))) σ := callX_pure (by unfold orcP; simp only [Nat.reduceEqDiff, reduceIte]; exact kR2_eq _ hp hq)
theorem xr_Compare [HasO E] (n m : Bool) (s d t e : ByteArray) (h1 : s.size + d.size ≤ 130000000) (h2 : t.size + e.size ≤ 130000000) : CallX E 36 [.agg [.bool n, .str s, .str d], .agg [.bool m, .str t, .str e]] σ K = K (.c (.int .i64 (cmpR (rq n s d) (rq m t e)))) σ := callX_pure (by unfold orcP; simp only [Nat.reduceEqDiff, reduceIte]; exact if_pos (by omega))
theorem x_Min [HasO E] (p q : Rat) (hp : Sz p) (hq : Sz q) : CallX E 152 [.agg [.bool (rn p), .str (rs p), .str (rd p)], .agg [.bool (rn q), .str (rs q), .str (rd q)]] σ K = K (.agg [.bool (rn (minR p q)), .str (rs (minR p q)), .str (rd (minR p q))]) σ := callX_pure (by unfold orcP; simp only [Nat.reduceEqDiff, reduceIte]; exact kR2_eq _ hp hq)
theorem xr_Min [HasO E] (n m : Bool) (s d t e : ByteArray) (h1 : s.size + d.size ≤ 130000000) (h2 : t.size + e.size ≤ 130000000) : CallX E 152 [.agg [.bool n, .str s, .str d], .agg [.bool m, .str t, .str e]] σ K = K (.agg [.bool (rn (minR (rq n s d) (rq m t e))), .str (rs (minR (rq n s d) (rq m t e))), .str (rd (minR (rq n s d) (rq m t e)))]) σ := callX_pure (by unfold orcP; simp only [Nat.reduceEqDiff, reduceIte]; exact if_pos (by omega))
theorem x_Max [HasO E] (p q : Rat) (hp : Sz p) (hq : Sz q) : CallX E 77 [.agg [.bool (rn p), .str (rs p), .str (rd p)], .agg [.bool (rn q), .str (rs q), .str (rd q)]] σ K = K (.agg [.bool (rn (maxR p q)), .str (rs (maxR p q)), .str (rd (maxR p q))]) σ := callX_pure (by unfold orcP; simp only [Nat.reduceEqDiff, reduceIte]; exact kR2_eq _ hp hq)
theorem xr_Max [HasO E] (n m : Bool) (s d t e : ByteArray) (h1 : s.size + d.size ≤ 130000000) (h2 : t.size + e.size ≤ 130000000) : CallX E 77 [.agg [.bool n, .str s, .str d], .agg [.bool m, .str t, .str e]] σ K = K (.agg [.bool (rn (maxR (rq n s d) (rq m t e))), .str (rs (maxR (rq n s d) (rq m t e))), .str (rd (maxR (rq n s d) (rq m t e)))]) σ := callX_pure (by unfold orcP; simp only [Nat.reduceEqDiff, reduceIte]; exact if_pos (by omega))
theorem x_Sign [HasO E] (p : Rat) (hp : Sz p) : CallX E 127 [.agg [.bool (rn p), .str (rs p), .str (rd p)]] σ K = K (.c (.int .i64 (sg p))) σ := callX_pure (by unfold orcP; simp only [Nat.reduceEqDiff, reduceIte]; exact kR1_eq _ hp)
theorem xr_Sign [HasO E] (n : Bool) (s d : ByteArray) (h1 : s.size + d.size ≤ 130000000) : CallX E 127 [.agg [.bool n, .str s, .str d]] σ K = K (.c (.int .i64 (sg (rq n s d)))) σ := callX_pure (by unfold orcP; simp only [Nat.reduceEqDiff, reduceIte]; exact if_pos (by omega))
theorem x_negate [HasO E] (p : Rat) (hp : Sz p) : CallX E 132 [.agg [.bool (rn p), .str (rs p), .str (rd p)]] σ K = K (.agg [.bool (rn (-p)), .str (rs (-p)), .str (rd (-p))]) σ := callX_pure (by unfold orcP; simp only [Nat.reduceEqDiff, reduceIte]; exact k1_eq _ hp)
theorem x_Int [HasO E] (i : Int) (h1 : -9223372036854775808 ≤ i) (h2 : i ≤ 9223372036854775807) : CallX E 198 [.c (.int .i64 i)] σ K = K (.agg [.bool (rn (i : Rat)), .str (rs (i : Rat)), .str (rd (i : Rat))]) σ := callX_pure (by unfold orcP; simp only [Nat.reduceEqDiff, reduceIte]; exact kI_eq _ h1 h2)
theorem x_rPlus [HasO E] (p q : Rat) (hp : Sz p) (hq : Sz q) : CallX E 94 [.agg [.bool (rn p), .str (rs p), .str (rd p)], .agg [.bool (rn q), .str (rs q), .str (rd q)]] σ K = K (.agg [.bool (rn (p + q)), .str (rs (p + q)), .str (rd (p + q))]) σ := callX_pure (by unfold orcP; simp only [Nat.reduceEqDiff, reduceIte]; exact k2_eq _ hp hq)
theorem x_rMinus [HasO E] (p q : Rat) (hp : Sz p) (hq : Sz q) : CallX E 73 [.agg [.bool (rn p), .str (rs p), .str (rd p)], .agg [.bool (rn q), .str (rs q), .str (rd q)]] σ K = K (.agg [.bool (rn (p - q)), .str (rs (p - q)), .str (rd (p - q))]) σ := callX_pure (by unfold orcP; simp only [Nat.reduceEqDiff, reduceIte]; exact k2_eq _ hp hq)
theorem x_rLess [HasO E] (p q : Rat) (hp : Sz p) (hq : Sz q) : CallX E 38 [.agg [.bool (rn p), .str (rs p), .str (rd p)], .agg [.bool (rn q), .str (rs q), .str (rd q)]] σ K = K (.c (.bool (ltB p q))) σ := callX_pure (by unfold orcP; simp only [Nat.reduceEqDiff, reduceIte]; exact k2_eq _ hp hq)
theorem x_rLesser [HasO E] (p q : Rat) (hp : Sz p) (hq : Sz q) : CallX E 165 [.agg [.bool (rn p), .str (rs p), .str (rd p)], .agg [.bool (rn q), .str (rs q), .str (rd q)]] σ K = K (.agg [.bool (rn (lesR p q)), .str (rs (lesR p q)), .str (rd (lesR p q))]) σ := callX_pure (by unfold orcP; simp only [Nat.reduceEqDiff, reduceIte]; exact k2_eq _ hp hq)
theorem x_rOpposite [HasO E] (p : Rat) (hp : Sz p) : CallX E 122 [.agg [.bool (rn p), .str (rs p), .str (rd p)]] σ K = K (.agg [.bool (rn (-p)), .str (rs (-p)), .str (rd (-p))]) σ := callX_pure (by unfold orcP; simp only [Nat.reduceEqDiff, reduceIte]; exact k1_eq _ hp)
theorem x_rPositive [HasO E] (p : Rat) (hp : Sz p) : CallX E 83 [.agg [.bool (rn p), .str (rs p), .str (rd p)]] σ K = K (.agg [.bool (rn (posR p)), .str (rs (posR p)), .str (rd (posR p))]) σ := callX_pure (by unfold orcP; simp only [Nat.reduceEqDiff, reduceIte]; exact k1_eq _ hp)
theorem x_rSign [HasO E] (p : Rat) (hp : Sz p) : CallX E 81 [.agg [.bool (rn p), .str (rs p), .str (rd p)]] σ K = K (.c (.int .i64 (sg p))) σ := callX_pure (by unfold orcP; simp only [Nat.reduceEqDiff, reduceIte]; exact kR1_eq _ hp)
theorem xr_rSign [HasO E] (n : Bool) (s d : ByteArray) (h1 : s.size + d.size ≤ 130000000) : CallX E 81 [.agg [.bool n, .str s, .str d]] σ K = K (.c (.int .i64 (sg (rq n s d)))) σ := callX_pure (by unfold orcP; simp only [Nat.reduceEqDiff, reduceIte]; exact if_pos (by omega))
theorem x_rFix [HasO E] (p : Rat) (hp : Sz p) : CallX E 40 [.agg [.bool (rn p), .str (rs p), .str (rd p)]] σ K = K (.agg [.bool (rn p), .str (rs p), .str (rd p)]) σ := callX_pure (by unfold orcP; simp only [Nat.reduceEqDiff, reduceIte]; exact kR1_eq _ hp)
theorem xr_rFix [HasO E] (n : Bool) (s d : ByteArray) (h1 : s.size + d.size ≤ 130000000) : CallX E 40 [.agg [.bool n, .str s, .str d]] σ K = K (.agg [.bool (rn (rq n s d)), .str (rs (rq n s d)), .str (rd (rq n s d))]) σ := callX_pure (by unfold orcP; simp only [Nat.reduceEqDiff, reduceIte]; exact if_pos (by omega))
theorem x_rInt [HasO E] (i : Int) (h1 : -9223372036854775808 ≤ i) (h2 : i ≤ 9223372036854775807) : CallX E 63 [.c (.int .i64 i)] σ K = K (.agg [.bool (rn (i : Rat)), .str (rs (i : Rat)), .str (rd (i : Rat))]) σ := callX_pure (by unfold orcP; simp only [Nat.reduceEqDiff, reduceIte]; exact kI_eq _ h1 h2)
theorem x_lWhole [HasO E] (i : Int) (h1 : -9223372036854775808 ≤ i) (h2 : i ≤ 9223372036854775807) : CallX E 31 [.c (.int .i64 i)] σ K = K (.agg [.bool (rn (i : Rat)), .str (rs (i : Rat)), .str (rd (i : Rat))]) σ := callX_pure (by unfold orcP; simp only [Nat.reduceEqDiff, reduceIte]; exact kI_eq _ h1 h2)
theorem x_lAmount [HasO E] (x : Nat) (h1 : x ≤ 65535) : CallX E 35 [.c (.int .u16 (.ofNat x))] σ K = K (.agg [.bool (rn (amt x)), .str (rs (amt x)), .str (rd (amt x))]) σ := callX_pure (by unfold orcP; simp only [Nat.reduceEqDiff, reduceIte]; exact kU_eq _ h1)
theorem x_nFromUint [HasO E] (x : Nat) (h1 : x < 18446744073709551616) : CallX E 275 [.c (.int .u64 (.ofNat x))] σ K = K (.c (.str (bn x))) σ := callX_pure (by unfold orcP; simp only [Nat.reduceEqDiff, reduceIte]; exact kF_eq _ h1)
theorem x_nAdd [HasO E] (a b : Nat) (h1 : SzN a) (h2 : SzN b) : CallX E 179 [.c (.str (bn a)), .c (.str (bn b))] σ K = K (.c (.str (bn (a + b)))) σ := callX_pure (by unfold orcP; simp only [Nat.reduceEqDiff, reduceIte]; exact kN2_eq _ h1 h2)
theorem x_nMultiply [HasO E] (a b : Nat) (h1 : SzN a) (h2 : SzN b) : CallX E 70 [.c (.str (bn a)), .c (.str (bn b))] σ K = K (.c (.str (bn (a * b)))) σ := callX_pure (by unfold orcP; simp only [Nat.reduceEqDiff, reduceIte]; exact kN2_eq _ h1 h2)
theorem x_nGCD [HasO E] (a b : Nat) (h1 : SzN a) (h2 : SzN b) : CallX E 172 [.c (.str (bn a)), .c (.str (bn b))] σ K = K (.c (.str (bn (Nat.gcd a b)))) σ := callX_pure (by unfold orcP; simp only [Nat.reduceEqDiff, reduceIte]; exact kN2_eq _ h1 h2)
theorem x_nSubtract [HasO E] (a b : Nat) (h1 : SzN a) (h2 : SzN b) : CallX E 180 [.c (.str (bn a)), .c (.str (bn b))] σ K = K (if b ≤ a then .tcons (.c (.str (bn (a - b)))) (.tcons (.c (.bool true)) .tnil) else .tcons (.c (.str ⟨#[]⟩)) (.tcons (.c (.bool false)) .tnil)) σ := callX_pure (by unfold orcP; simp only [Nat.reduceEqDiff, reduceIte]; exact kN2_eq _ h1 h2)
theorem x_nDivide [HasO E] (a b : Nat) (h1 : SzN a) (h2 : SzN b) (h0 : 0 < b) : CallX E 215 [.c (.str (bn a)), .c (.str (bn b))] σ K = K (.tcons (.c (.str (bn (a / b)))) (.tcons (.c (.str (bn (a % b)))) (.tcons (.c (.bool true)) .tnil))) σ := callX_pure (by unfold orcP; simp only [Nat.reduceEqDiff, reduceIte]; exact kND_eq _ h1 h2 h0)
theorem x_Make [HasO E] (n : Bool) (a b : Nat) (h1 : SzN a) (h2 : SzN b) (h0 : 0 < b) : CallX E 286 [.c (.bool n), .c (.str (bn a)), .c (.str (bn b))] σ K = K (.tcons (.agg [.bool (rn (fr n a b)), .str (rs (fr n a b)), .str (rd (fr n a b))]) (.tcons (.c (.bool true)) .tnil)) σ := callX_pure (by unfold orcP; simp only [Nat.reduceEqDiff, reduceIte]; exact kMk_eq _ h1 h2 h0)
end
end
end Go.Proofs.Xe
