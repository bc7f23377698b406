/- The executor: a region that draws its order. -/
import Derived.Test.YthplmloambdmlaaGreatDoorZ21

set_option linter.unusedSimpArgs false
set_option linter.unusedVariables false
namespace Go.Proofs.Ex
open Go.RowKit Go.Proofs.Ins

def Dr.dos : Dr → List DO
  | .fin qs => qs
  | .act qs x r => qs ++ x :: r.dos
def quietK : Kd → Bool
  | .q | .n => true
  | _ => false
/-- The stages: what comes behind an act waits for it. -/
def stagesOk (pt : List (List Nat)) : Dr → Bool
  | .fin qs => qs.all fun y => quietK y.o.op.kind
  | .act qs x r => (qs.all fun y => quietK y.o.op.kind) && (!quietK x.o.op.kind && (r.dos.all (fun y => (pt.getD y.i []).contains x.i) && stagesOk pt r))
def ptOk (ops : Array Oper) (pt : List (List Nat)) (i : Nat) : Bool :=
  match ops[i]? with
  | some o => (pt.getD i []).all (fun p => o.after.toList.any fun e => Region.binds .any e && (Nat.beq e.on p || (pt.getD e.on []).contains p)) && o.after.toList.all (fun e => !Region.binds .any e || Nat.blt e.on i)
  | none => false
def doOk (P : Program) (K : Nat) (ops : Array Oper) (pt : List (List Nat)) (ds : List Nat) (x : DO) : Bool :=
  match ops[x.i]? with
  | some o => impO P K ops o x.o && (x.us.all (fun u => (pt.getD x.i []).contains u) && (match x.o.dst with | some d => ds.contains d | none => true))
  | none => false
def apartD : List DO → Bool
  | [] => true
  | x :: l => l.all (fun y => !Nat.beq x.i y.i && (match x.o.dst, y.o.dst with | some d, some e => !Nat.beq d e | _, _ => true)) && apartD l
def impDr (P : Program) (K : Nat) (ops : Array Oper) (d : Dr) (pt : List (List Nat)) (ds : List Nat) : Bool :=
  d.dos.all (doOk P K ops pt ds) && (d.dos.all (fun x => x.os.all fun t => d.dos.all fun y => !(y.o.dst == some t) || (pt.getD y.i []).contains x.i)) && (apartD d.dos && (stagesOk pt d && ((List.range ops.size).all (fun i => ptOk ops pt i && d.dos.any (fun x => Nat.beq x.i i)))))

section
variable {P : Program} {N : Nat} {w0 w w' : World} {φ φ' : Ph} {σ σ' : St} {tm tm' : Tr V} {a : Act} {v : V}

theorem looks_pure {op : AOp} (hk : op.kind = .q) (hl : op.looks = false) (tm : Tr V) (σ σ' : St) : stepQ op tm σ = stepQ op tm σ' := by
  cases op <;> first | rfl | cases hl | cases hk
/-- Two operations of a list that is apart: the same number, or other numbers and other temporaries. -/
theorem apartD_spec : ∀ {l : List DO}, apartD l = true → ∀ x ∈ l, ∀ y ∈ l, x.i = y.i → x = y
  | [], _, x, hx, _, _, _ => by cases hx
  | z :: l, h, x, hx, y, hy, e => by
    unfold apartD at h
    rw [Bool.and_eq_true, List.all_eq_true] at h
    rcases List.mem_cons.mp hx with rfl | hx' <;> rcases List.mem_cons.mp hy with rfl | hy'
    · rfl
    · have := h.1 y hy'
      rw [Bool.and_eq_true] at this
      rw [e] at this
      simp at this
    · have := h.1 x hx'
      rw [Bool.and_eq_true] at this
      rw [e] at this
      simp at this
    · exact apartD_spec h.2 x hx' y hy' e
theorem apartD_dst : ∀ {l : List DO}, apartD l = true → ∀ x ∈ l, ∀ y ∈ l, ∀ d, x.o.dst = some d → y.o.dst = some d → x = y
  | [], _, x, hx, _, _, _, _, _ => by cases hx
  | z :: l, h, x, hx, y, hy, d, e, e' => by
    unfold apartD at h
    rw [Bool.and_eq_true, List.all_eq_true] at h
    rcases List.mem_cons.mp hx with rfl | hx' <;> rcases List.mem_cons.mp hy with rfl | hy'
    · rfl
    · have := h.1 y hy'
      rw [Bool.and_eq_true] at this
      rw [e, e'] at this
      simp at this
    · have := h.1 x hx'
      rw [Bool.and_eq_true] at this
      rw [e, e'] at this
      simp at this
    · exact apartD_dst h.2 x hx' y hy' d e e'

/-- A temporary that no operation of the region sets keeps its value; those set and done hold theirs; those not set yet hold their old ones. -/
structure Lg (φ : Ph) (L : Nat → Prop) (tmE tm0 : Tr V) (all : List DO) (res : List Rs) (a : Act) : Prop where
  base : RT φ tm0 a
  got : ∀ r ∈ res, L r.i → ∀ d, r.d = some d → d < a.tmps.size ∧ RV φ r.v (a.tmps.getD d undef)
  old : ∀ t, (∀ y ∈ all, y.o.dst = some t → ¬ L y.i) → RV φ (tmE.getV t) (a.tmps.getD t undef)
theorem setT_RT (h : RT φ tm a) {d : Option Nat} (hs : setT tm d v = some tm') (hv : ∀ i, d = some i → RV φ v (a.tmps.getD i undef)) : RT φ tm' a := by
  cases d with
  | none =>
    simp only [setT, Option.some.injEq] at hs
    subst hs
    exact h
  | some d =>
    simp only [setT] at hs
    intro t u ht
    rw [Tr.get_put _ _ _ _ _ t hs] at ht
    split at ht
    · next e =>
      cases ht
      rw [e]
      exact hv d rfl
    · exact h t u ht
theorem tmOf_spec {L : Nat → Prop} {tmE tm0 : Tr V} {all : List DO} {res : List Rs} (h : Lg φ L tmE tm0 all res a) : ∀ (us : List Nat) (tm : Tr V), (∀ u ∈ us, L u) → tmOf tm0 res us = some tm → RT φ tm a
  | [], tm, _, e => by
    simp only [tmOf, Option.some.injEq] at e
    subst e
    exact h.base
  | u :: us, tm, hu, e => by
    unfold tmOf at e
    split at e
    · next tm1 r h1 h2 =>
      have hr := List.find?_some h2
      have hr : r.i = u := Nat.eq_of_beq_eq_true hr
      refine setT_RT (tmOf_spec h us tm1 (fun x hx => hu x (by simp [hx])) h1) e fun i hi => ?_
      exact (h.got r (List.mem_of_find?_eq_some h2) (by rw [hr]; exact hu u (by simp)) i hi).2
    · cases e
theorem tmI_spec {L : Nat → Prop} {tmE tm0 : Tr V} {all : List DO} {res : List Rs} (h : Lg φ L tmE tm0 all res a) {us os : List Nat} {tm : Tr V} (hu : ∀ u ∈ us, L u) (ho : ∀ t ∈ os, ∀ y ∈ all, y.o.dst = some t → ¬ L y.i) (e : tmI tmE tm0 res us os = some tm) : RT φ tm a := by
  unfold tmI at e
  split at e
  · next tm1 h1 =>
    have h2 := tmOf_spec h us tm1 hu h1
    clear h1
    induction os generalizing tm with
    | nil =>
      simp only [oldOf, Option.some.injEq] at e
      subst e
      exact h2
    | cons t os ih =>
      unfold oldOf at e
      split at e
      · next tm2 h3 =>
        exact setT_RT (ih (fun t ht => ho t (by simp [ht])) h3) e fun i hi => by
          cases hi
          exact h.old t (ho t (by simp))
      · cases e
  · cases e
theorem finT_spec {L : Nat → Prop} {tmE tm0 : Tr V} {all : List DO} : ∀ {res : List Rs} {tm : Tr V}, Lg φ L tmE tm0 all res a → (∀ r ∈ res, L r.i) → finT tm0 res = some tm → RT φ tm a
  | [], tm, h, _, e => by
    simp only [finT, Option.some.injEq] at e
    subst e
    exact h.base
  | r :: res, tm, h, hL, e => by
    unfold finT at e
    split at e
    · next tm1 h1 =>
      exact setT_RT (finT_spec ⟨h.base, fun x hx => h.got x (by simp [hx]), h.old⟩ (fun x hx => hL x (by simp [hx])) h1) e fun i hi => (h.got r (by simp) (hL r (by simp)) i hi).2
    · cases e
theorem eraseT_spec : ∀ {ds : List Nat} {tm tm0 : Tr V}, eraseT tm ds = some tm0 → (∀ d ∈ ds, tm0.get d = none) ∧ ∀ t, tm0.get t = none ∨ tm0.get t = tm.get t
  | [], tm, tm0, e => by
    simp only [eraseT, Option.some.injEq] at e
    subst e
    exact ⟨fun d hd => (by cases hd), fun t => .inr rfl⟩
  | d :: ds, tm, tm0, e => by
    unfold eraseT at e
    split at e
    · next t1 h1 =>
      obtain ⟨p1, p2⟩ := eraseT_spec h1
      have hget := fun j => Tr.get_put _ _ _ _ _ j e
      refine ⟨fun x hx => ?_, fun t => ?_⟩
      · rw [hget]
        rcases List.mem_cons.mp hx with rfl | hx
        · rw [if_pos rfl]
        · split
          · rfl
          · exact p1 x hx
      · rw [hget]
        split
        · exact .inl rfl
        · exact p2 t
    · cases e

/-- A block named, before it is made. -/
theorem Rel.name (h : Rel N w0 φ σ w) {k : Bk} {b : Nat} (hn : σ.new k = some (b, σ')) : Rel N w0 φ σ' w := by
  obtain ⟨rfl, hnx, hget⟩ := new_spec hn
  have hno := (h.nxt σ.nxt (Nat.le_refl _)).1
  refine ⟨h.n0, h.bel, fun i j pi pj hi hj e li lj => ?_, h.lo, fun i k' pi hi hpi => ?_, fun i hi => ?_⟩
  · have ei : i ≠ σ.nxt := fun e => by rw [e, hno] at hi; cases hi
    have ej : j ≠ σ.nxt := fun e => by rw [e, hno] at hj; cases hj
    rw [hget, if_neg ei] at li
    rw [hget, if_neg ej] at lj
    exact h.inj i j pi pj hi hj e li lj
  · have ei : i ≠ σ.nxt := fun e => by rw [e, hno] at hpi; cases hpi
    rw [hget, if_neg ei] at hi
    exact h.blk i k' pi hi hpi
  · rw [hnx] at hi
    rw [hget, if_neg (by omega)]
    exact h.nxt i (by omega)

/-- What is known of an operation that may still come. -/
structure PendOk (P : Program) (K : Nat) (ops : Array Oper) (pt : List (List Nat)) (all : List DO) (tmE tm0 : Tr V) (res : List Rs) (p : Pend) : Prop where
  op : ∃ o us os, ops[p.i]? = some o ∧ impO P K ops o p.o = true ∧ (∀ u ∈ us, (pt.getD p.i []).contains u = true) ∧ (∀ t ∈ os, ∀ y ∈ all, y.o.dst = some t → (pt.getD y.i []).contains p.i = true) ∧
    ∃ res', (∀ r ∈ res', r ∈ res) ∧ tmI tmE tm0 res' us os = some p.tm
  res : ⟨p.i, p.o.dst, p.v⟩ ∈ res
  gt : gate p.o.g p.tm = some p.gt
  no : p.gt = false → p.v = .tnil
  q : p.o.op.kind = .q → p.o.op.looks = false → p.gt = true → ∀ σ, stepQ p.o.op p.tm σ = some p.v
  k : quietK p.o.op.kind = true
  n : p.o.op.kind = .n → p.gt = true → ∃ l vf b, stepN p.o.op p.tm = some (l, vf) ∧ p.nm = some b ∧ p.v = vf b
/-- The names that were given out and are not made yet. -/
structure Names (φ : Ph) (L : Nat → Prop) (σ : St) (pd : List Pend) : Prop where
  lt : ∀ p ∈ pd, ∀ b, p.nm = some b → b < σ.nxt
  free : ∀ p ∈ pd, ∀ b, p.nm = some b → ¬ L p.i → φ b = none
  apart : ∀ p ∈ pd, ∀ p' ∈ pd, ∀ b, p.nm = some b → p'.nm = some b → p.i = p'.i

theorem runQ_spec {K : Nat} {ops : Array Oper} {pt : List (List Nat)} {ds : List Nat} {all : List DO} {tmE tm0 : Tr V} {L : Nat → Prop} {m : Nat} : ∀ (qs : List DO) (σ : St) (res : List Rs) (pd : List Pend) (σ' : St) (res' : List Rs) (pd' : List Pend), runQ tmE tm0 qs σ res pd = some (σ', res', pd') →
    (∀ x ∈ qs, doOk P K ops pt ds x = true) → (∀ x ∈ qs, ∀ t ∈ x.os, ∀ y ∈ all, y.o.dst = some t → (pt.getD y.i []).contains x.i = true) → (∀ x ∈ qs, ¬ L x.i) → Rel N w0 φ σ w → (∀ p ∈ pd, PendOk P K ops pt all tmE tm0 res p) → Names φ L σ pd → m ≤ σ.nxt → (∀ p ∈ pd, ∀ b, p.nm = some b → m ≤ b) →
    Rel N w0 φ σ' w ∧ (∀ p ∈ pd', PendOk P K ops pt all tmE tm0 res' p) ∧ Names φ L σ' pd' ∧ σ.nxt ≤ σ'.nxt ∧ (∀ r, r ∈ res' ↔ r ∈ res ∨ ∃ x ∈ qs, ∃ v, r = ⟨x.i, x.o.dst, v⟩ ∧ r ∈ res') ∧ (∀ i, (∃ p ∈ pd', p.i = i) ↔ (∃ p ∈ pd, p.i = i) ∨ ∃ x ∈ qs, x.i = i) ∧ (∀ p ∈ pd', ∀ b, p.nm = some b → m ≤ b)
  | [], σ, res, pd, σ', res', pd', h, hd, hos, hL, hR, hP, hN, hm, hb => by
    simp only [runQ, Option.some.injEq, Prod.mk.injEq] at h
    obtain ⟨rfl, rfl, rfl⟩ := h
    exact ⟨hR, hP, hN, Nat.le_refl _, fun r => ⟨.inl, fun h => h.elim id fun ⟨x, hx, _⟩ => by cases hx⟩, fun i => ⟨.inl, fun h => h.elim id fun ⟨x, hx, _⟩ => by cases hx⟩, hb⟩
  | x :: qs, σ, res, pd, σ', res', pd', h, hd, hos, hL, hR, hP, hN, hm, hb => by
    have hx := hd x (by simp)
    unfold doOk at hx
    unfold runQ at h
    split at h
    · next tm htm =>
      split at hx
      · next o ho =>
        simp only [Bool.and_eq_true, List.all_eq_true] at hx
        obtain ⟨x1, x2, x3⟩ := hx
        have step : ∀ (v : V) (gt : Bool) (nm : Option Nat) (σ1 : St), Rel N w0 φ σ1 w → σ.nxt ≤ σ1.nxt → gate x.o.g tm = some gt → (gt = false → v = .tnil) → (x.o.op.kind = .q → x.o.op.looks = false → gt = true → ∀ σ, stepQ x.o.op tm σ = some v) → quietK x.o.op.kind = true →
            (x.o.op.kind = .n → gt = true → ∃ l vf b, stepN x.o.op tm = some (l, vf) ∧ nm = some b ∧ v = vf b) → (∀ b, nm = some b → b = σ.nxt ∧ b < σ1.nxt) →
            runQ tmE tm0 qs σ1 (⟨x.i, x.o.dst, v⟩ :: res) (⟨x.i, x.o, tm, v, gt, nm⟩ :: pd) = some (σ', res', pd') →
            Rel N w0 φ σ' w ∧ (∀ p ∈ pd', PendOk P K ops pt all tmE tm0 res' p) ∧ Names φ L σ' pd' ∧ σ.nxt ≤ σ'.nxt ∧ (∀ r, r ∈ res' ↔ r ∈ res ∨ ∃ y ∈ x :: qs, ∃ v, r = ⟨y.i, y.o.dst, v⟩ ∧ r ∈ res') ∧ (∀ i, (∃ p ∈ pd', p.i = i) ↔ (∃ p ∈ pd, p.i = i) ∨ ∃ y ∈ x :: qs, y.i = i) ∧ (∀ p ∈ pd', ∀ b, p.nm = some b → m ≤ b) := by
          intro v gt nm σ1 hR1 hle hgt hno hq hk hn hnm hrun
          obtain ⟨r1, r2, r3, r4, r5, r6, r7⟩ := runQ_spec (m := m) qs σ1 _ _ σ' res' pd' hrun (fun y hy => hd y (by simp [hy])) (fun y hy => hos y (by simp [hy])) (fun y hy => hL y (by simp [hy])) hR1 (fun p hp => by
              rcases List.mem_cons.mp hp with rfl | hp
              · exact ⟨⟨o, x.us, x.os, ho, x1, x2, fun t ht y hy e => hos x (by simp) t ht y hy e, res, fun r hr => by simp [hr], htm⟩, by simp, hgt, hno, hq, hk, hn⟩
              · obtain ⟨⟨o', us', os', q1, q2, q3, q6, res2, q4, q5⟩, p2, p3, p4, p5, p6, p7⟩ := hP p hp
                exact ⟨⟨o', us', os', q1, q2, q3, q6, res2, fun r hr => by simp [q4 r hr], q5⟩, by simp [p2], p3, p4, p5, p6, p7⟩) ⟨fun p hp b hb => by
              rcases List.mem_cons.mp hp with rfl | hp
              · exact (hnm b hb).2
              · exact Nat.lt_of_lt_of_le (hN.lt p hp b hb) hle, fun p hp b hb hl => by
              rcases List.mem_cons.mp hp with rfl | hp
              · rw [(hnm b hb).1]; exact (hR.nxt _ (Nat.le_refl _)).1
              · exact hN.free p hp b hb hl, fun p hp p' hp' b hb hb' => by
              rcases List.mem_cons.mp hp with rfl | hp <;> rcases List.mem_cons.mp hp' with rfl | hp'
              · rfl
              · exfalso
                have := hN.lt p' hp' b hb'
                rw [(hnm b hb).1] at this
                omega
              · exfalso
                have := hN.lt p hp b hb
                rw [(hnm b hb').1] at this
                omega
              · exact hN.apart p hp p' hp' b hb hb'⟩ (by omega) (fun p hp b hb' => by
              rcases List.mem_cons.mp hp with rfl | hp
              · rw [(hnm b hb').1]; exact hm
              · exact hb p hp b hb')
          refine ⟨r1, r2, r3, by omega, fun r => ?_, fun i => ?_, r7⟩
          · constructor
            · intro h0
              rcases (r5 r).mp h0 with h | ⟨y, hy, u, e1, e2⟩
              · rcases List.mem_cons.mp h with e | h
                · exact .inr ⟨x, by simp, v, e, h0⟩
                · exact .inl h
              · exact .inr ⟨y, by simp [hy], u, e1, e2⟩
            · rintro (h | ⟨y, hy, u, e1, e2⟩)
              · exact (r5 r).mpr (.inl (by simp [h]))
              · exact e2
          · rw [r6 i]
            constructor
            · rintro (⟨p, hp, e⟩ | ⟨y, hy, e⟩)
              · rcases List.mem_cons.mp hp with rfl | hp
                · exact .inr ⟨x, by simp, e⟩
                · exact .inl ⟨p, hp, e⟩
              · exact .inr ⟨y, by simp [hy], e⟩
            · rintro (⟨p, hp, e⟩ | ⟨y, hy, e⟩)
              · exact .inl ⟨p, by simp [hp], e⟩
              · rcases List.mem_cons.mp hy with rfl | hy
                · exact .inl ⟨_, List.mem_cons_self, e⟩
                · exact .inr ⟨y, hy, e⟩
        split at h
        · next hg =>
          split at h
          · next hk =>
            split at h
            · next v hv =>
              exact step v true none σ hR (Nat.le_refl _) hg (fun e => by cases e) (fun _ hl _ σ2 => by rw [looks_pure hk hl tm σ2 σ]; exact hv) (by rw [hk]; rfl) (fun e => by rw [hk] at e; cases e) (fun b hb => by cases hb) h
            · cases h
          · next hk =>
            split at h
            · next c vf hc =>
              split at h
              · next b σ1 hnew =>
                obtain ⟨hb', hnx, -⟩ := new_spec hnew
                subst hb'
                exact step _ true (some σ.nxt) σ1 (hR.name hnew) (by omega) hg (fun e => by cases e) (fun e => by rw [hk] at e; cases e) (by rw [hk]; rfl) (fun _ _ => ⟨c, vf, σ.nxt, hc, rfl, rfl⟩) (fun b hb => by cases hb; exact ⟨rfl, by omega⟩) h
              · cases h
            · cases h
          · cases h
        · next hg =>
          split at h
          · next hk => exact step _ false none σ hR (Nat.le_refl _) hg (fun _ => rfl) (fun _ _ e => by cases e) (by rw [hk]; rfl) (fun e => by rw [hk] at e; cases e) (fun b hb => by cases hb) h
          · next hk => exact step _ false none σ hR (Nat.le_refl _) hg (fun _ => rfl) (fun _ _ e => by cases e) (by rw [hk]; rfl) (fun _ e => by cases e) (fun b hb => by cases hb) h
          · cases h
        · cases h
      · cases hx
    · cases h
end
end Go.Proofs.Ex
