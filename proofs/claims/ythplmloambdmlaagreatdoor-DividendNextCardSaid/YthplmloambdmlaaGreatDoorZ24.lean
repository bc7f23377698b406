/- The executor: the contracts of the program's fractions and natural numbers, as functions of the executor's values. -/
import Derived.Test.YthplmloambdmlaaGreatDoorZ23
import Derived.Test.YthplmloambdmlaaGreatDoorZ16

set_option linter.unusedSimpArgs false
set_option linter.unusedVariables false
namespace Go.Proofs.Ex
open Go.RowKit Go.Proofs.Ins

def impCode (P : Program) (K : Nat) : AC → Code → Bool
  | .skip, .skip => true
  | .skip, .label _ => true
  | .ops l, .region _ ops false => impOps P K ops ops.toList l
  | .drawn d pt ds, .region _ ops true => impDr P K ops d pt ds
  | .seq x y, .seq a b => impCode P K x a && impCode P K y b
  | .cond x y z, .cond c a b => opd c x && (impCode P K y a && impCode P K z b)
  | .block j x, .block i a => Nat.beq i j && impCode P K x a
  | .loop x, .loop a => impCode P K x a
  | .exit j, .exit i => Nat.beq i j
  | .ret, .ret => true
  | .bad, _ => true
  | _, _ => false
def impRes (P : Program) : List ResultVar → List (Nat × Option (Nat × Bool)) → Bool
  | [], [] => true
  | .tmp t :: r, (i, none) :: l => Nat.beq t i && impRes P r l
  | .cell t ty :: r, (i, some (n, g)) :: l => Nat.beq t i && (tyOk P ty n g && impRes P r l)
  | _, _ => false
def impF (P : Program) (f : Nat) (F : AF) : Bool :=
  match P.funcs[f]? with
  | some fn => (match fn.body with
    | some c => !(fn.name == "runtime.NumGoroutine") && (impCode P fn.ntmps F.body c && impRes P fn.results.toList F.res)
    | none => false)
  | none => false
structure EnvOk (P : Program) (E : Env) : Prop where
  fns : ∀ f F, E.fns f = some F → impF P f F = true
  ctr : ∀ f args v, E.ctr f args = some v → okF P f ∧ ∀ (φ : Ph) (cargs : Array Value) (w : World), RVs φ args cargs.toList → Calls P f cargs w fun e w' => ∃ cv, e = .returned cv ∧ Below w.heap.size w w' ∧ ∀ φ', RV φ' v cv

section
variable {P : Program} {N : Nat} {w0 w w' : World} {φ φ' : Ph} {σ σ' : St} {tm tm' : Tr V} {a : Act} {v : V}

theorem RVs.get : ∀ {l : List V} {r : List Value} (j : Nat) (x : V), RVs φ l r → l[j]? = some x → ∃ u, r[j]? = some u ∧ RV φ x u
  | _ :: _, u :: _, 0, _, hv, h => by cases h; exact ⟨u, rfl, hv.1⟩
  | _ :: l, _ :: r, j + 1, x, hv, h => RVs.get (l := l) (r := r) j x hv.2 (by simpa using h)
  | [], _, _, _, _, h => by simp at h
  | _ :: _, [], _, _, hv, _ => hv.elim
theorem initT_spec : ∀ (args : List V) (i : Nat) (t t' : Tr V), initT args i t = some t' → ∀ j, t'.get j = if i ≤ j ∧ j < i + args.length then args[j - i]? else t.get j
  | [], i, t, t', h, j => by
    simp only [initT, Option.some.injEq] at h
    subst h
    rw [if_neg (by simp only [List.length_nil]; omega)]
  | u :: r, i, t, t', h, j => by
    unfold initT at h
    split at h
    · next t1 h1 =>
      rw [initT_spec r (i + 1) t1 t' h j, Tr.get_put _ 40 _ _ _ j h1]
      simp only [List.length_cons]
      by_cases e : j = i
      · subst e
        rw [if_neg (by omega), if_pos rfl, if_pos (by omega)]
        simp
      · rw [if_neg e]
        by_cases hc : i + 1 ≤ j ∧ j < i + 1 + r.length
        · rw [if_pos hc, if_pos (by omega), show j - i = (j - (i + 1)) + 1 by omega]
          simp
        · rw [if_neg hc, if_neg (by omega)]
    · cases h
theorem getRes_spec (hR : Rel N w0 φ σ w) (ht : RT φ tm a) : ∀ (rs : List ResultVar) (l : List (Nat × Option (Nat × Bool))) (v : V), impRes P rs l = true → getRes tm σ l = some v →
    ∃ vs, (rs.mapM (fun (x : ResultVar) => match x with | .tmp t => (pure (a.tmps.getD t undef) : Sem Value) | .cell c t => do loadVar t (← asAddr (a.tmps.getD c undef)))).run P w = .ok vs w ∧ RV φ v (.tuple vs.toArray) ∧ vs.length = l.length
  | [], [], v, _, h => by
    simp only [getRes, Option.some.injEq] at h
    subst h
    exact ⟨[], by simp, rfl, rfl⟩
  | .tmp t :: rs, (i, none) :: l, v, hi, h => by
    unfold impRes at hi
    rw [Bool.and_eq_true] at hi
    have e := Nat.eq_of_beq_eq_true hi.1
    subst e
    unfold getRes at h
    split at h
    · next u r hu hr =>
      cases h
      obtain ⟨vs, h1, h2, h3⟩ := getRes_spec hR ht rs l r hi.2 hr
      refine ⟨a.tmps.getD t undef :: vs, ?_, ⟨_, vs, rfl, ht t u hu, h2⟩, by simp [h3]⟩
      rw [List.mapM_cons]
      simp only [Sem.run_bind, Sem.run_pure, Result.andThen_ok, h1]
    · cases h
  | .cell t ty :: rs, (i, some (n, g)) :: l, v, hi, h => by
    unfold impRes at hi
    simp only [Bool.and_eq_true] at hi
    obtain ⟨i1, i2, i3⟩ := hi
    have e := Nat.eq_of_beq_eq_true i1
    subst e
    unfold getRes at h
    split at h
    · next u r hu hr =>
      cases h
      obtain ⟨vs, h1, h2, h3⟩ := getRes_spec hR ht rs l r i3 hr
      simp only [stepQ, qload] at hu
      have hx := RV.tm ht t
      simp only [O.ev] at hu
      split at hu
      · next b o e =>
        rw [e] at hx
        obtain ⟨p, hp, e2⟩ := hx
        split at hu
        · next k hk =>
          obtain ⟨hpl, hu⟩ : k.pl = true ∧ rdC k.cells o _ _ = some u := by
            cases hpl : k.pl with
            | false => rw [hpl] at hu; cases hu
            | true => rw [hpl] at hu; exact ⟨rfl, hu⟩
          obtain ⟨cv, h4, h5⟩ := loadVar_spec (P := P) hR i2 hk hpl hp hu
          refine ⟨cv :: vs, ?_, ⟨_, vs, rfl, h5, h2⟩, by simp [h3]⟩
          have hA : (asAddr (a.tmps.getD t undef)).run P w = .ok ⟨p.1, o, none⟩ w := by rw [e2]; rfl
          rw [List.mapM_cons]
          simp only [Sem.run_bind, hA, Sem.run_pure, Result.andThen_ok, h4, h1]
        · cases hu
      · cases hu
    · cases h
  | [], _ :: _, _, h, _ => by cases h
  | .tmp _ :: _, [], _, h, _ => by cases h
  | .cell _ _ :: _, [], _, h, _ => by cases h
  | .tmp _ :: _, (_, some _) :: _, _, h, _ => by cases h
  | .cell _ _ :: _, (_, none) :: _, _, h, _ => by cases h
theorem result_spec (hR : Rel N w0 φ σ w) (ht : RT φ tm a) {fn : Func} {l : List (Nat × Option (Nat × Bool))} (hi : impRes P fn.results.toList l = true) (h : result tm σ l = some v) :
    ∃ cv, (results fn a.tmps).run P w = .ok cv w ∧ RV φ v cv := by
  unfold result at h
  cases hg : getRes tm σ l with
  | none => rw [hg] at h; cases h
  | some u =>
    rw [hg] at h
    obtain ⟨vs, h1, h2, h3⟩ := getRes_spec (P := P) hR ht fn.results.toList l u hi hg
    have hrun : (results fn a.tmps).run P w = .ok (if h : vs.toArray.size = 1 then vs.toArray[0] else .tuple vs.toArray) w := by
      unfold results
      rw [Array.mapM_eq_mapM_toList]
      simp only [Sem.run_bind, Sem.run_map]
      erw [h1]
      rfl
    rw [hrun]
    split at h
    · next v' e =>
      cases e
      cases h
      obtain ⟨x, xs, e1, e2, e3⟩ := h2
      have e3 : xs = [] := by
        have : Value.tuple xs.toArray = .tuple #[] := e3
        simpa using this
      have e1 : vs = [x] := by
        rw [e3] at e1
        simpa using e1
      subst e1
      exact ⟨x, by simp, e2⟩
    · next hne =>
      cases h
      refine ⟨.tuple vs.toArray, ?_, h2⟩
      rw [dif_neg]
      intro h1'
      have hl1 : l.length = 1 := by rw [← h3]; simpa using h1'
      obtain ⟨⟨i, q⟩, rfl⟩ := List.length_eq_one_iff.mp hl1
      cases q with
      | none =>
        simp only [getRes] at hg
        split at hg
        · next x y hx hy =>
          cases hy
          cases hg
          exact hne x rfl
        · cases hg
      | some q =>
        obtain ⟨n, g⟩ := q
        simp only [getRes] at hg
        split at hg
        · next x y hx hy =>
          cases hy
          cases hg
          exact hne x rfl
        · cases hg

def cX : AX → Exit
  | .normal => .normal
  | .exit i => .exit i
  | .ret => .ret
/-- A loop, where its body is about to run once more. -/
def LoopIn (P : Program) (c : Code) (Q : Exit → Act → World → Prop) (a : Act) (w : World) : Prop :=
  ∀ (b : Frame) (k : List Item) (cs : List Frame), ∃ e a' w', Q e a' w' ∧ Arrives P (lone (b.at a (.code c :: .inLoop c :: k)) cs w) b k cs e a' w'
theorem wp_loopIn {c : Code} {Q : Exit → Act → World → Prop} (h : LoopIn P c Q a w) : (Code.loop c).wp P Q a w := fun b k cs =>
  let ⟨e, a', w', hq, harr⟩ := h b k cs
  ⟨e, a', w', hq, .of_steps (.one step_loop) harr⟩
theorem loopIn_round {c : Code} {Q : Exit → Act → World → Prop} (h : c.wp P (Exit.then (LoopIn P c Q) Q) a w) : LoopIn P c Q a w := by
  intro b k cs
  obtain ⟨e, a₁, w₁, hq, harr⟩ := h b (.inLoop c :: k) cs
  cases e with
  | normal =>
    obtain ⟨e₂, a₂, w₂, hq₂, harr₂⟩ := hq b k cs
    exact ⟨e₂, a₂, w₂, hq₂, .of_steps (Steps.trans harr (.one step_inLoop)) harr₂⟩
  | exit id => exact ⟨_, a₁, w₁, hq, .pass (x := .inLoop c) rfl (fun _ _ => .inl (by simp)) harr⟩
  | goto l => exact ⟨_, a₁, w₁, hq, .pass (x := .inLoop c) rfl (fun _ _ => .inl (by simp)) harr⟩
  | ret => exact ⟨_, a₁, w₁, hq, .pass (x := .inLoop c) rfl (fun _ _ => .inl (by simp)) harr⟩
  | panic ch => exact ⟨_, a₁, w₁, hq, .pass (x := .inLoop c) rfl (fun _ _ => .inl (by simp)) harr⟩
  | outgrown => exact ⟨_, a₁, w₁, hq, .pass (x := .inLoop c) rfl (fun _ _ => .inl (by simp)) harr⟩

/-- What is to be shown of a piece of code. -/
def XOk (P : Program) (E : Env) (n : Nat) : Prop :=
  ∀ (K : Nat) (c : Code) (ac : AC) (tm : Tr V) (σ : St) (e : AX) (tm' : Tr V) (σ' : St), impCode P K ac c = true → exec E n ac tm σ = some (e, tm', σ') → ∀ (N : Nat) (w0 : World) (φ : Ph) (a : Act) (w : World), Rel N w0 φ σ w → RT φ tm a → K ≤ a.tmps.size →
    ∀ Q : Exit → Act → World → Prop, (∀ a' w', After N w0 φ σ σ' tm' a K a' w' → Q (cX e) a' w') → c.wp P Q a w
def LOk (P : Program) (E : Env) (n : Nat) : Prop :=
  ∀ (K : Nat) (c : Code) (ac : AC) (tm : Tr V) (σ : St) (e : AX) (tm' : Tr V) (σ' : St), impCode P K ac c = true → exec E n (.loop ac) tm σ = some (e, tm', σ') → ∀ (N : Nat) (w0 : World) (φ : Ph) (a : Act) (w : World), Rel N w0 φ σ w → RT φ tm a → K ≤ a.tmps.size →
    ∀ Q : Exit → Act → World → Prop, (∀ a' w', After N w0 φ σ σ' tm' a K a' w' → Q (cX e) a' w') → LoopIn P c Q a w

theorem loop_step {E : Env} {n : Nat} (hX : XOk P E n) (hL : LOk P E n) : LOk P E (n + 1) := by
  intro K c ac tm σ e tm' σ' hi h N w0 φ a w hR ht hK Q hQ
  simp only [exec, xSeq] at h
  refine loopIn_round ?_
  cases hx : exec E n ac tm σ with
  | none => rw [hx] at h; cases h
  | some r =>
    obtain ⟨e1, tm1, σ1⟩ := r
    rw [hx] at h
    cases e1 with
    | normal =>
      simp only at h
      refine hX K c ac tm σ .normal tm1 σ1 hi hx N w0 φ a w hR ht hK _ fun a1 w1 hA => ?_
      obtain ⟨q1, q2, φ1, q3, q4, q5, q6⟩ := hA
      exact hL K c ac tm1 σ1 e tm' σ' hi h N w0 φ1 a1 w1 q4 q5 q2 Q fun a2 w2 hA2 => hQ a2 w2 (hA2.trans q1 q3 q6)
    | exit i =>
      simp only [Option.some.injEq, Prod.mk.injEq] at h
      obtain ⟨rfl, rfl, rfl⟩ := h
      exact hX K c ac tm σ _ _ _ hi hx N w0 φ a w hR ht hK _ fun a1 w1 hA => hQ a1 w1 hA
    | ret =>
      simp only [Option.some.injEq, Prod.mk.injEq] at h
      obtain ⟨rfl, rfl, rfl⟩ := h
      exact hX K c ac tm σ _ _ _ hi hx N w0 φ a w hR ht hK _ fun a1 w1 hA => hQ a1 w1 hA
theorem code_step [hPP : IsProg P] {E : Env} (hm : P.follows .mixedOrders = true) {n : Nat} (hX : XOk P E n) (hL : LOk P E (n + 1)) (hC : ClOk P (callF E n)) : XOk P E (n + 1) := by
  intro K c ac tm σ e tm' σ' hi h N w0 φ a w hR ht hK Q hQ
  cases ac with
  | skip =>
    simp only [exec, Option.some.injEq, Prod.mk.injEq] at h
    obtain ⟨rfl, rfl, rfl⟩ := h
    have hA : After N w0 φ σ σ tm a K a w := ⟨rfl, hK, φ, Ext.refl _ _, hR, ht, Nat.le_refl _⟩
    cases c <;> simp only [impCode, Bool.false_eq_true, reduceCtorEq] at hi
    case skip => exact wp_skip (hQ a w hA)
    case label => exact wp_label (hQ a w hA)
  | ops l =>
    simp only [exec, xRes] at h
    cases c <;> (try (simp only [impCode, Bool.false_eq_true] at hi; done))
    case region id ops dr =>
      cases dr with
      | true => simp only [impCode, Bool.false_eq_true] at hi
      | false =>
        simp only [impCode] at hi
        split at h
        · next tm1 σ1 hr =>
          simp only [Option.some.injEq, Prod.mk.injEq] at h
          obtain ⟨rfl, rfl, rfl⟩ := h
          exact region_spec hC hi hR ht hK hr hQ
        · cases h
  | drawn d pt ds =>
    simp only [exec, xDr, xRes] at h
    cases c <;> (try (simp only [impCode, Bool.false_eq_true] at hi; done))
    case region id ops dr =>
      cases dr with
      | false => simp only [impCode, Bool.false_eq_true] at hi
      | true =>
        simp only [impCode] at hi
        split at h
        · next tm0 he =>
          split at h
          · next tm1 σ1 hr =>
            simp only [Option.some.injEq, Prod.mk.injEq] at h
            obtain ⟨rfl, rfl, rfl⟩ := h
            exact drawn_spec hC hm hi hR ht hK he hr hQ
          · cases h
        · cases h
  | seq x y =>
    simp only [exec, xSeq] at h
    cases c <;> (try (simp only [impCode, Bool.false_eq_true] at hi; done))
    case seq ca cb =>
      simp only [impCode, Bool.and_eq_true] at hi
      refine wp_seq ?_
      cases hx : exec E n x tm σ with
      | none => rw [hx] at h; cases h
      | some r =>
        obtain ⟨e1, tm1, σ1⟩ := r
        rw [hx] at h
        cases e1 with
        | normal =>
          simp only at h
          refine hX K ca x tm σ .normal tm1 σ1 hi.1 hx N w0 φ a w hR ht hK _ fun a1 w1 hA => ?_
          obtain ⟨q1, q2, φ1, q3, q4, q5, q6⟩ := hA
          exact hX K cb y tm1 σ1 e tm' σ' hi.2 h N w0 φ1 a1 w1 q4 q5 q2 Q fun a2 w2 hA2 => hQ a2 w2 (hA2.trans q1 q3 q6)
        | exit i =>
          simp only [Option.some.injEq, Prod.mk.injEq] at h
          obtain ⟨rfl, rfl, rfl⟩ := h
          exact hX K ca x tm σ _ _ _ hi.1 hx N w0 φ a w hR ht hK _ fun a1 w1 hA => hQ a1 w1 hA
        | ret =>
          simp only [Option.some.injEq, Prod.mk.injEq] at h
          obtain ⟨rfl, rfl, rfl⟩ := h
          exact hX K ca x tm σ _ _ _ hi.1 hx N w0 φ a w hR ht hK _ fun a1 w1 hA => hQ a1 w1 hA
  | cond x y z =>
    simp only [exec, xCond] at h
    cases c <;> (try (simp only [impCode, Bool.false_eq_true] at hi; done))
    case cond cc ca cb =>
      simp only [impCode, Bool.and_eq_true] at hi
      have hx := opd_RV hi.1 ht
      split at h
      · next t hev =>
        rw [hev] at hx
        have hx : a.eval cc = .bool t := hx
        refine wp_cond hx ?_
        cases t with
        | true => exact hX K ca y tm σ e tm' σ' hi.2.1 h N w0 φ a w hR ht hK Q hQ
        | false => exact hX K cb z tm σ e tm' σ' hi.2.2 h N w0 φ a w hR ht hK Q hQ
      · cases h
  | block j x =>
    simp only [exec, xBlock] at h
    cases c <;> (try (simp only [impCode, Bool.false_eq_true] at hi; done))
    case block i ca =>
      simp only [impCode, Bool.and_eq_true] at hi
      have hij := Nat.eq_of_beq_eq_true hi.1
      subst hij
      refine wp_block ?_
      cases hx : exec E n x tm σ with
      | none => rw [hx] at h; cases h
      | some r =>
        obtain ⟨e1, tm1, σ1⟩ := r
        rw [hx] at h
        cases e1 with
        | normal =>
          simp only [Option.some.injEq, Prod.mk.injEq] at h
          obtain ⟨rfl, rfl, rfl⟩ := h
          exact hX K ca x tm σ _ _ _ hi.2 hx N w0 φ a w hR ht hK _ fun a1 w1 hA => hQ a1 w1 hA
        | exit k =>
          simp only [Option.some.injEq, Prod.mk.injEq] at h
          obtain ⟨he, rfl, rfl⟩ := h
          refine hX K ca x tm σ _ _ _ hi.2 hx N w0 φ a w hR ht hK _ fun a1 w1 hA => ?_
          have := hQ a1 w1 hA
          rw [← he] at this
          show if k = i then Q .normal a1 w1 else Q (.exit k) a1 w1
          rw [bif_beq] at this
          by_cases hk : k = i
          · rw [if_pos hk] at this ⊢; exact this
          · rw [if_neg hk] at this ⊢; exact this
        | ret =>
          simp only [Option.some.injEq, Prod.mk.injEq] at h
          obtain ⟨rfl, rfl, rfl⟩ := h
          exact hX K ca x tm σ _ _ _ hi.2 hx N w0 φ a w hR ht hK _ fun a1 w1 hA => hQ a1 w1 hA
  | loop x =>
    cases c <;> (try (simp only [impCode, Bool.false_eq_true] at hi; done))
    case loop ca =>
      simp only [impCode] at hi
      exact wp_loopIn (hL K ca x tm σ e tm' σ' hi h N w0 φ a w hR ht hK Q hQ)
  | exit j =>
    simp only [exec, Option.some.injEq, Prod.mk.injEq] at h
    obtain ⟨rfl, rfl, rfl⟩ := h
    cases c <;> (try (simp only [impCode, Bool.false_eq_true] at hi; done))
    case exit i =>
      simp only [impCode] at hi
      have hij := Nat.eq_of_beq_eq_true hi
      subst hij
      exact wp_exit (hQ a w ⟨rfl, hK, φ, Ext.refl _ _, hR, ht, Nat.le_refl _⟩)
  | ret =>
    simp only [exec, Option.some.injEq, Prod.mk.injEq] at h
    obtain ⟨rfl, rfl, rfl⟩ := h
    cases c <;> (try (simp only [impCode, Bool.false_eq_true] at hi; done))
    case ret => exact wp_ret (hQ a w ⟨rfl, hK, φ, Ext.refl _ _, hR, ht, Nat.le_refl _⟩)
  | bad => simp only [exec, reduceCtorEq] at h
theorem call_step {E : Env} (hE : EnvOk P E) {n : Nat} (hX : XOk P E n) : ClOk P (callF E (n + 1)) := by
  intro f args σ v σ' h N w0 φ w cargs hR ha
  simp only [callF, xCall, xEnd] at h
  split at h
  · next u hu =>
    simp only [Option.some.injEq, Prod.mk.injEq] at h
    obtain ⟨rfl, rfl⟩ := h
    obtain ⟨h1, h2⟩ := hE.ctr f args u hu
    refine ⟨h1, Calls.mono (h2 φ cargs w ha) fun e w' he => ?_⟩
    obtain ⟨cv, rfl, hb, hv⟩ := he
    exact ⟨cv, rfl, φ, Ext.refl _ _, hR.below hb, hv φ, Nat.le_refl _⟩
  · split at h
    · next F hF =>
      have hi := hE.fns f F hF
      unfold impF at hi
      split at hi
      · next fn hfn =>
        split at hi
        · next c hc =>
          simp only [Bool.and_eq_true, Bool.not_eq_true'] at hi
          obtain ⟨i1, i2, i3⟩ := hi
          refine ⟨⟨fn, hfn, by rw [hc]; rfl, i1⟩, ?_⟩
          split at h
          · next tm htm =>
            have hget := initT_spec args 0 .leaf tm htm
            have hK : fn.ntmps ≤ ({ tmps := cargs ++ Array.replicate (fn.ntmps - cargs.size) undef, defers := [] } : Act).tmps.size := by simp; omega
            have ht : RT φ tm { tmps := cargs ++ Array.replicate (fn.ntmps - cargs.size) undef, defers := [] } := fun j u hu => by
              rw [hget j] at hu
              split at hu
              · obtain ⟨cu, h1, h2⟩ := ha.get _ _ hu
                simp only [Nat.sub_zero, Array.getElem?_toList] at h1
                have hj : j < cargs.size := by
                  rcases Nat.lt_or_ge j cargs.size with h | h
                  · exact h
                  · rw [Array.getElem?_eq_none h] at h1; cases h1
                have h3 : (cargs ++ Array.replicate (fn.ntmps - cargs.size) undef)[j]? = some cu := by rw [Array.getElem?_append_left hj]; exact h1
                simp only [Array.getD_eq_getD_getElem?, h3]
                exact h2
              · rw [Tr.get_leaf] at hu; cases hu
            have fin : ∀ (e : AX) (tm1 : Tr V) (σ1 : St), exec E n F.body tm σ = some (e, tm1, σ1) → e = .normal ∨ e = .ret → (match result tm1 σ1 F.res with | some v => some (v, σ1) | none => none) = some (v, σ') →
                Calls P f cargs w fun e w' => ∃ cv, e = .returned cv ∧ ∃ φ', Ext σ.nxt φ φ' ∧ Rel N w0 φ' σ' w' ∧ RV φ' v cv ∧ σ.nxt ≤ σ'.nxt := by
              intro e tm1 σ1 hx he hr
              split at hr
              · next u hu =>
                simp only [Option.some.injEq, Prod.mk.injEq] at hr
                obtain ⟨rfl, rfl⟩ := hr
                refine calls_of_wp hfn hc (hX fn.ntmps c F.body tm σ e tm1 σ1 i2 hx N w0 φ _ w hR ht hK _ fun a1 w1 hA => ?_)
                obtain ⟨q1, q2, φ1, q3, q4, q5, q6⟩ := hA
                obtain ⟨cv, r1, r2⟩ := result_spec (P := P) q4 q5 i3 hu
                have hpost : a1.defers = [] ∧ ∃ v', (results fn a1.tmps).run P w1 = .ok v' w1 ∧ ∃ cv, Ending.returned v' = .returned cv ∧ ∃ φ', Ext σ.nxt φ φ' ∧ Rel N w0 φ' σ1 w1 ∧ RV φ' u cv ∧ σ.nxt ≤ σ1.nxt :=
                  ⟨q1, cv, r1, cv, rfl, φ1, q3, q4, r2, q6⟩
                rcases he with rfl | rfl
                · exact hpost
                · exact hpost
              · cases hr
            split at h
            · next tm1 σ1 hx => exact fin _ _ _ hx (.inl rfl) h
            · next tm1 σ1 hx => exact fin _ _ _ hx (.inr rfl) h
            · cases h
          · cases h
        · cases hi
      · cases hi
    · cases h
/-- What the executor says of a call is so. -/
theorem exec_spec [hPP : IsProg P] {E : Env} (hE : EnvOk P E) (hm : P.follows .mixedOrders = true) : ∀ n, XOk P E n ∧ LOk P E n ∧ ClOk P (callF E n)
  | 0 => ⟨fun K c ac tm σ e tm' σ' _ h => by simp only [exec, reduceCtorEq] at h, fun K c ac tm σ e tm' σ' _ h => by simp only [exec, reduceCtorEq] at h, fun f args σ v σ' h => by simp only [callF, reduceCtorEq] at h⟩
  | n + 1 => by
    obtain ⟨h1, h2, h3⟩ := exec_spec hE hm n
    have hL := loop_step h1 h2
    exact ⟨code_step hm h1 hL h3, hL, call_step hE h1⟩
/-- A call without arguments, from any world. -/
theorem call_any [hPP : IsProg P] {E : Env} (hE : EnvOk P E) (hm : P.follows .mixedOrders = true) {n f : Nat} {b : B} {σ' : St} (h : callF E n f [] ⟨.leaf, 0⟩ = some (.c b, σ')) (w : World) :
    Calls P f #[] w fun e w' => ∃ cv, e = .returned cv ∧ Below w.heap.size w w' ∧ ∃ φ, RB φ b cv := by
  have hR : Rel w.heap.size w (fun _ => none) ⟨.leaf, 0⟩ w := ⟨Nat.le_refl _, Below.refl _ _, fun i j p q h => (by cases h), fun i p h => (by cases h), fun i k p h => (by rw [Tr.get_leaf] at h; cases h), fun i _ => ⟨rfl, Tr.get_leaf i⟩⟩
  obtain ⟨-, h2⟩ := (exec_spec hE hm n).2.2 f [] ⟨.leaf, 0⟩ _ σ' h w.heap.size w (fun _ => none) w #[] hR trivial
  refine Calls.mono h2 fun e w' he => ?_
  obtain ⟨cv, rfl, φ', -, q2, q3, -⟩ := he
  exact ⟨cv, rfl, q2.bel, φ', q3⟩
end
end Go.Proofs.Ex

set_option linter.unusedSimpArgs false
set_option linter.unusedVariables false
namespace Go.Proofs.Ex
open Go.RowKit Go.Proofs.Ins

def fB {α : Sort _} (b : Bool) (f : Bool → α) : α := match b with | true => f true | false => f false
theorem fB_eq {α : Sort _} (b : Bool) (f : Bool → α) : fB b f = f b := by cases b <;> rfl
def dD (d : Nat) : Nat := bif Nat.beq d 0 then 1 else d
def sm (n : Nat) : Bool := Nat.ble (Nat.log2 n) 1990
def okT (n : Bool) (s d : Nat) : Bool :=
  sm s && (sm d && (bif Nat.beq s 0 then !n && Nat.beq d 0 else Nat.beq d 0 || (!Nat.beq d 1 && Nat.beq (Nat.gcd s d) 1)))
theorem lt_pow_of_log {n k : Nat} (h : Nat.log2 n + 1 ≤ 8 * k) : n < 256 ^ k := by
  have h2 : n < 2 ^ (Nat.log2 n + 1) := Nat.lt_log2_self
  have h3 : 2 ^ (Nat.log2 n + 1) ≤ 2 ^ (8 * k) := Nat.pow_le_pow_right (by omega) h
  have h4 : (2 : Nat) ^ (8 * k) = 256 ^ k := Nat.pow_mul 2 8 k
  exact Nat.lt_of_lt_of_le h2 (Nat.le_trans h3 (Nat.le_of_eq h4))
theorem sm_lt {n : Nat} (h : sm n = true) : n < 256 ^ 250 := by
  have h1 : Nat.log2 n ≤ 1990 := Nat.le_of_ble_eq_true h
  exact lt_pow_of_log (by omega)
theorem sm_size {n : Nat} (h : sm n = true) : (bn n).size ≤ 250 := bn_size_le (sm_lt h)
theorem beq_iff' {a b : Nat} : Nat.beq a b = true ↔ a = b := ⟨Nat.eq_of_beq_eq_true, fun h => by subst h; simp⟩
theorem dD_pos (d : Nat) : 0 < dD d := by
  unfold dD
  rw [bif_beq]
  split <;> omega
theorem okT_spec {n : Bool} {s d : Nat} (h : okT n s d = true) : vld n (bn s) (bn d) ∧ (bn s).size ≤ 250 ∧ (bn d).size ≤ 250 ∧ (s = 0 → n = false) := by
  unfold okT at h
  simp only [Bool.and_eq_true] at h
  obtain ⟨h1, h2, h3⟩ := h
  rw [bif_beq] at h3
  refine ⟨⟨by rw [nv_bn], by rw [nv_bn], fun h0 => ?_, ?_⟩, sm_size h1, sm_size h2, fun h0 => ?_⟩
  · rw [nv_bn] at h0
    rw [if_pos h0] at h3
    simp only [Bool.and_eq_true, Bool.not_eq_true'] at h3
    exact ⟨h3.1, by rw [nv_bn]; exact beq_iff'.mp h3.2⟩
  · rw [nv_bn, nv_bn]
    split at h3
    · simp only [Bool.and_eq_true] at h3
      exact .inl (beq_iff'.mp h3.2)
    · simp only [Bool.or_eq_true, Bool.and_eq_true, Bool.not_eq_true'] at h3
      rcases h3 with h3 | ⟨h3, h4⟩
      · exact .inl (beq_iff'.mp h3)
      · exact .inr ⟨fun e => (by rw [beq_iff'.mpr e] at h3; cases h3), beq_iff'.mp h4⟩
  · rw [if_pos h0] at h3
    simp only [Bool.and_eq_true, Bool.not_eq_true'] at h3
    exact h3.1
theorem okT_f {n : Bool} {s d : Nat} (h : okT n s d = true) : rn (rq n (bn s) (bn d)) = n ∧ nm (rq n (bn s) (bn d)) = s ∧ (rq n (bn s) (bn d)).den = dD d ∧ rs (rq n (bn s) (bn d)) = bn s ∧ rd (rq n (bn s) (bn d)) = bn d := by
  obtain ⟨hv, -⟩ := okT_spec h
  obtain ⟨e1, e2⟩ := vld_num hv
  obtain ⟨f1, f2, f3⟩ := vld_fields hv
  refine ⟨f1, ?_, ?_, f2, f3⟩
  · unfold nm; rw [e1, sgn_natAbs, nv_bn]
  · rw [e2]; unfold dn dD; rw [nv_bn, bif_beq]
theorem okT_rv {n : Bool} {s d : Nat} (h : okT n s d = true) : rv (rq n (bn s) (bn d)) = .agg #[.bool n, .string (bn s), .string (bn d)] := rv_vld (okT_spec h).1

def zeroV : V := .agg [.bool false, .nat 0, .nat 0]
def enc (n : Bool) (x y : Nat) : V :=
  bif Nat.beq x 0 then zeroV else fB n fun n => fN (Nat.gcd x y) fun g => fN (x / g) fun p => fN (y / g) fun q => bif Nat.beq q 1 then .agg [.bool n, .nat p, .nat 0] else .agg [.bool n, .nat p, .nat q]
theorem zero_RV (φ : Ph) : RV φ zeroV (rv 0) := ⟨_, rfl, rfl, rfl, rfl, trivial⟩
theorem enc_RV {n : Bool} {x y : Nat} (hy : 0 < y) (φ : Ph) : RV φ (enc n x y) (rv (fr n x y)) := by
  unfold enc
  rw [bif_beq]
  by_cases hx : x = 0
  · rw [if_pos hx, hx, fr_zero]; exact zero_RV φ
  · rw [if_neg hx, fB_eq, fN_eq, fN_eq, fN_eq, bif_beq, rv_fr (by omega) hy]
    split
    · exact ⟨_, rfl, rfl, rfl, rfl, trivial⟩
    · exact ⟨_, rfl, rfl, rfl, rfl, trivial⟩

def addT (n1 : Bool) (s1 d1 : Nat) (n2 : Bool) (s2 d2 : Nat) : V :=
  fN (s1 * dD d2) fun X => fN (s2 * dD d1) fun Y => fN (dD d1 * dD d2) fun Z =>
    bif n1 == n2 then enc n1 (X + Y) Z else bif Nat.ble Y X then enc n1 (X - Y) Z else enc n2 (Y - X) Z
theorem addT_RV {n1 n2 : Bool} {s1 d1 s2 d2 : Nat} (h1 : okT n1 s1 d1 = true) (h2 : okT n2 s2 d2 = true) (φ : Ph) : RV φ (addT n1 s1 d1 n2 s2 d2) (rv (rq n1 (bn s1) (bn d1) + rq n2 (bn s2) (bn d2))) := by
  obtain ⟨a1, a2, a3, -⟩ := okT_f h1
  obtain ⟨b1, b2, b3, -⟩ := okT_f h2
  have hZ : 0 < dD d1 * dD d2 := Nat.mul_pos (dD_pos _) (dD_pos _)
  rw [fr_add, a1, a2, a3, b1, b2, b3]
  unfold addT
  rw [fN_eq, fN_eq, fN_eq]
  by_cases hn : n1 = n2
  · subst hn
    rw [sgn_add_same]
    simp only [beq_self_eq_true, cond_true]
    exact enc_RV hZ φ
  · rw [show (n1 == n2) = false from by simpa using hn, cond_false]
    cases hb : Nat.ble (s2 * dD d1) (s1 * dD d2) with
    | true =>
      rw [sgn_add_diff hn (Nat.le_of_ble_eq_true hb), cond_true]
      exact enc_RV hZ φ
    | false =>
      have hlt : ¬ s2 * dD d1 ≤ s1 * dD d2 := fun h => by rw [Nat.ble_eq_true_of_le h] at hb; cases hb
      rw [Int.add_comm, sgn_add_diff (fun e => hn e.symm) (by omega), cond_false]
      exact enc_RV hZ φ
def mulT (n1 : Bool) (s1 d1 : Nat) (n2 : Bool) (s2 d2 : Nat) : V := fN (s1 * s2) fun X => fN (dD d1 * dD d2) fun Z => enc (n1 != n2) X Z
theorem mulT_RV {n1 n2 : Bool} {s1 d1 s2 d2 : Nat} (h1 : okT n1 s1 d1 = true) (h2 : okT n2 s2 d2 = true) (φ : Ph) : RV φ (mulT n1 s1 d1 n2 s2 d2) (rv (rq n1 (bn s1) (bn d1) * rq n2 (bn s2) (bn d2))) := by
  obtain ⟨a1, a2, a3, -⟩ := okT_f h1
  obtain ⟨b1, b2, b3, -⟩ := okT_f h2
  rw [fr_mul, a1, a2, a3, b1, b2, b3]
  unfold mulT
  rw [fN_eq, fN_eq]
  exact enc_RV (Nat.mul_pos (dD_pos _) (dD_pos _)) φ
def withB (x : V) (b : Bool) : V := .tcons x (.tcons (.c (.bool b)) .tnil)
theorem withB_RV {φ : Ph} {x : V} {q : Rat} {b : Bool} (h : RV φ x (rv q)) : RV φ (withB x b) (rvB q b) := ⟨rv q, [.bool b], rfl, h, .bool b, [], rfl, rfl, rfl⟩
def divT (n1 : Bool) (s1 d1 : Nat) (n2 : Bool) (s2 d2 : Nat) : V :=
  bif Nat.beq s2 0 then withB zeroV false else fN (s1 * dD d2) fun X => fN (dD d1 * s2) fun Z => withB (enc (n1 != n2) X Z) true
theorem divT_RV {n1 n2 : Bool} {s1 d1 s2 d2 : Nat} (h1 : okT n1 s1 d1 = true) (h2 : okT n2 s2 d2 = true) (φ : Ph) : RV φ (divT n1 s1 d1 n2 s2 d2) (rvB (divR (rq n1 (bn s1) (bn d1)) (rq n2 (bn s2) (bn d2))) (okR (rq n2 (bn s2) (bn d2)))) := by
  obtain ⟨a1, a2, a3, -⟩ := okT_f h1
  obtain ⟨b1, b2, b3, -⟩ := okT_f h2
  unfold divT divR okR
  rw [bif_beq]
  by_cases h0 : s2 = 0
  · have hq : rq n2 (bn s2) (bn d2) = 0 := nm_zero.mp (by rw [b2]; exact h0)
    rw [if_pos h0, hq, if_pos rfl]
    exact withB_RV (zero_RV φ)
  · have hq : ¬ rq n2 (bn s2) (bn d2) = 0 := fun e => h0 (by rw [← b2]; exact nm_zero.mpr e)
    rw [if_neg h0, if_neg hq, fr_div hq, a1, a2, a3, b1, b2, b3, fN_eq, fN_eq, show (!decide (rq n2 (bn s2) (bn d2) = 0)) = true by simp [hq]]
    exact withB_RV (enc_RV (Nat.mul_pos (dD_pos _) (by omega)) φ)
def cmpn (x y : Nat) : Int := bif Nat.blt x y then .negSucc 0 else bif Nat.beq x y then .ofNat 0 else .ofNat 1
def cmpT (n1 : Bool) (s1 d1 : Nat) (n2 : Bool) (s2 d2 : Nat) : Int :=
  match n1, n2 with
  | true, false => .negSucc 0
  | false, true => .ofNat 1
  | false, false => cmpn (s1 * dD d2) (s2 * dD d1)
  | true, true => cmpn (s2 * dD d1) (s1 * dD d2)
theorem cmpn_lt {x y : Nat} (h : x < y) : cmpn x y = -1 := by
  unfold cmpn
  rw [show Nat.blt x y = true from Nat.ble_eq_true_of_le h]; rfl
theorem cmpn_ge {x y : Nat} (h : ¬ x < y) : cmpn x y = if x = y then 0 else 1 := by
  unfold cmpn
  rw [show Nat.blt x y = false from by
    cases hb : Nat.blt x y with
    | true => exact absurd (Nat.le_of_ble_eq_true hb) h
    | false => rfl, cond_false, bif_beq]
  split <;> rfl
theorem cmpT_eq {n1 n2 : Bool} {s1 d1 s2 d2 : Nat} (h1 : okT n1 s1 d1 = true) (h2 : okT n2 s2 d2 = true) : cmpR (rq n1 (bn s1) (bn d1)) (rq n2 (bn s2) (bn d2)) = cmpT n1 s1 d1 n2 s2 d2 := by
  obtain ⟨a1, a2, a3, -⟩ := okT_f h1
  obtain ⟨b1, b2, b3, -⟩ := okT_f h2
  obtain ⟨va, -, -, za⟩ := okT_spec h1
  obtain ⟨vb, -, -, zb⟩ := okT_spec h2
  have na := (vld_num va).1
  have nb := (vld_num vb).1
  rw [nv_bn] at na nb
  generalize hp : rq n1 (bn s1) (bn d1) = p at *
  generalize hq : rq n2 (bn s2) (bn d2) = q at *
  have l1 := Rat.lt_iff p q
  have l2 := Rat.lt_iff q p
  rw [na, nb, a3, b3] at l1 l2
  have p1 := dD_pos d1
  have p2 := dD_pos d2
  have tri : ∀ c : Int, (p < q → c = -1) → (q < p → c = 1) → (p = q → c = 0) → cmpR p q = c := fun c t1 t2 t3 => by
    by_cases h1 : p < q
    · rw [cmpR_lt h1, t1 h1]
    · by_cases h2 : q < p
      · rw [cmpR_gt h2, t2 h2]
      · have h3 : p = q := Rat.le_antisymm (Rat.not_lt.mp h2) (Rat.not_lt.mp h1)
        rw [t3 h3, h3, cmpR_eq]
  have eqc : p = q → s1 * dD d2 = s2 * dD d1 := fun e => by rw [← a2, ← b2, ← a3, ← b3, e]
  have x1 : ((s1 * dD d2 : Nat) : Int) = (s1 : Int) * (dD d2 : Int) := by simp
  have x2 : ((s2 * dD d1 : Nat) : Int) = (s2 : Int) * (dD d1 : Int) := by simp
  cases n1 <;> cases n2
  · simp only [sgn, Bool.false_eq_true, if_false] at l1 l2
    rw [← x1, ← x2] at l1
    rw [← x1, ← x2] at l2
    show cmpR p q = cmpn (s1 * dD d2) (s2 * dD d1)
    refine tri _ (fun h => cmpn_lt (by have := l1.mp h; omega)) (fun h => ?_) (fun h => ?_)
    · have := l2.mp h
      rw [cmpn_ge (by omega), if_neg (by omega)]
    · have := eqc h
      rw [cmpn_ge (by omega), if_pos this]
  · have hs : s2 ≠ 0 := fun e => by have := zb e; cases this
    have hlt : q < p := l2.mpr (by
      simp only [sgn, if_true, Bool.false_eq_true, if_false]
      have : 0 < (s2 : Int) * (dD d1 : Int) := Int.mul_pos (by omega) (by omega)
      have h5 : 0 ≤ (s1 : Int) * (dD d2 : Int) := Int.mul_nonneg (by omega) (by omega)
      rw [Int.neg_mul]
      omega)
    rw [cmpR_gt hlt]; rfl
  · have hs : s1 ≠ 0 := fun e => by have := za e; cases this
    have hlt : p < q := l1.mpr (by
      simp only [sgn, if_true, Bool.false_eq_true, if_false]
      have : 0 < (s1 : Int) * (dD d2 : Int) := Int.mul_pos (by omega) (by omega)
      have h5 : 0 ≤ (s2 : Int) * (dD d1 : Int) := Int.mul_nonneg (by omega) (by omega)
      rw [Int.neg_mul]
      omega)
    rw [cmpR_lt hlt]; rfl
  · simp only [sgn, if_true, Int.neg_mul] at l1 l2
    rw [← x1, ← x2] at l1
    rw [← x1, ← x2] at l2
    show cmpR p q = cmpn (s2 * dD d1) (s1 * dD d2)
    refine tri _ (fun h => cmpn_lt (by have := l1.mp h; omega)) (fun h => ?_) (fun h => ?_)
    · have := l2.mp h
      rw [cmpn_ge (by omega), if_neg (by omega)]
    · have := eqc h
      rw [cmpn_ge (by omega), if_pos this.symm]
def signT (n : Bool) (s : Nat) : Int := bif Nat.beq s 0 then .ofNat 0 else bif n then .negSucc 0 else .ofNat 1
theorem signT_eq {n : Bool} {s d : Nat} (h : okT n s d = true) : sg (rq n (bn s) (bn d)) = signT n s := by
  obtain ⟨a1, a2, -⟩ := okT_f h
  unfold signT
  rw [bif_beq]
  by_cases h0 : s = 0
  · rw [if_pos h0, sg_zero (by rw [a2]; exact h0)]; rfl
  · rw [if_neg h0]
    cases n with
    | true => rw [sg_neg a1]; rfl
    | false => rw [sg_pos a1 (by rw [a2]; exact h0)]; rfl
def intT (i : Int) : V := match i with | .ofNat m => enc false m 1 | .negSucc m => enc true (m + 1) 1
theorem intT_RV (i : Int) (φ : Ph) : RV φ (intT i) (rv (i : Rat)) := by
  rw [← fr_int i]
  cases i with
  | ofNat m => exact enc_RV (n := false) (x := m) (y := 1) (Nat.le_refl 1) φ
  | negSucc m =>
    rw [show decide (Int.negSucc m < 0) = true from decide_eq_true (Int.negSucc_lt_zero m)]
    exact enc_RV (n := true) (x := m + 1) (y := 1) (Nat.le_refl 1) φ
end Go.Proofs.Ex

set_option linter.unusedSimpArgs false
set_option linter.unusedVariables false
namespace Go.Proofs.Ex
open Go.RowKit Go.Proofs.Ins

def cRat1 (f : Bool → Nat → Nat → V) : List V → Option V
  | [.agg [.bool n, .nat s, .nat d]] => bif okT n s d then some (f n s d) else none
  | _ => none
def cRat2 (f : Bool → Nat → Nat → Bool → Nat → Nat → V) : List V → Option V
  | [.agg [.bool n1, .nat s1, .nat d1], .agg [.bool n2, .nat s2, .nat d2]] => bif okT n1 s1 d1 && okT n2 s2 d2 then some (f n1 s1 d1 n2 s2 d2) else none
  | _ => none
def cNat2 (f : Nat → Nat → V) : List V → Option V
  | [.c (.nat a), .c (.nat b)] => bif sm a && sm b then some (f a b) else none
  | _ => none
def ratV (n : Bool) (s d : Nat) : V := .agg [.bool n, .nat s, .nat d]
def iV (i : Int) : V := match i with | .ofNat 0 => .c (.int .i64 (.ofNat 0)) | .ofNat (n + 1) => .c (.int .i64 (.ofNat (n + 1))) | .negSucc n => .c (.int .i64 (.negSucc n))
def cInt : List V → Option V
  | [.c (.int .i64 i)] => bif inR .i64 i then some (intT i) else none
  | _ => none
def cMake : List V → Option V
  | [.c (.bool n), .c (.nat a), .c (.nat b)] => bif sm a && sm b then some (bif Nat.beq b 0 then withB zeroV false else withB (enc n a b) true) else none
  | _ => none
def cFrom : List V → Option V
  | [.c (.int .u64 (.ofNat u))] => bif Nat.blt u 18446744073709551616 then some (.c (.nat u)) else none
  | _ => none
def subN (a b : Nat) : V := bif Nat.blt a b then .tcons (.c (.nat 0)) (.tcons (.c (.bool false)) .tnil) else fN (a - b) fun m => .tcons (.c (.nat m)) (.tcons (.c (.bool true)) .tnil)
def cDivN : List V → Option V
  | [.c (.nat a), .c (.nat b)] => bif sm a && (sm b && !Nat.beq b 0) then some (fN (a / b) fun q => fN (a % b) fun r => .tcons (.c (.nat q)) (.tcons (.c (.nat r)) (.tcons (.c (.bool true)) .tnil))) else none
  | _ => none
def natV (n : Nat) : V := fN n fun n => .c (.nat n)
/-- The functions that are taken by their contracts. -/
def ctr (f : Nat) (args : List V) : Option V :=
  if f = 17 then cRat2 addT args
  else if f = 23 then cRat2 (fun a b c d e f => iV (cmpT a b c d e f)) args
  else if f = 26 then cRat2 mulT args
  else if f = 293 then cRat2 divT args
  else if f = 27 then cRat1 (fun n s _ => iV (signT n s)) args
  else if f = 267 then cRat2 (fun a b c d e f => bif decide (cmpT a b c d e f ≤ 0) then ratV a b c else ratV d e f) args
  else if f = 135 then cRat2 (fun a b c d e f => bif decide (0 ≤ cmpT a b c d e f) then ratV a b c else ratV d e f) args
  else if f = 66 then cRat1 ratV args
  else if f = 65 then cRat2 addT args
  else if f = 142 then cRat1 (fun _ _ _ => .c (.bool true)) args
  else if f = 28 then cInt args
  else if f = 333 then cMake args
  else if f = 162 then cFrom args
  else if f = 140 then cNat2 (fun a b => natV (a + b)) args
  else if f = 141 then cNat2 subN args
  else if f = 78 then cNat2 (fun a b => natV (a * b)) args
  else if f = 160 then cNat2 (fun a b => natV (Nat.gcd a b)) args
  else if f = 161 then cDivN args
  else if f = 59 then cInt args
  else none
/-- Functions by their numbers. -/
inductive FT where
  | leaf
  | node (k : Nat) (F : AF) (l r : FT)
def FT.find : FT → Nat → Option AF
  | .leaf, _ => none
  | .node k F l r, f => bif Nat.beq f k then some F else bif Nat.blt f k then l.find f else r.find f
def FT.all (p : Nat → AF → Bool) : FT → Bool
  | .leaf => true
  | .node k F l r => p k F && (l.all p && r.all p)
theorem FT.find_all {p : Nat → AF → Bool} {f : Nat} {F : AF} : ∀ {t : FT}, t.all p = true → t.find f = some F → p f F = true
  | .leaf, _, h => by cases h
  | .node k G l r, ha, h => by
    simp only [FT.all, Bool.and_eq_true] at ha
    unfold FT.find at h
    rw [bif_beq] at h
    split at h
    · next e => cases h; rw [e]; exact ha.1
    · cases hb : Nat.blt f k with
      | true => rw [hb] at h; exact FT.find_all ha.2.1 h
      | false => rw [hb] at h; exact FT.find_all ha.2.2 h
def kI (n : Nat) : O := .k (.c (.int .i64 (.ofNat n)))
def kF (n : Nat) : O := .k (.fn n [])
def d (n : Nat) : Option Nat := some n
def isT : Option (V × St) → Bool
  | some (.c (.bool true), _) => true
  | _ => false
end Go.Proofs.Ex
