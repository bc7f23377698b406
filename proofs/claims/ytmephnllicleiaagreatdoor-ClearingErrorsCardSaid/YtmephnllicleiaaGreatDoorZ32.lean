/- The walks of rational.add, Add and liquidation.clean. -/
import Derived.Test.YtmephnllicleiaaGreatDoorZ31
import Derived.Test.YtmephnllicleiaaGreatDoorZ3
import Derived.Test.YtmephnllicleiaaGreatDoorZ13

set_option linter.unusedSimpArgs false
set_option linter.unusedVariables false
namespace Go.Proofs.Ex
open Go.RowKit Go.Proofs.Ins

def impCode (P : Program) (K : Nat) : AC → Code → Bool
  | .skip, .skip => true
  | .skip, .label _ => true
  | .ops l, .region _ ops false => impOps P K ops ops.toList l
  | .drawn d pt ds, .region _ ops true => impDr P K ops d pt ds
  | .seq x y, .seq a b => impCode P K x a && impCode P K y b
  | .cond x y z, .cond c a b => opd c x && (impCode P K y a && impCode P K z b)
  | .block j x, .block i a => Nat.beq i j && impCode P K x a
  | .loop x, .loop a => impCode P K x a
  | .exit j, .exit i => Nat.beq i j
  | .ret, .ret => true
  | .bad, _ => true
  | _, _ => false
def impRes (P : Program) : List ResultVar → List (Nat × Option (Nat × Bool)) → Bool
  | [], [] => true
  | .tmp t :: r, (i, none) :: l => Nat.beq t i && impRes P r l
  | .cell t ty :: r, (i, some (n, g)) :: l => Nat.beq t i && (tyOk P ty n g && impRes P r l)
  | _, _ => false
def impF (P : Program) (f : Nat) (F : AF) : Bool :=
  match P.funcs[f]? with
  | some fn => (match fn.body with
    | some c => !(fn.name == "runtime.NumGoroutine") && (impCode P fn.ntmps F.body c && impRes P fn.results.toList F.res)
    | none => false)
  | none => false
structure EnvOk (P : Program) (E : Env) : Prop where
  fns : ∀ f F, E.fns f = some F → impF P f F = true
  ctr : ∀ f args v, E.ctr f args = some v → okF P f ∧ ∀ (φ : Ph) (cargs : Array Value) (w : World), RVs φ args cargs.toList → Calls P f cargs w fun e w' => ∃ cv, e = .returned cv ∧ Below w.heap.size w w' ∧ ∀ φ', RV φ' v cv

section
variable {P : Program} {N : Nat} {w0 w w' : World} {φ φ' : Ph} {σ σ' : St} {tm tm' : Tr V} {a : Act} {v : V}

theorem RVs.get : ∀ {l : List V} {r : List Value} (j : Nat) (x : V), RVs φ l r → l[j]? = some x → ∃ u, r[j]? = some u ∧ RV φ x u
  | _ :: _, u :: _, 0, _, hv, h => by cases h; exact ⟨u, rfl, hv.1⟩
  | _ :: l, _ :: r, j + 1, x, hv, h => RVs.get (l := l) (r := r) j x hv.2 (by simpa using h)
  | [], _, _, _, _, h => by simp at h
  | _ :: _, [], _, _, hv, _ => hv.elim
theorem initT_spec : ∀ (args : List V) (i : Nat) (t t' : Tr V), initT args i t = some t' → ∀ j, t'.get j = if i ≤ j ∧ j < i + args.length then args[j - i]? else t.get j
  | [], i, t, t', h, j => by
    simp only [initT, Option.some.injEq] at h
    subst h
    rw [if_neg (by simp only [List.length_nil]; omega)]
  | u :: r, i, t, t', h, j => by
    unfold initT at h
    split at h
    · next t1 h1 =>
      rw [initT_spec r (i + 1) t1 t' h j, Tr.get_put _ 40 _ _ _ j h1]
      simp only [List.length_cons]
      by_cases e : j = i
      · subst e
        rw [if_neg (by omega), if_pos rfl, if_pos (by omega)]
        simp
      · rw [if_neg e]
        by_cases hc : i + 1 ≤ j ∧ j < i + 1 + r.length
        · rw [if_pos hc, if_pos (by omega), show j - i = (j - (i + 1)) + 1 by omega]
          simp
        · rw [if_neg hc, if_neg (by omega)]
    · cases h
theorem getRes_spec (hR : Rel N w0 φ σ w) (ht : RT φ tm a) : ∀ (rs : List ResultVar) (l : List (Nat × Option (Nat × Bool))) (v : V), impRes P rs l = true → getRes tm σ l = some v →
    ∃ vs, (rs.mapM (fun (x : ResultVar) => match x with | .tmp t => (pure (a.tmps.getD t undef) : Sem Value) | .cell c t => do loadVar t (← asAddr (a.tmps.getD c undef)))).run P w = .ok vs w ∧ RV φ v (.tuple vs.toArray) ∧ vs.length = l.length
  | [], [], v, _, h => by
    simp only [getRes, Option.some.injEq] at h
    subst h
    exact ⟨[], by simp, rfl, rfl⟩
  | .tmp t :: rs, (i, none) :: l, v, hi, h => by
    unfold impRes at hi
    rw [Bool.and_eq_true] at hi
    have e := Nat.eq_of_beq_eq_true hi.1
    subst e
    unfold getRes at h
    split at h
    · next u r hu hr =>
      cases h
      obtain ⟨vs, h1, h2, h3⟩ := getRes_spec hR ht rs l r hi.2 hr
      refine ⟨a.tmps.getD t undef :: vs, ?_, ⟨_, vs, rfl, ht t u hu, h2⟩, by simp [h3]⟩
      rw [List.mapM_cons]
      simp only [Sem.run_bind, Sem.run_pure, Result.andThen_ok, h1]
    · cases h
  | .cell t ty :: rs, (i, some (n, g)) :: l, v, hi, h => by
    unfold impRes at hi
    simp only [Bool.and_eq_true] at hi
    obtain ⟨i1, i2, i3⟩ := hi
    have e := Nat.eq_of_beq_eq_true i1
    subst e
    unfold getRes at h
    split at h
    · next u r hu hr =>
      cases h
      obtain ⟨vs, h1, h2, h3⟩ := getRes_spec hR ht rs l r i3 hr
      simp only [stepQ, qload] at hu
      have hx := RV.tm ht t
      simp only [O.ev] at hu
      split at hu
      · next b o e =>
        rw [e] at hx
        obtain ⟨p, hp, e2⟩ := hx
        split at hu
        · next k hk =>
          obtain ⟨cv, h4, h5⟩ := loadVar_spec (P := P) hR i2 hk hp hu
          refine ⟨cv :: vs, ?_, ⟨_, vs, rfl, h5, h2⟩, by simp [h3]⟩
          have hA : (asAddr (a.tmps.getD t undef)).run P w = .ok ⟨p.1, o, none⟩ w := by rw [e2]; rfl
          rw [List.mapM_cons]
          simp only [Sem.run_bind, hA, Sem.run_pure, Result.andThen_ok, h4, h1]
        · cases hu
      · cases hu
    · cases h
  | [], _ :: _, _, h, _ => by cases h
  | .tmp _ :: _, [], _, h, _ => by cases h
  | .cell _ _ :: _, [], _, h, _ => by cases h
  | .tmp _ :: _, (_, some _) :: _, _, h, _ => by cases h
  | .cell _ _ :: _, (_, none) :: _, _, h, _ => by cases h
theorem result_spec (hR : Rel N w0 φ σ w) (ht : RT φ tm a) {fn : Func} {l : List (Nat × Option (Nat × Bool))} (hi : impRes P fn.results.toList l = true) (h : result tm σ l = some v) :
    ∃ cv, (results fn a.tmps).run P w = .ok cv w ∧ RV φ v cv := by
  unfold result at h
  cases hg : getRes tm σ l with
  | none => rw [hg] at h; cases h
  | some u =>
    rw [hg] at h
    obtain ⟨vs, h1, h2, h3⟩ := getRes_spec (P := P) hR ht fn.results.toList l u hi hg
    have hrun : (results fn a.tmps).run P w = .ok (if h : vs.toArray.size = 1 then vs.toArray[0] else .tuple vs.toArray) w := by
      unfold results
      rw [Array.mapM_eq_mapM_toList]
      simp only [Sem.run_bind, Sem.run_map]
      erw [h1]
      rfl
    rw [hrun]
    split at h
    · next v' e =>
      cases e
      cases h
      obtain ⟨x, xs, e1, e2, e3⟩ := h2
      have e3 : xs = [] := by
        have : Value.tuple xs.toArray = .tuple #[] := e3
        simpa using this
      have e1 : vs = [x] := by
        rw [e3] at e1
        simpa using e1
      subst e1
      exact ⟨x, by simp, e2⟩
    · next hne =>
      cases h
      refine ⟨.tuple vs.toArray, ?_, h2⟩
      rw [dif_neg]
      intro h1'
      have hl1 : l.length = 1 := by rw [← h3]; simpa using h1'
      obtain ⟨⟨i, q⟩, rfl⟩ := List.length_eq_one_iff.mp hl1
      cases q with
      | none =>
        simp only [getRes] at hg
        split at hg
        · next x y hx hy =>
          cases hy
          cases hg
          exact hne x rfl
        · cases hg
      | some q =>
        obtain ⟨n, g⟩ := q
        simp only [getRes] at hg
        split at hg
        · next x y hx hy =>
          cases hy
          cases hg
          exact hne x rfl
        · cases hg

def cX : AX → Exit
  | .normal => .normal
  | .exit i => .exit i
  | .ret => .ret
/-- A loop, where its body is about to run once more. -/
def LoopIn (P : Program) (c : Code) (Q : Exit → Act → World → Prop) (a : Act) (w : World) : Prop :=
  ∀ (b : Frame) (k : List Item) (cs : List Frame), ∃ e a' w', Q e a' w' ∧ Arrives P (lone (b.at a (.code c :: .inLoop c :: k)) cs w) b k cs e a' w'
theorem wp_loopIn {c : Code} {Q : Exit → Act → World → Prop} (h : LoopIn P c Q a w) : (Code.loop c).wp P Q a w := fun b k cs =>
  let ⟨e, a', w', hq, harr⟩ := h b k cs
  ⟨e, a', w', hq, .of_steps (.one step_loop) harr⟩
theorem loopIn_round {c : Code} {Q : Exit → Act → World → Prop} (h : c.wp P (Exit.then (LoopIn P c Q) Q) a w) : LoopIn P c Q a w := by
  intro b k cs
  obtain ⟨e, a₁, w₁, hq, harr⟩ := h b (.inLoop c :: k) cs
  cases e with
  | normal =>
    obtain ⟨e₂, a₂, w₂, hq₂, harr₂⟩ := hq b k cs
    exact ⟨e₂, a₂, w₂, hq₂, .of_steps (Steps.trans harr (.one step_inLoop)) harr₂⟩
  | exit id => exact ⟨_, a₁, w₁, hq, .pass (x := .inLoop c) rfl (fun _ _ => .inl (by simp)) harr⟩
  | goto l => exact ⟨_, a₁, w₁, hq, .pass (x := .inLoop c) rfl (fun _ _ => .inl (by simp)) harr⟩
  | ret => exact ⟨_, a₁, w₁, hq, .pass (x := .inLoop c) rfl (fun _ _ => .inl (by simp)) harr⟩
  | panic ch => exact ⟨_, a₁, w₁, hq, .pass (x := .inLoop c) rfl (fun _ _ => .inl (by simp)) harr⟩
  | outgrown => exact ⟨_, a₁, w₁, hq, .pass (x := .inLoop c) rfl (fun _ _ => .inl (by simp)) harr⟩

/-- What is to be shown of a piece of code. -/
def XOk (P : Program) (E : Env) (n : Nat) : Prop :=
  ∀ (K : Nat) (c : Code) (ac : AC) (tm : Tr V) (σ : St) (e : AX) (tm' : Tr V) (σ' : St), impCode P K ac c = true → exec E n ac tm σ = some (e, tm', σ') → ∀ (N : Nat) (w0 : World) (φ : Ph) (a : Act) (w : World), Rel N w0 φ σ w → RT φ tm a → K ≤ a.tmps.size →
    ∀ Q : Exit → Act → World → Prop, (∀ a' w', After N w0 φ σ σ' tm' a K a' w' → Q (cX e) a' w') → c.wp P Q a w
def LOk (P : Program) (E : Env) (n : Nat) : Prop :=
  ∀ (K : Nat) (c : Code) (ac : AC) (tm : Tr V) (σ : St) (e : AX) (tm' : Tr V) (σ' : St), impCode P K ac c = true → exec E n (.loop ac) tm σ = some (e, tm', σ') → ∀ (N : Nat) (w0 : World) (φ : Ph) (a : Act) (w : World), Rel N w0 φ σ w → RT φ tm a → K ≤ a.tmps.size →
    ∀ Q : Exit → Act → World → Prop, (∀ a' w', After N w0 φ σ σ' tm' a K a' w' → Q (cX e) a' w') → LoopIn P c Q a w

theorem loop_step {E : Env} {n : Nat} (hX : XOk P E n) (hL : LOk P E n) : LOk P E (n + 1) := by
  intro K c ac tm σ e tm' σ' hi h N w0 φ a w hR ht hK Q hQ
  simp only [exec, xSeq] at h
  refine loopIn_round ?_
  cases hx : exec E n ac tm σ with
  | none => rw [hx] at h; cases h
  | some r =>
    obtain ⟨e1, tm1, σ1⟩ := r
    rw [hx] at h
    cases e1 with
    | normal =>
      simp only at h
      refine hX K c ac tm σ .normal tm1 σ1 hi hx N w0 φ a w hR ht hK _ fun a1 w1 hA => ?_
      obtain ⟨q1, q2, φ1, q3, q4, q5, q6⟩ := hA
      exact hL K c ac tm1 σ1 e tm' σ' hi h N w0 φ1 a1 w1 q4 q5 q2 Q fun a2 w2 hA2 => hQ a2 w2 (hA2.trans q1 q3 q6)
    | exit i =>
      simp only [Option.some.injEq, Prod.mk.injEq] at h
      obtain ⟨rfl, rfl, rfl⟩ := h
      exact hX K c ac tm σ _ _ _ hi hx N w0 φ a w hR ht hK _ fun a1 w1 hA => hQ a1 w1 hA
    | ret =>
      simp only [Option.some.injEq, Prod.mk.injEq] at h
      obtain ⟨rfl, rfl, rfl⟩ := h
      exact hX K c ac tm σ _ _ _ hi hx N w0 φ a w hR ht hK _ fun a1 w1 hA => hQ a1 w1 hA
theorem code_step {E : Env} (hm : P.follows .mixedOrders = true) {n : Nat} (hX : XOk P E n) (hL : LOk P E (n + 1)) (hC : ClOk P (callF E n)) : XOk P E (n + 1) := by
  intro K c ac tm σ e tm' σ' hi h N w0 φ a w hR ht hK Q hQ
  cases ac with
  | skip =>
    simp only [exec, Option.some.injEq, Prod.mk.injEq] at h
    obtain ⟨rfl, rfl, rfl⟩ := h
    have hA : After N w0 φ σ σ tm a K a w := ⟨rfl, hK, φ, Ext.refl _ _, hR, ht, Nat.le_refl _⟩
    cases c <;> simp only [impCode, Bool.false_eq_true, reduceCtorEq] at hi
    case skip => exact wp_skip (hQ a w hA)
    case label => exact wp_label (hQ a w hA)
  | ops l =>
    simp only [exec, xRes] at h
    cases c <;> (try (simp only [impCode, Bool.false_eq_true] at hi; done))
    case region id ops dr =>
      cases dr with
      | true => simp only [impCode, Bool.false_eq_true] at hi
      | false =>
        simp only [impCode] at hi
        split at h
        · next tm1 σ1 hr =>
          simp only [Option.some.injEq, Prod.mk.injEq] at h
          obtain ⟨rfl, rfl, rfl⟩ := h
          exact region_spec hC hi hR ht hK hr hQ
        · cases h
  | drawn d pt ds =>
    simp only [exec, xDr, xRes] at h
    cases c <;> (try (simp only [impCode, Bool.false_eq_true] at hi; done))
    case region id ops dr =>
      cases dr with
      | false => simp only [impCode, Bool.false_eq_true] at hi
      | true =>
        simp only [impCode] at hi
        split at h
        · next tm0 he =>
          split at h
          · next tm1 σ1 hr =>
            simp only [Option.some.injEq, Prod.mk.injEq] at h
            obtain ⟨rfl, rfl, rfl⟩ := h
            exact drawn_spec hC hm hi hR ht hK he hr hQ
          · cases h
        · cases h
  | seq x y =>
    simp only [exec, xSeq] at h
    cases c <;> (try (simp only [impCode, Bool.false_eq_true] at hi; done))
    case seq ca cb =>
      simp only [impCode, Bool.and_eq_true] at hi
      refine wp_seq ?_
      cases hx : exec E n x tm σ with
      | none => rw [hx] at h; cases h
      | some r =>
        obtain ⟨e1, tm1, σ1⟩ := r
        rw [hx] at h
        cases e1 with
        | normal =>
          simp only at h
          refine hX K ca x tm σ .normal tm1 σ1 hi.1 hx N w0 φ a w hR ht hK _ fun a1 w1 hA => ?_
          obtain ⟨q1, q2, φ1, q3, q4, q5, q6⟩ := hA
          exact hX K cb y tm1 σ1 e tm' σ' hi.2 h N w0 φ1 a1 w1 q4 q5 q2 Q fun a2 w2 hA2 => hQ a2 w2 (hA2.trans q1 q3 q6)
        | exit i =>
          simp only [Option.some.injEq, Prod.mk.injEq] at h
          obtain ⟨rfl, rfl, rfl⟩ := h
          exact hX K ca x tm σ _ _ _ hi.1 hx N w0 φ a w hR ht hK _ fun a1 w1 hA => hQ a1 w1 hA
        | ret =>
          simp only [Option.some.injEq, Prod.mk.injEq] at h
          obtain ⟨rfl, rfl, rfl⟩ := h
          exact hX K ca x tm σ _ _ _ hi.1 hx N w0 φ a w hR ht hK _ fun a1 w1 hA => hQ a1 w1 hA
  | cond x y z =>
    simp only [exec, xCond] at h
    cases c <;> (try (simp only [impCode, Bool.false_eq_true] at hi; done))
    case cond cc ca cb =>
      simp only [impCode, Bool.and_eq_true] at hi
      have hx := opd_RV hi.1 ht
      split at h
      · next t hev =>
        rw [hev] at hx
        have hx : a.eval cc = .bool t := hx
        refine wp_cond hx ?_
        cases t with
        | true => exact hX K ca y tm σ e tm' σ' hi.2.1 h N w0 φ a w hR ht hK Q hQ
        | false => exact hX K cb z tm σ e tm' σ' hi.2.2 h N w0 φ a w hR ht hK Q hQ
      · cases h
  | block j x =>
    simp only [exec, xBlock] at h
    cases c <;> (try (simp only [impCode, Bool.false_eq_true] at hi; done))
    case block i ca =>
      simp only [impCode, Bool.and_eq_true] at hi
      have hij := Nat.eq_of_beq_eq_true hi.1
      subst hij
      refine wp_block ?_
      cases hx : exec E n x tm σ with
      | none => rw [hx] at h; cases h
      | some r =>
        obtain ⟨e1, tm1, σ1⟩ := r
        rw [hx] at h
        cases e1 with
        | normal =>
          simp only [Option.some.injEq, Prod.mk.injEq] at h
          obtain ⟨rfl, rfl, rfl⟩ := h
          exact hX K ca x tm σ _ _ _ hi.2 hx N w0 φ a w hR ht hK _ fun a1 w1 hA => hQ a1 w1 hA
        | exit k =>
          simp only [Option.some.injEq, Prod.mk.injEq] at h
          obtain ⟨he, rfl, rfl⟩ := h
          refine hX K ca x tm σ _ _ _ hi.2 hx N w0 φ a w hR ht hK _ fun a1 w1 hA => ?_
          have := hQ a1 w1 hA
          rw [← he] at this
          show if k = i then Q .normal a1 w1 else Q (.exit k) a1 w1
          rw [bif_beq] at this
          by_cases hk : k = i
          · rw [if_pos hk] at this ⊢; exact this
          · rw [if_neg hk] at this ⊢; exact this
        | ret =>
          simp only [Option.some.injEq, Prod.mk.injEq] at h
          obtain ⟨rfl, rfl, rfl⟩ := h
          exact hX K ca x tm σ _ _ _ hi.2 hx N w0 φ a w hR ht hK _ fun a1 w1 hA => hQ a1 w1 hA
  | loop x =>
    cases c <;> (try (simp only [impCode, Bool.false_eq_true] at hi; done))
    case loop ca =>
      simp only [impCode] at hi
      exact wp_loopIn (hL K ca x tm σ e tm' σ' hi h N w0 φ a w hR ht hK Q hQ)
  | exit j =>
    simp only [exec, Option.some.injEq, Prod.mk.injEq] at h
    obtain ⟨rfl, rfl, rfl⟩ := h
    cases c <;> (try (simp only [impCode, Bool.false_eq_true] at hi; done))
    case exit i =>
      simp only [impCode] at hi
      have hij := Nat.eq_of_beq_eq_true hi
      subst hij
      exact wp_exit (hQ a w ⟨rfl, hK, φ, Ext.refl _ _, hR, ht, Nat.le_refl _⟩)
  | ret =>
    simp only [exec, Option.some.injEq, Prod.mk.injEq] at h
    obtain ⟨rfl, rfl, rfl⟩ := h
    cases c <;> (try (simp only [impCode, Bool.false_eq_true] at hi; done))
    case ret => exact wp_ret (hQ a w ⟨rfl, hK, φ, Ext.refl _ _, hR, ht, Nat.le_refl _⟩)
  | bad => simp only [exec, reduceCtorEq] at h
theorem call_step {E : Env} (hE : EnvOk P E) {n : Nat} (hX : XOk P E n) : ClOk P (callF E (n + 1)) := by
  intro f args σ v σ' h N w0 φ w cargs hR ha
  simp only [callF, xCall, xEnd] at h
  split at h
  · next u hu =>
    simp only [Option.some.injEq, Prod.mk.injEq] at h
    obtain ⟨rfl, rfl⟩ := h
    obtain ⟨h1, h2⟩ := hE.ctr f args u hu
    refine ⟨h1, Calls.mono (h2 φ cargs w ha) fun e w' he => ?_⟩
    obtain ⟨cv, rfl, hb, hv⟩ := he
    exact ⟨cv, rfl, φ, Ext.refl _ _, hR.below hb, hv φ, Nat.le_refl _⟩
  · split at h
    · next F hF =>
      have hi := hE.fns f F hF
      unfold impF at hi
      split at hi
      · next fn hfn =>
        split at hi
        · next c hc =>
          simp only [Bool.and_eq_true, Bool.not_eq_true'] at hi
          obtain ⟨i1, i2, i3⟩ := hi
          refine ⟨⟨fn, hfn, by rw [hc]; rfl, i1⟩, ?_⟩
          split at h
          · next tm htm =>
            have hget := initT_spec args 0 .leaf tm htm
            have hK : fn.ntmps ≤ ({ tmps := cargs ++ Array.replicate (fn.ntmps - cargs.size) undef, defers := [] } : Act).tmps.size := by simp; omega
            have ht : RT φ tm { tmps := cargs ++ Array.replicate (fn.ntmps - cargs.size) undef, defers := [] } := fun j u hu => by
              rw [hget j] at hu
              split at hu
              · obtain ⟨cu, h1, h2⟩ := ha.get _ _ hu
                simp only [Nat.sub_zero, Array.getElem?_toList] at h1
                have hj : j < cargs.size := by
                  rcases Nat.lt_or_ge j cargs.size with h | h
                  · exact h
                  · rw [Array.getElem?_eq_none h] at h1; cases h1
                have h3 : (cargs ++ Array.replicate (fn.ntmps - cargs.size) undef)[j]? = some cu := by rw [Array.getElem?_append_left hj]; exact h1
                simp only [Array.getD_eq_getD_getElem?, h3]
                exact h2
              · rw [Tr.get_leaf] at hu; cases hu
            have fin : ∀ (e : AX) (tm1 : Tr V) (σ1 : St), exec E n F.body tm σ = some (e, tm1, σ1) → e = .normal ∨ e = .ret → (match result tm1 σ1 F.res with | some v => some (v, σ1) | none => none) = some (v, σ') →
                Calls P f cargs w fun e w' => ∃ cv, e = .returned cv ∧ ∃ φ', Ext σ.nxt φ φ' ∧ Rel N w0 φ' σ' w' ∧ RV φ' v cv ∧ σ.nxt ≤ σ'.nxt := by
              intro e tm1 σ1 hx he hr
              split at hr
              · next u hu =>
                simp only [Option.some.injEq, Prod.mk.injEq] at hr
                obtain ⟨rfl, rfl⟩ := hr
                refine calls_of_wp hfn hc (hX fn.ntmps c F.body tm σ e tm1 σ1 i2 hx N w0 φ _ w hR ht hK _ fun a1 w1 hA => ?_)
                obtain ⟨q1, q2, φ1, q3, q4, q5, q6⟩ := hA
                obtain ⟨cv, r1, r2⟩ := result_spec (P := P) q4 q5 i3 hu
                have hpost : a1.defers = [] ∧ ∃ v', (results fn a1.tmps).run P w1 = .ok v' w1 ∧ ∃ cv, Ending.returned v' = .returned cv ∧ ∃ φ', Ext σ.nxt φ φ' ∧ Rel N w0 φ' σ1 w1 ∧ RV φ' u cv ∧ σ.nxt ≤ σ1.nxt :=
                  ⟨q1, cv, r1, cv, rfl, φ1, q3, q4, r2, q6⟩
                rcases he with rfl | rfl
                · exact hpost
                · exact hpost
              · cases hr
            split at h
            · next tm1 σ1 hx => exact fin _ _ _ hx (.inl rfl) h
            · next tm1 σ1 hx => exact fin _ _ _ hx (.inr rfl) h
            · cases h
          · cases h
        · cases hi
      · cases hi
    · cases h
/-- What the executor says of a call is so. -/
theorem exec_spec {E : Env} (hE : EnvOk P E) (hm : P.follows .mixedOrders = true) : ∀ n, XOk P E n ∧ LOk P E n ∧ ClOk P (callF E n)
  | 0 => ⟨fun K c ac tm σ e tm' σ' _ h => by simp only [exec, reduceCtorEq] at h, fun K c ac tm σ e tm' σ' _ h => by simp only [exec, reduceCtorEq] at h, fun f args σ v σ' h => by simp only [callF, reduceCtorEq] at h⟩
  | n + 1 => by
    obtain ⟨h1, h2, h3⟩ := exec_spec hE hm n
    have hL := loop_step h1 h2
    exact ⟨code_step hm h1 hL h3, hL, call_step hE h1⟩
/-- A call without arguments, from any world. -/
theorem call_any {E : Env} (hE : EnvOk P E) (hm : P.follows .mixedOrders = true) {n f : Nat} {b : B} {σ' : St} (h : callF E n f [] ⟨.leaf, 0⟩ = some (.c b, σ')) (w : World) :
    Calls P f #[] w fun e w' => ∃ cv, e = .returned cv ∧ Below w.heap.size w w' ∧ ∃ φ, RB φ b cv := by
  have hR : Rel w.heap.size w (fun _ => none) ⟨.leaf, 0⟩ w := ⟨Nat.le_refl _, Below.refl _ _, fun i j p q h => (by cases h), fun i p h => (by cases h), fun i k p h => (by rw [Tr.get_leaf] at h; cases h), fun i _ => ⟨rfl, Tr.get_leaf i⟩⟩
  obtain ⟨-, h2⟩ := (exec_spec hE hm n).2.2 f [] ⟨.leaf, 0⟩ _ σ' h w.heap.size w (fun _ => none) w #[] hR trivial
  refine Calls.mono h2 fun e w' he => ?_
  obtain ⟨cv, rfl, φ', -, q2, q3, -⟩ := he
  exact ⟨cv, rfl, q2.bel, φ', q3⟩
end
end Go.Proofs.Ex

set_option linter.unusedSimpArgs false
set_option linter.unusedVariables false
namespace Go.Proofs.Ins
open Go.RowKit

/-- What add needs of its callees, at two numbers. -/
structure AddC (p1 : Bool) (p2 p3 : ByteArray) (q1 : Bool) (q2 q3 : ByteArray) (P1 P2 X Y D A : ByteArray) (x y : Nat) (r1 : Bool) (r2 r3 : ByteArray) : Prop where
  dp : ∀ w, Calls Tryz.prog 83 #[.agg #[.bool p1, .string p2, .string p3]] w fun e w' => e = .returned (.string P1) ∧ Below w.heap.size w w'
  dq : ∀ w, Calls Tryz.prog 83 #[.agg #[.bool q1, .string q2, .string q3]] w fun e w' => e = .returned (.string P2) ∧ Below w.heap.size w w'
  mx : p3 ≠ q3 → ∀ w, Calls Tryz.prog 82 #[.string p2, .string P2] w fun e w' => e = .returned (.string X) ∧ Below w.heap.size w w'
  my : p3 ≠ q3 → ∀ w, Calls Tryz.prog 82 #[.string q2, .string P1] w fun e w' => e = .returned (.string Y) ∧ Below w.heap.size w w'
  md : p3 ≠ q3 → ∀ w, Calls Tryz.prog 82 #[.string P1, .string P2] w fun e w' => e = .returned (.string D) ∧ Below w.heap.size w w'
  ex : p3 = q3 → X = p2 ∧ Y = q2 ∧ D = P1
  ad : ∀ w, Calls Tryz.prog 121 #[.string X, .string Y] w fun e w' => e = .returned (.string A) ∧ Below w.heap.size w w'
  sb : ∀ w, Calls Tryz.prog 122 #[.string X, .string Y] w fun e w' => e = .returned (subV x y) ∧ Below w.heap.size w w'
  sc : ∀ w, Calls Tryz.prog 122 #[.string Y, .string X] w fun e w' => e = .returned (subV y x) ∧ Below w.heap.size w w'
  same : p1 = q1 → ∀ w, Calls Tryz.prog 69 #[.bool p1, .string A, .string D] w fun e w' => e = .returned (.agg #[.bool r1, .string r2, .string r3]) ∧ Below w.heap.size w w'
  more : p1 ≠ q1 → y ≤ x → ∀ w, Calls Tryz.prog 69 #[.bool p1, .string (bn (x - y)), .string D] w fun e w' => e = .returned (.agg #[.bool r1, .string r2, .string r3]) ∧ Below w.heap.size w w'
  less : p1 ≠ q1 → x < y → ∀ w, Calls Tryz.prog 69 #[.bool q1, .string (bn (y - x)), .string D] w fun e w' => e = .returned (.agg #[.bool r1, .string r2, .string r3]) ∧ Below w.heap.size w w'

/-- The numerators over a common denominator, as add takes them. -/
def adX (p q : Rat) : Nat := if rd p = rd q then nm p else nm p * q.den
def adY (p q : Rat) : Nat := if rd p = rd q then nm q else nm q * p.den
def adD (p q : Rat) : Nat := if rd p = rd q then p.den else p.den * q.den
theorem den_of_rd {p q : Rat} (h : rd p = rd q) : p.den = q.den := by rw [← dn_rd p, ← dn_rd q, h]
theorem ad_sum (p q : Rat) : p + q = mkRat (sgn (rn p) (adX p q) + sgn (rn q) (adY p q)) (adD p q) := by
  unfold adX adY adD
  by_cases h : rd p = rd q
  · rw [if_pos h, if_pos h, if_pos h]; exact fr_add_same (den_of_rd h)
  · rw [if_neg h, if_neg h, if_neg h]; exact fr_add p q
theorem addC_of (p q : Rat) (k l : Nat) (hp : Sm k p) (hq : Sm l q) (hkl : k + l + 1 ≤ 1073741824) :
    AddC (rn p) (rs p) (rd p) (rn q) (rs q) (rd q) (bn p.den) (bn q.den) (bn (adX p q)) (bn (adY p q)) (bn (adD p q)) (bn (adX p q + adY p q)) (adX p q) (adY p q) (rn (p + q)) (rs (p + q)) (rd (p + q)) := by
  have one : ∀ a b : Nat, (256 : Nat) ^ a ≤ 256 ^ (a + b) := fun a b => Nat.pow_le_pow_right (by omega) (by omega)
  have kx : adX p q < 256 ^ (k + l) := by
    unfold adX; split
    · exact Nat.lt_of_lt_of_le hp.1 (one k l)
    · exact pow_mul_lt hp.1 hq.2
  have ky : adY p q < 256 ^ (k + l) := by
    unfold adY; split
    · rw [Nat.add_comm]; exact Nat.lt_of_lt_of_le hq.1 (one l k)
    · rw [Nat.add_comm]; exact pow_mul_lt hq.1 hp.2
  have kd : adD p q < 256 ^ (k + l) := by
    unfold adD; split
    · exact Nat.lt_of_lt_of_le hp.2 (one k l)
    · exact pow_mul_lt hp.2 hq.2
  have d0 : 0 < adD p q := by
    unfold adD; split
    · exact p.den_pos
    · exact Nat.mul_pos p.den_pos q.den_pos
  have e1 : (256 : Nat) ^ (k + l + 1) = 256 * 256 ^ (k + l) := by rw [Nat.pow_succ, Nat.mul_comm]
  have nx := bn_small kx (by omega)
  have ny := bn_small ky (by omega)
  refine ⟨fun w => den_rat p w, fun w => den_rat q w, fun h w => ?_, fun h w => ?_, fun h w => ?_, fun h => ?_, fun w => ?_, fun w => ?_, fun w => ?_, fun he w => ?_, fun he hl w => ?_, fun he hl w => ?_⟩
  · have := mul_call (nm p) q.den k l w hp.1 hq.2 (by omega) (by omega)
    unfold adX; rw [if_neg h]; exact this
  · have := mul_call (nm q) p.den l k w hq.1 hp.2 (by omega) (by omega)
    unfold adY; rw [if_neg h]; exact this
  · have := mul_call p.den q.den k l w hp.2 hq.2 (by omega) (by omega)
    unfold adD; rw [if_neg h]; exact this
  · unfold adX adY adD; rw [if_pos h, if_pos h, if_pos h]; exact ⟨rfl, rfl, rfl⟩
  · have := add_any (bn (adX p q)) (bn (adY p q)) w nx ny
    rw [nv_bn, nv_bn] at this; exact this
  · have := subtractS_any (bn (adX p q)) (bn (adY p q)) w nx ny
    rw [nv_bn, nv_bn] at this; exact this
  · have := subtractS_any (bn (adY p q)) (bn (adX p q)) w ny nx
    rw [nv_bn, nv_bn] at this; exact this
  · have := red_call (rn p) (adX p q + adY p q) (adD p q) (k + l + 1) (k + l) w (by omega) kd (by omega) (by omega) d0
    rw [show fr (rn p) (adX p q + adY p q) (adD p q) = p + q by rw [ad_sum, ← he, sgn_add_same]; rfl] at this; exact this
  · have := red_call (rn p) (adX p q - adY p q) (adD p q) (k + l + 1) (k + l) w (by omega) kd (by omega) (by omega) d0
    rw [show fr (rn p) (adX p q - adY p q) (adD p q) = p + q by rw [ad_sum, sgn_add_diff he hl]; rfl] at this; exact this
  · have := red_call (rn q) (adY p q - adX p q) (adD p q) (k + l + 1) (k + l) w (by omega) kd (by omega) (by omega) d0
    rw [show fr (rn q) (adY p q - adX p q) (adD p q) = p + q by rw [ad_sum, Int.add_comm, sgn_add_diff (Ne.symm he) (by omega)]; rfl] at this; exact this

set_option maxRecDepth 100000 in
set_option maxHeartbeats 1600000 in
theorem plusR_any (p q : Rat) (k l : Nat) (w : World) (hp : Sm k p) (hq : Sm l q) (hkl : k + l + 1 ≤ 1073741824) :
    Calls Tryz.prog 63 #[.agg #[.bool (rn p), .string (rs p), .string (rd p)], .agg #[.bool (rn q), .string (rs q), .string (rd q)]] w fun e w' => e = .returned (.agg #[.bool (rn (p + q)), .string (rs (p + q)), .string (rd (p + q))]) ∧ Below w.heap.size w w' := by
  have HCC := addC_of p q k l hp hq hkl
  clear hp hq hkl
  generalize bn (adX p q + adY p q) = A at *
  generalize bn (adX p q) = X at *
  generalize bn (adY p q) = Y at *
  generalize bn (adD p q) = D at *
  generalize adX p q = x at *
  generalize adY p q = y at *
  generalize bn p.den = P1 at *
  generalize bn q.den = P2 at *
  generalize rn (p + q) = r1 at *
  generalize rs (p + q) = r2 at *
  generalize rd (p + q) = r3 at *
  generalize rn p = p1 at *
  generalize rs p = p2 at *
  generalize rd p = p3 at *
  generalize rn q = q1 at *
  generalize rs q = q2 at *
  generalize rd q = q3 at *
  have HD := Lib.hid HCC
  clear HCC
  go_enter Tryz.func63, Tryz.ntmps63
  go_wp2_with fail
  refine wp_forget (fun W => Blk W w.heap.size #[.bool p1, .string p2, .string p3] ∧ Blk W (w.heap.size + 1) #[.bool q1, .string q2, .string q3] ∧ Blk W (w.heap.size + 1 + 1) #[.bool false, .string ⟨#[]⟩, .string ⟨#[]⟩] ∧ Below w.heap.size w W) (three_boxes w _ _ _ _ _ _) ?_
  rintro W ⟨H1, H2, H3, HB⟩
  obtain ⟨k0, k1, k2⟩ := H1.later3
  obtain ⟨k3, k4, k5⟩ := H2.later3
  refine wp_region_qb (by kernel_rfl) (by kernel_rfl) ?_
  repeat (first | go_big_quiet_skip | (refine wpQuiet_step (fun K hK => ?_); go_simp; (try simp (disch := omega) only [ar9]); (first | (refine hK _ ?_; clear hK K) | (apply Exists.intro; refine ⟨fun _ => ?_, hK _ ?_⟩; (fail); clear hK K))))
  clear k0 k1 k2 k3 k4 k5
  refine wpQuiet_nil ?_
  intro W1 hb9
  have J1 := Lib.hid (H1.on hb9)
  have J2 := Lib.hid (H2.on hb9)
  have J3 := Lib.hid (H3.on hb9)
  have HB := Lib.hid (chain HB hb9 (Nat.le_refl _))
  clear hb9
  obtain ⟨a0, a1, a2, -, -, -⟩ := J1.out.get3
  obtain ⟨b0, b1, b2, -, -, -⟩ := J2.out.get3
  by_cases h3 : p3 = q3
  · subst h3
    obtain ⟨hX, hY, hD⟩ := HD.out.ex rfl
    subst hX hY hD
    go_wp2_with fail
    refine (HD.out.dp _).mono ?_; rintro e w3 ⟨rfl, hb9⟩
    clear a0 a1 a2 b0 b1 b2
    have J1 := Lib.hid (J1.out.on hb9)
    have J2 := Lib.hid (J2.out.on hb9)
    have J3 := Lib.hid (J3.out.on hb9)
    have HB := Lib.hid (chain HB.out hb9 (Nat.le_refl _))
    clear hb9
    obtain ⟨a0, a1, a2, -, -, -⟩ := J1.out.get3
    obtain ⟨b0, b1, b2, -, -, -⟩ := J2.out.get3
    by_cases hs : p1 = q1
    · subst hs
      have HS := Lib.hid (HD.out.same rfl)
      go_wp2_with fail
      clear a0 a1 a2 b0 b1 b2
      obtain ⟨k0, k1, k2⟩ := J1.out.later3
      obtain ⟨k3, k4, k5⟩ := J2.out.later3
      refine wp_region_qbt 7 (by kernel_rfl) (by kernel_rfl) ?_
      simp only [List.take_succ_cons, List.take_zero, List.drop_succ_cons, List.drop_zero]
      repeat (first | go_big_quiet_skip | (refine wpQuiet_step (fun K hK => ?_); go_simp; (try simp (disch := omega) only [ar9]); (first | (refine hK _ ?_; clear hK K) | (apply Exists.intro; refine ⟨fun _ => ?_, hK _ ?_⟩; (first | with_reducible exact Calls.later (HD.out.ad _) | with_reducible exact Calls.later (HS.out _)); clear hK K))))
      clear k0 k1 k2 k3 k4 k5
      refine wpQuiet_nil ?_
      intro W7 hb9
      have J1 := Lib.hid (J1.out.on hb9)
      have J2 := Lib.hid (J2.out.on hb9)
      have J3 := Lib.hid (J3.out.on hb9)
      have HB := Lib.hid (chain HB.out hb9 (Nat.le_refl _))
      clear hb9
      obtain ⟨c0, c1, c2, c3, c4, c5⟩ := J3.out.get3
      have H2 := J3
      go_wp2
      refine bodyPost_forget (fun W => Blk W (w.heap.size + 1 + 1) #[.bool r1, .string r2, .string r3] ∧ Below w.heap.size w W) ⟨by exact Blk.set3 H2.out _ _ _, below_set3 HB.out (by omega) _ _ _⟩ ?_
      rintro WR ⟨hr9, hb9⟩
      obtain ⟨y90, y91, y92, -, -, -⟩ := hr9.get3
      exact bodyPost_ret (v := .agg #[.bool r1, .string r2, .string r3]) (by simp [results, Tryz.results63, go_sem, y90, y91, y92]) rfl ⟨rfl, hb9⟩
    · have hs1 : (p1 == q1) = false := by simp [hs]
      by_cases hl : y ≤ x
      · have HS := Lib.hid (HD.out.more hs hl)
        have hsv := subV_yes hl
        go_wp2_with fail
        refine (HD.out.sb _).mono ?_; rintro e w7 ⟨he7, hb9⟩
        rw [hsv] at he7; subst he7
        clear a0 a1 a2 b0 b1 b2
        have J1 := Lib.hid (J1.out.on hb9)
        have J2 := Lib.hid (J2.out.on hb9)
        have J3 := Lib.hid (J3.out.on hb9)
        have HB := Lib.hid (chain HB.out hb9 (Nat.le_refl _))
        clear hb9
        obtain ⟨a0, a1, a2, -, -, -⟩ := J1.out.get3
        obtain ⟨b0, b1, b2, -, -, -⟩ := J2.out.get3
        go_wp2_with fail
        refine (HS.out _).mono ?_; rintro e w8 ⟨rfl, hb9⟩
        clear a0 a1 a2 b0 b1 b2
        have J1 := Lib.hid (J1.out.on hb9)
        have J2 := Lib.hid (J2.out.on hb9)
        have J3 := Lib.hid (J3.out.on hb9)
        have HB := Lib.hid (chain HB.out hb9 (Nat.le_refl _))
        clear hb9
        obtain ⟨c0, c1, c2, c3, c4, c5⟩ := J3.out.get3
        have H2 := J3
        go_wp2
        refine bodyPost_forget (fun W => Blk W (w.heap.size + 1 + 1) #[.bool r1, .string r2, .string r3] ∧ Below w.heap.size w W) ⟨by exact Blk.set3 H2.out _ _ _, below_set3 HB.out (by omega) _ _ _⟩ ?_
        rintro WR ⟨hr9, hb9⟩
        obtain ⟨y90, y91, y92, -, -, -⟩ := hr9.get3
        exact bodyPost_ret (v := .agg #[.bool r1, .string r2, .string r3]) (by simp [results, Tryz.results63, go_sem, y90, y91, y92]) rfl ⟨rfl, hb9⟩
      · have HS := Lib.hid (HD.out.less hs (by omega))
        have hsv := subV_no (show x < y by omega)
        have hsw := subV_yes (show x ≤ y by omega)
        go_wp2_with fail
        refine (HD.out.sb _).mono ?_; rintro e w7 ⟨he7, hb9⟩
        rw [hsv] at he7; subst he7
        clear a0 a1 a2 b0 b1 b2
        have J1 := Lib.hid (J1.out.on hb9)
        have J2 := Lib.hid (J2.out.on hb9)
        have J3 := Lib.hid (J3.out.on hb9)
        have HB := Lib.hid (chain HB.out hb9 (Nat.le_refl _))
        clear hb9
        go_wp2_with fail
        refine (HD.out.sc _).mono ?_; rintro e w8 ⟨he8, hb9⟩
        rw [hsw] at he8; subst he8
        have J1 := Lib.hid (J1.out.on hb9)
        have J2 := Lib.hid (J2.out.on hb9)
        have J3 := Lib.hid (J3.out.on hb9)
        have HB := Lib.hid (chain HB.out hb9 (Nat.le_refl _))
        clear hb9
        obtain ⟨a0, a1, a2, -, -, -⟩ := J1.out.get3
        obtain ⟨b0, b1, b2, -, -, -⟩ := J2.out.get3
        go_wp2_with fail
        refine (HS.out _).mono ?_; rintro e w9 ⟨rfl, hb9⟩
        clear a0 a1 a2 b0 b1 b2
        have J1 := Lib.hid (J1.out.on hb9)
        have J2 := Lib.hid (J2.out.on hb9)
        have J3 := Lib.hid (J3.out.on hb9)
        have HB := Lib.hid (chain HB.out hb9 (Nat.le_refl _))
        clear hb9
        obtain ⟨c0, c1, c2, c3, c4, c5⟩ := J3.out.get3
        have H2 := J3
        go_wp2
        refine bodyPost_forget (fun W => Blk W (w.heap.size + 1 + 1) #[.bool r1, .string r2, .string r3] ∧ Below w.heap.size w W) ⟨by exact Blk.set3 H2.out _ _ _, below_set3 HB.out (by omega) _ _ _⟩ ?_
        rintro WR ⟨hr9, hb9⟩
        obtain ⟨y90, y91, y92, -, -, -⟩ := hr9.get3
        exact bodyPost_ret (v := .agg #[.bool r1, .string r2, .string r3]) (by simp [results, Tryz.results63, go_sem, y90, y91, y92]) rfl ⟨rfl, hb9⟩
  · have hne : (p3.toList == q3.toList) = false := str_ne h3
    have MX := Lib.hid (HD.out.mx h3)
    have MY := Lib.hid (HD.out.my h3)
    have MD := Lib.hid (HD.out.md h3)
    go_wp2_with fail
    clear a0 a1 a2 b0 b1 b2
    obtain ⟨k0, k1, k2⟩ := J1.out.later3
    obtain ⟨k3, k4, k5⟩ := J2.out.later3
    refine wp_region_qb (by kernel_rfl) (by kernel_rfl) ?_
    repeat (first | go_big_quiet_skip | (refine wpQuiet_step (fun K hK => ?_); go_simp; (try simp (disch := omega) only [ar9]); (first | (refine hK _ ?_; clear hK K) | (apply Exists.intro; refine ⟨fun _ => ?_, hK _ ?_⟩; (first | with_reducible exact Calls.later (HD.out.dp _) | with_reducible exact Calls.later (HD.out.dq _) | with_reducible exact Calls.later (MX.out _) | with_reducible exact Calls.later (MY.out _)); clear hK K))))
    clear k0 k1 k2 k3 k4 k5
    refine wpQuiet_nil ?_
    intro W2 hb9
    have J1 := Lib.hid (J1.out.on hb9)
    have J2 := Lib.hid (J2.out.on hb9)
    have J3 := Lib.hid (J3.out.on hb9)
    have HB := Lib.hid (chain HB.out hb9 (Nat.le_refl _))
    clear hb9
    go_wp2_with fail
    obtain ⟨k0, k1, k2⟩ := J1.out.later3
    obtain ⟨k3, k4, k5⟩ := J2.out.later3
    refine wp_region_qb (by kernel_rfl) (by kernel_rfl) ?_
    repeat (first | go_big_quiet_skip | (refine wpQuiet_step (fun K hK => ?_); go_simp; (try simp (disch := omega) only [ar9]); (first | (refine hK _ ?_; clear hK K) | (apply Exists.intro; refine ⟨fun _ => ?_, hK _ ?_⟩; (first | with_reducible exact Calls.later (HD.out.dp _) | with_reducible exact Calls.later (HD.out.dq _) | with_reducible exact Calls.later (MD.out _)); clear hK K))))
    clear k0 k1 k2 k3 k4 k5
    refine wpQuiet_nil ?_
    intro W3 hb9
    have J1 := Lib.hid (J1.out.on hb9)
    have J2 := Lib.hid (J2.out.on hb9)
    have J3 := Lib.hid (J3.out.on hb9)
    have HB := Lib.hid (chain HB.out hb9 (Nat.le_refl _))
    clear hb9
    obtain ⟨a0, a1, a2, -, -, -⟩ := J1.out.get3
    obtain ⟨b0, b1, b2, -, -, -⟩ := J2.out.get3
    by_cases hs : p1 = q1
    · subst hs
      have HS := Lib.hid (HD.out.same rfl)
      go_wp2_with fail
      clear a0 a1 a2 b0 b1 b2
      obtain ⟨k0, k1, k2⟩ := J1.out.later3
      obtain ⟨k3, k4, k5⟩ := J2.out.later3
      refine wp_region_qbt 7 (by kernel_rfl) (by kernel_rfl) ?_
      simp only [List.take_succ_cons, List.take_zero, List.drop_succ_cons, List.drop_zero]
      repeat (first | go_big_quiet_skip | (refine wpQuiet_step (fun K hK => ?_); go_simp; (try simp (disch := omega) only [ar9]); (first | (refine hK _ ?_; clear hK K) | (apply Exists.intro; refine ⟨fun _ => ?_, hK _ ?_⟩; (first | with_reducible exact Calls.later (HD.out.ad _) | with_reducible exact Calls.later (HS.out _)); clear hK K))))
      clear k0 k1 k2 k3 k4 k5
      refine wpQuiet_nil ?_
      intro W7 hb9
      have J1 := Lib.hid (J1.out.on hb9)
      have J2 := Lib.hid (J2.out.on hb9)
      have J3 := Lib.hid (J3.out.on hb9)
      have HB := Lib.hid (chain HB.out hb9 (Nat.le_refl _))
      clear hb9
      obtain ⟨c0, c1, c2, c3, c4, c5⟩ := J3.out.get3
      have H2 := J3
      go_wp2
      refine bodyPost_forget (fun W => Blk W (w.heap.size + 1 + 1) #[.bool r1, .string r2, .string r3] ∧ Below w.heap.size w W) ⟨by exact Blk.set3 H2.out _ _ _, below_set3 HB.out (by omega) _ _ _⟩ ?_
      rintro WR ⟨hr9, hb9⟩
      obtain ⟨y90, y91, y92, -, -, -⟩ := hr9.get3
      exact bodyPost_ret (v := .agg #[.bool r1, .string r2, .string r3]) (by simp [results, Tryz.results63, go_sem, y90, y91, y92]) rfl ⟨rfl, hb9⟩
    · have hs1 : (p1 == q1) = false := by simp [hs]
      by_cases hl : y ≤ x
      · have HS := Lib.hid (HD.out.more hs hl)
        have hsv := subV_yes hl
        go_wp2_with fail
        refine (HD.out.sb _).mono ?_; rintro e w7 ⟨he7, hb9⟩
        rw [hsv] at he7; subst he7
        clear a0 a1 a2 b0 b1 b2
        have J1 := Lib.hid (J1.out.on hb9)
        have J2 := Lib.hid (J2.out.on hb9)
        have J3 := Lib.hid (J3.out.on hb9)
        have HB := Lib.hid (chain HB.out hb9 (Nat.le_refl _))
        clear hb9
        obtain ⟨a0, a1, a2, -, -, -⟩ := J1.out.get3
        obtain ⟨b0, b1, b2, -, -, -⟩ := J2.out.get3
        go_wp2_with fail
        refine (HS.out _).mono ?_; rintro e w8 ⟨rfl, hb9⟩
        clear a0 a1 a2 b0 b1 b2
        have J1 := Lib.hid (J1.out.on hb9)
        have J2 := Lib.hid (J2.out.on hb9)
        have J3 := Lib.hid (J3.out.on hb9)
        have HB := Lib.hid (chain HB.out hb9 (Nat.le_refl _))
        clear hb9
        obtain ⟨c0, c1, c2, c3, c4, c5⟩ := J3.out.get3
        have H2 := J3
        go_wp2
        refine bodyPost_forget (fun W => Blk W (w.heap.size + 1 + 1) #[.bool r1, .string r2, .string r3] ∧ Below w.heap.size w W) ⟨by exact Blk.set3 H2.out _ _ _, below_set3 HB.out (by omega) _ _ _⟩ ?_
        rintro WR ⟨hr9, hb9⟩
        obtain ⟨y90, y91, y92, -, -, -⟩ := hr9.get3
        exact bodyPost_ret (v := .agg #[.bool r1, .string r2, .string r3]) (by simp [results, Tryz.results63, go_sem, y90, y91, y92]) rfl ⟨rfl, hb9⟩
      · have HS := Lib.hid (HD.out.less hs (by omega))
        have hsv := subV_no (show x < y by omega)
        have hsw := subV_yes (show x ≤ y by omega)
        go_wp2_with fail
        refine (HD.out.sb _).mono ?_; rintro e w7 ⟨he7, hb9⟩
        rw [hsv] at he7; subst he7
        clear a0 a1 a2 b0 b1 b2
        have J1 := Lib.hid (J1.out.on hb9)
        have J2 := Lib.hid (J2.out.on hb9)
        have J3 := Lib.hid (J3.out.on hb9)
        have HB := Lib.hid (chain HB.out hb9 (Nat.le_refl _))
        clear hb9
        go_wp2_with fail
        refine (HD.out.sc _).mono ?_; rintro e w8 ⟨he8, hb9⟩
        rw [hsw] at he8; subst he8
        have J1 := Lib.hid (J1.out.on hb9)
        have J2 := Lib.hid (J2.out.on hb9)
        have J3 := Lib.hid (J3.out.on hb9)
        have HB := Lib.hid (chain HB.out hb9 (Nat.le_refl _))
        clear hb9
        obtain ⟨a0, a1, a2, -, -, -⟩ := J1.out.get3
        obtain ⟨b0, b1, b2, -, -, -⟩ := J2.out.get3
        go_wp2_with fail
        refine (HS.out _).mono ?_; rintro e w9 ⟨rfl, hb9⟩
        clear a0 a1 a2 b0 b1 b2
        have J1 := Lib.hid (J1.out.on hb9)
        have J2 := Lib.hid (J2.out.on hb9)
        have J3 := Lib.hid (J3.out.on hb9)
        have HB := Lib.hid (chain HB.out hb9 (Nat.le_refl _))
        clear hb9
        obtain ⟨c0, c1, c2, c3, c4, c5⟩ := J3.out.get3
        have H2 := J3
        go_wp2
        refine bodyPost_forget (fun W => Blk W (w.heap.size + 1 + 1) #[.bool r1, .string r2, .string r3] ∧ Below w.heap.size w W) ⟨by exact Blk.set3 H2.out _ _ _, below_set3 HB.out (by omega) _ _ _⟩ ?_
        rintro WR ⟨hr9, hb9⟩
        obtain ⟨y90, y91, y92, -, -, -⟩ := hr9.get3
        exact bodyPost_ret (v := .agg #[.bool r1, .string r2, .string r3]) (by simp [results, Tryz.results63, go_sem, y90, y91, y92]) rfl ⟨rfl, hb9⟩

set_option maxRecDepth 100000 in
set_option maxHeartbeats 400000 in
theorem add_rat (n1 : Bool) (s1 d1 : ByteArray) (n2 : Bool) (s2 d2 : ByteArray) (w : World) (h1 : s1.size + d1.size ≤ 268435456) (h2 : s2.size + d2.size ≤ 268435456) :
    Calls Tryz.prog 56 #[.agg #[.bool n1, .string s1, .string d1], .agg #[.bool n2, .string s2, .string d2]] w fun e w' => e = .returned (rv (rq n1 s1 d1 + rq n2 s2 d2)) ∧ Below w.heap.size w w' := by
  have HC1 := Lib.hid (fun w => clean_agg n1 s1 d1 w (by omega) (by omega))
  have HC2 := Lib.hid (fun w => clean_agg n2 s2 d2 w (by omega) (by omega))
  have HCC := Lib.hid (fun w => plusR_any (rq n1 s1 d1) (rq n2 s2 d2) _ _ w (sm_raw n1 s1 d1) (sm_raw n2 s2 d2) (by omega))
  generalize rq n1 s1 d1 = p at *
  generalize rq n2 s2 d2 = q at *
  unfold rv
  generalize rn (p + q) = r1 at *
  generalize rs (p + q) = r2 at *
  generalize rd (p + q) = r3 at *
  generalize rn p = p1 at *
  generalize rs p = p2 at *
  generalize rd p = p3 at *
  generalize rn q = q1 at *
  generalize rs q = q2 at *
  generalize rd q = q3 at *
  go_enter Tryz.func56, Tryz.ntmps56
  go_wp2_with fail
  refine wp_forget (fun W => Blk W w.heap.size #[.bool n1, .string s1, .string d1] ∧ Blk W (w.heap.size + 1) #[.bool n2, .string s2, .string d2] ∧ Blk W (w.heap.size + 1 + 1) #[.bool false, .string ⟨#[]⟩, .string ⟨#[]⟩] ∧ Below w.heap.size w W) (three_boxes w _ _ _ _ _ _) ?_
  rintro W ⟨H1, H2, H3, HB⟩
  obtain ⟨k0, k1, k2⟩ := H1.later3
  obtain ⟨k3, k4, k5⟩ := H2.later3
  refine wp_region_qbt 5 (by kernel_rfl) (by kernel_rfl) ?_
  simp only [List.take_succ_cons, List.take_zero, List.drop_succ_cons, List.drop_zero]
  repeat (first | go_big_quiet_skip | (refine wpQuiet_step (fun K hK => ?_); go_simp; (try simp (disch := omega) only [ar9]); (first | (refine hK _ ?_; clear hK K) | (apply Exists.intro; refine ⟨fun _ => ?_, hK _ ?_⟩; (first | with_reducible exact Calls.later (HC1.out _) | with_reducible exact Calls.later (HC2.out _) | with_reducible exact Calls.later (HCC.out _)); clear hK K))))
  clear k0 k1 k2 k3 k4 k5
  refine wpQuiet_nil ?_
  intro W5 hb5
  have H2 := Lib.hid (H3.on hb5)
  have HB := Lib.hid (chain HB hb5 (Nat.le_refl _))
  obtain ⟨a0, a1, a2, a3, a4, a5⟩ := H2.out.get3
  clear hb5 H3 H1
  go_wp2
  refine bodyPost_forget (fun W => Blk W (w.heap.size + 1 + 1) #[.bool r1, .string r2, .string r3] ∧ Below w.heap.size w W) ⟨by exact Blk.set3 H2.out _ _ _, below_set3 HB.out (by omega) _ _ _⟩ ?_
  rintro WR ⟨hr9, hb9⟩
  obtain ⟨y90, y91, y92, -, -, -⟩ := hr9.get3
  exact bodyPost_ret (v := .agg #[.bool r1, .string r2, .string r3]) (by simp [results, Tryz.results56, go_sem, y90, y91, y92]) rfl ⟨rfl, hb9⟩

end Go.Proofs.Ins
