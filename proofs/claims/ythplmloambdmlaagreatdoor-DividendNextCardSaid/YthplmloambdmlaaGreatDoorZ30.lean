/- The walk of insolvencylaw23.DividendNext. -/
import Derived.Test.YthplmloambdmlaaGreatDoorZ24
import Derived.Test.YthplmloambdmlaaGreatDoorZ14
import Derived.Test.YthplmloambdmlaaGreatDoorZ29
import Derived.Test.YthplmloambdmlaaGreatDoorZ17

set_option linter.unusedSimpArgs false
set_option linter.unusedVariables false
namespace Go.Proofs.Ex
open Go.RowKit Go.Proofs.Ins

def okFB (P : Program) (f : Nat) : Bool := match P.funcs[f]? with | some fn => !fn.body.isNone && !(fn.name == "runtime.NumGoroutine") | none => false
theorem okF_of {P : Program} {f : Nat} (h : okFB P f = true) : okF P f := by
  unfold okFB at h
  split at h
  · next fn hfn =>
    simp only [Bool.and_eq_true, Bool.not_eq_true'] at h
    exact ⟨fn, hfn, h.1, h.2⟩
  · cases h
/-- A contract, in the executor's words. -/
def Ct (P : Program) (f : Nat) (v : V) (cargs : Array Value) (w : World) : Prop :=
  Calls P f cargs w fun e w' => ∃ cv, e = .returned cv ∧ Below w.heap.size w w' ∧ ∀ φ', RV φ' v cv
theorem Ct.of {P : Program} {f : Nat} {v : V} {cargs : Array Value} {w : World} {cv : Value} (h : Calls P f cargs w fun e w' => e = .returned cv ∧ Below w.heap.size w w') (hv : ∀ φ', RV φ' v cv) : Ct P f v cargs w :=
  Calls.mono h fun _ _ he => ⟨cv, he.1, he.2, hv⟩
variable {φ : Ph} {args : List V} {v : V} {cargs : Array Value} {P : Program}
theorem one_arg {x : V} (h : RVs φ [x] cargs.toList) : ∃ u, cargs = #[u] ∧ RV φ x u := by
  obtain ⟨l⟩ := cargs
  match l, h with
  | [u], h => exact ⟨u, rfl, h.1⟩
theorem two_args {x y : V} (h : RVs φ [x, y] cargs.toList) : ∃ u v, cargs = #[u, v] ∧ RV φ x u ∧ RV φ y v := by
  obtain ⟨l⟩ := cargs
  match l, h with
  | [u, v], h => exact ⟨u, v, rfl, h.1, h.2.1⟩
theorem three_args {x y z : V} (h : RVs φ [x, y, z] cargs.toList) : ∃ u v t, cargs = #[u, v, t] ∧ RV φ x u ∧ RV φ y v ∧ RV φ z t := by
  obtain ⟨l⟩ := cargs
  match l, h with
  | [u, v, t], h => exact ⟨u, v, t, rfl, h.1, h.2.1, h.2.2.1⟩
theorem rat_val {n : Bool} {s d : Nat} {cv : Value} (h : RV φ (.agg [.bool n, .nat s, .nat d]) cv) : cv = .agg #[.bool n, .string (bn s), .string (bn d)] := by
  obtain ⟨r, e, hr⟩ := h
  obtain ⟨l⟩ := r
  match l, hr with
  | [a, b, c], ⟨h1, h2, h3, _⟩ =>
    simp only [RB] at h1 h2 h3
    rw [e, h1, h2, h3]
theorem ratV_RV {n : Bool} {s d : Nat} (h : okT n s d = true) (φ : Ph) : RV φ (ratV n s d) (rv (rq n (bn s) (bn d))) := by
  rw [okT_rv h]
  exact ⟨_, rfl, rfl, rfl, rfl, trivial⟩
theorem iV_RV (i : Int) (φ : Ph) : RV φ (iV i) (.int .i64 i) := by
  unfold iV
  split <;> rfl
theorem cRat1_ok {f : Nat} {g : Bool → Nat → Nat → V} {R : Rat → Value} (hc : ∀ n s d w, (bn s).size ≤ 250 → (bn d).size ≤ 250 → okT n s d = true → Calls P f #[.agg #[.bool n, .string (bn s), .string (bn d)]] w fun e w' => e = .returned (R (rq n (bn s) (bn d))) ∧ Below w.heap.size w w')
    (hg : ∀ n s d, okT n s d = true → ∀ φ, RV φ (g n s d) (R (rq n (bn s) (bn d)))) (h : cRat1 g args = some v) (ha : RVs φ args cargs.toList) (w : World) : Ct P f v cargs w := by
  unfold cRat1 at h
  split at h
  · next n s d =>
    cases hb : okT n s d with
    | false => rw [hb] at h; cases h
    | true =>
      rw [hb] at h
      cases h
      obtain ⟨u, rfl, hu⟩ := one_arg ha
      rw [rat_val hu]
      obtain ⟨-, h1, h2, -⟩ := okT_spec hb
      exact .of (hc n s d w h1 h2 hb) (hg n s d hb)
  · cases h
theorem cRat2_ok {f : Nat} {g : Bool → Nat → Nat → Bool → Nat → Nat → V} {R : Rat → Rat → Value}
    (hc : ∀ n1 s1 d1 n2 s2 d2 w, (bn s1).size ≤ 250 → (bn d1).size ≤ 250 → (bn s2).size ≤ 250 → (bn d2).size ≤ 250 → okT n1 s1 d1 = true → okT n2 s2 d2 = true → Calls P f #[.agg #[.bool n1, .string (bn s1), .string (bn d1)], .agg #[.bool n2, .string (bn s2), .string (bn d2)]] w fun e w' =>
      e = .returned (R (rq n1 (bn s1) (bn d1)) (rq n2 (bn s2) (bn d2))) ∧ Below w.heap.size w w')
    (hg : ∀ n1 s1 d1 n2 s2 d2, okT n1 s1 d1 = true → okT n2 s2 d2 = true → ∀ φ, RV φ (g n1 s1 d1 n2 s2 d2) (R (rq n1 (bn s1) (bn d1)) (rq n2 (bn s2) (bn d2)))) (h : cRat2 g args = some v) (ha : RVs φ args cargs.toList) (w : World) : Ct P f v cargs w := by
  unfold cRat2 at h
  split at h
  · next n1 s1 d1 n2 s2 d2 =>
    cases hb : (okT n1 s1 d1 && okT n2 s2 d2) with
    | false => rw [hb] at h; cases h
    | true =>
      rw [hb] at h
      cases h
      rw [Bool.and_eq_true] at hb
      obtain ⟨u, v, rfl, hu, hv⟩ := two_args ha
      rw [rat_val hu, rat_val hv]
      obtain ⟨-, h1, h2, -⟩ := okT_spec hb.1
      obtain ⟨-, h3, h4, -⟩ := okT_spec hb.2
      exact .of (hc n1 s1 d1 n2 s2 d2 w h1 h2 h3 h4 hb.1 hb.2) (hg n1 s1 d1 n2 s2 d2 hb.1 hb.2)
  · cases h
theorem cNat2_ok {f : Nat} {g : Nat → Nat → V} {R : Nat → Nat → Value} (hc : ∀ a b w, (bn a).size ≤ 250 → (bn b).size ≤ 250 → Calls P f #[.string (bn a), .string (bn b)] w fun e w' => e = .returned (R a b) ∧ Below w.heap.size w w')
    (hg : ∀ a b φ, RV φ (g a b) (R a b)) (h : cNat2 g args = some v) (ha : RVs φ args cargs.toList) (w : World) : Ct P f v cargs w := by
  unfold cNat2 at h
  split at h
  · next a b =>
    cases hb : (sm a && sm b) with
    | false => rw [hb] at h; cases h
    | true =>
      rw [hb] at h
      cases h
      rw [Bool.and_eq_true] at hb
      obtain ⟨u, v, rfl, hu, hv⟩ := two_args ha
      have hu : u = .string (bn a) := hu
      have hv : v = .string (bn b) := hv
      rw [hu, hv]
      exact .of (hc a b w (sm_size hb.1) (sm_size hb.2)) (hg a b)
  · cases h
theorem natV_RV (n : Nat) (φ : Ph) : RV φ (natV n) (.string (bn n)) := by
  unfold natV
  rw [fN_eq]
  rfl
theorem subN_RV (a b : Nat) (φ : Ph) : RV φ (subN a b) (subV a b) := by
  unfold subN
  cases h : Nat.blt a b with
  | true =>
    rw [subV_no (Nat.le_of_ble_eq_true h)]
    exact ⟨_, [.bool false], rfl, rfl, .bool false, [], rfl, rfl, rfl⟩
  | false =>
    rw [subV_yes (by
      refine Nat.le_of_not_lt fun e => ?_
      rw [show Nat.blt a b = true from Nat.ble_eq_true_of_le e] at h
      cases h), cond_false, fN_eq]
    exact ⟨_, [.bool true], rfl, rfl, .bool true, [], rfl, rfl, rfl⟩
theorem ite_some {c : Prop} [Decidable c] {x y : Option V} {v : V} (h : (if c then x else y) = some v) : (c ∧ x = some v) ∨ (¬ c ∧ y = some v) := by
  by_cases hc : c
  · rw [if_pos hc] at h; exact .inl ⟨hc, h⟩
  · rw [if_neg hc] at h; exact .inr ⟨hc, h⟩
theorem okT_sm {n : Bool} {s d : Nat} (h : okT n s d = true) : Sm 250 (rq n (bn s) (bn d)) := by
  obtain ⟨-, f2, f3, -⟩ := okT_f h
  unfold okT at h
  simp only [Bool.and_eq_true] at h
  refine ⟨by rw [f2]; exact sm_lt h.1, ?_⟩
  rw [f3]
  unfold dD
  rw [bif_beq]
  split
  · exact Nat.one_lt_pow (by omega) (by omega)
  · exact sm_lt h.2.1

set_option maxRecDepth 100000 in
set_option maxHeartbeats 8000000 in
theorem ctr_ok (f : Nat) (args : List V) (v : V) (h : ctr f args = some v) : okF Tryz.prog f ∧ ∀ (φ : Ph) (cargs : Array Value) (w : World), RVs φ args cargs.toList → Ct Tryz.prog f v cargs w := by
  unfold ctr at h
  replace h := ite_some h
  rcases h with ⟨e, h⟩ | ⟨-, h⟩
  · subst e
    exact ⟨okF_of (by kernel_rfl), fun φ cargs w ha => cRat2_ok (R := fun p q => rv (p + q)) (fun n1 s1 d1 n2 s2 d2 w h1 h2 h3 h4 _ _ => add_rat n1 (bn s1) (bn d1) n2 (bn s2) (bn d2) w (by omega) (by omega)) (fun n1 s1 d1 n2 s2 d2 k1 k2 φ => addT_RV k1 k2 φ) h ha w⟩
  replace h := ite_some h
  rcases h with ⟨e, h⟩ | ⟨-, h⟩
  · subst e
    exact ⟨okF_of (by kernel_rfl), fun φ cargs w ha => cRat2_ok (R := fun p q => .int .i64 (cmpR p q)) (fun n1 s1 d1 n2 s2 d2 w h1 h2 h3 h4 _ _ => compare_rat n1 (bn s1) (bn d1) n2 (bn s2) (bn d2) w (by omega) (by omega)) (fun n1 s1 d1 n2 s2 d2 k1 k2 φ => by rw [cmpT_eq k1 k2]; exact iV_RV _ φ) h ha w⟩
  replace h := ite_some h
  rcases h with ⟨e, h⟩ | ⟨-, h⟩
  · subst e
    exact ⟨okF_of (by kernel_rfl), fun φ cargs w ha => cRat2_ok (R := fun p q => rv (p * q)) (fun n1 s1 d1 n2 s2 d2 w h1 h2 h3 h4 _ _ => multiply_rat n1 (bn s1) (bn d1) n2 (bn s2) (bn d2) w (by omega) (by omega)) (fun n1 s1 d1 n2 s2 d2 k1 k2 φ => mulT_RV k1 k2 φ) h ha w⟩
  replace h := ite_some h
  rcases h with ⟨e, h⟩ | ⟨-, h⟩
  · subst e
    exact ⟨okF_of (by kernel_rfl), fun φ cargs w ha => cRat2_ok (R := fun p q => rvB (divR p q) (okR q)) (fun n1 s1 d1 n2 s2 d2 w h1 h2 h3 h4 _ _ => divide_rat n1 (bn s1) (bn d1) n2 (bn s2) (bn d2) w (by omega) (by omega)) (fun n1 s1 d1 n2 s2 d2 k1 k2 φ => divT_RV k1 k2 φ) h ha w⟩
  replace h := ite_some h
  rcases h with ⟨e, h⟩ | ⟨-, h⟩
  · subst e
    exact ⟨okF_of (by kernel_rfl), fun φ cargs w ha => cRat1_ok (R := fun p => .int .i64 (sg p)) (fun n s d w h1 h2 _ => sign_rat n (bn s) (bn d) w (by omega) (by omega)) (fun n s d k φ => by rw [signT_eq k]; exact iV_RV _ φ) h ha w⟩
  replace h := ite_some h
  rcases h with ⟨e, h⟩ | ⟨-, h⟩
  · subst e
    refine ⟨okF_of (by kernel_rfl), fun φ cargs w ha => cRat2_ok (R := fun p q => rv (minR p q)) (fun n1 s1 d1 n2 s2 d2 w h1 h2 h3 h4 _ _ => min_rat n1 (bn s1) (bn d1) n2 (bn s2) (bn d2) w (by omega) (by omega)) (fun n1 s1 d1 n2 s2 d2 k1 k2 φ => ?_) h ha w⟩
    unfold minR
    rw [cmpT_eq k1 k2]
    by_cases hc : cmpT n1 s1 d1 n2 s2 d2 ≤ 0
    · rw [decide_eq_true hc, if_pos hc]; exact ratV_RV k1 φ
    · rw [decide_eq_false hc, if_neg hc]; exact ratV_RV k2 φ
  replace h := ite_some h
  rcases h with ⟨e, h⟩ | ⟨-, h⟩
  · subst e
    refine ⟨okF_of (by kernel_rfl), fun φ cargs w ha => cRat2_ok (R := fun p q => rv (maxR p q)) (fun n1 s1 d1 n2 s2 d2 w h1 h2 h3 h4 _ _ => max_rat n1 (bn s1) (bn d1) n2 (bn s2) (bn d2) w (by omega) (by omega)) (fun n1 s1 d1 n2 s2 d2 k1 k2 φ => ?_) h ha w⟩
    unfold maxR
    rw [cmpT_eq k1 k2]
    by_cases hc : 0 ≤ cmpT n1 s1 d1 n2 s2 d2
    · rw [decide_eq_true hc, if_pos hc]; exact ratV_RV k1 φ
    · rw [decide_eq_false hc, if_neg hc]; exact ratV_RV k2 φ
  replace h := ite_some h
  rcases h with ⟨e, h⟩ | ⟨-, h⟩
  · subst e
    exact ⟨okF_of (by kernel_rfl), fun φ cargs w ha => cRat1_ok (R := rv) (fun n s d w h1 h2 _ => clean_any n (bn s) (bn d) w (by omega) (by omega)) (fun n s d k φ => ratV_RV k φ) h ha w⟩
  replace h := ite_some h
  rcases h with ⟨e, h⟩ | ⟨-, h⟩
  · subst e
    refine ⟨okF_of (by kernel_rfl), fun φ cargs w ha => cRat2_ok (R := fun p q => rv (p + q)) (fun n1 s1 d1 n2 s2 d2 w h1 h2 h3 h4 k1 k2 => ?_) (fun n1 s1 d1 n2 s2 d2 k1 k2 φ => addT_RV k1 k2 φ) h ha w⟩
    have := plusR_any (rq n1 (bn s1) (bn d1)) (rq n2 (bn s2) (bn d2)) 250 250 w (okT_sm k1) (okT_sm k2) (by omega)
    obtain ⟨a1, -, -, a2, a3⟩ := okT_f k1
    obtain ⟨b1, -, -, b2, b3⟩ := okT_f k2
    rw [a1, a2, a3, b1, b2, b3] at this
    exact this
  replace h := ite_some h
  rcases h with ⟨e, h⟩ | ⟨-, h⟩
  · subst e
    refine ⟨okF_of (by kernel_rfl), fun φ cargs w ha => cRat1_ok (g := fun _ _ _ => .c (.bool true)) (R := fun _ => .bool true) (fun n s d w h1 h2 k => ?_) (fun n s d k φ => rfl) h ha w⟩
    have := valid_any n (bn s) (bn d) w (by omega) (by omega)
    rwa [vldB_true (okT_spec k).1] at this
  replace h := ite_some h
  rcases h with ⟨e, h⟩ | ⟨-, h⟩
  · subst e
    refine ⟨okF_of (by kernel_rfl), fun φ cargs w ha => ?_⟩
    unfold cInt at h
    split at h
    · next i =>
      cases hb : inR .i64 i with
      | false => rw [hb] at h; cases h
      | true =>
        rw [hb] at h
        cases h
        obtain ⟨u, rfl, hu⟩ := one_arg ha
        have hu : u = .int .i64 i := hu
        rw [hu]
        have hr : -9223372036854775808 ≤ i ∧ i ≤ 9223372036854775807 := by
          cases i with
          | ofNat m => have := Nat.le_of_ble_eq_true hb; simp only [Int.ofNat_eq_natCast]; omega
          | negSucc m => have := Nat.le_of_ble_eq_true hb; omega
        exact .of (int_any i w hr.1 hr.2) (intT_RV i)
    · cases h
  replace h := ite_some h
  rcases h with ⟨e, h⟩ | ⟨-, h⟩
  · subst e
    refine ⟨okF_of (by kernel_rfl), fun φ cargs w ha => ?_⟩
    unfold cMake at h
    split at h
    · next n a b =>
      cases hb : (sm a && sm b) with
      | false => rw [hb] at h; cases h
      | true =>
        rw [hb] at h
        rw [Bool.and_eq_true] at hb
        simp only [cond_true, Option.some.injEq] at h
        obtain ⟨u, x, t, rfl, hu, hx, ht⟩ := three_args ha
        have hu : u = .bool n := hu
        have hx : x = .string (bn a) := hx
        have ht : t = .string (bn b) := ht
        rw [hu, hx, ht]
        have s1 := sm_size hb.1
        have s2 := sm_size hb.2
        rw [bif_beq] at h
        by_cases h0 : b = 0
        · rw [if_pos h0] at h
          rw [← h]
          exact .of (make_no n _ _ w (by omega) (by rw [nv_bn]; exact h0)) (fun φ => withB_RV (zero_RV φ))
        · rw [if_neg h0] at h
          rw [← h]
          have := make_yes n (bn a) (bn b) w (by omega) (by omega) (by rw [nv_bn]; omega)
          rw [nv_bn, nv_bn] at this
          exact .of this (fun φ => withB_RV (enc_RV (by omega) φ))
    · cases h
  replace h := ite_some h
  rcases h with ⟨e, h⟩ | ⟨-, h⟩
  · subst e
    refine ⟨okF_of (by kernel_rfl), fun φ cargs w ha => ?_⟩
    unfold cFrom at h
    split at h
    · next u =>
      cases hb : Nat.blt u 18446744073709551616 with
      | false => rw [hb] at h; cases h
      | true =>
        rw [hb] at h
        cases h
        obtain ⟨x, rfl, hx⟩ := one_arg ha
        have hx : x = .int .u64 (u : Int) := hx
        rw [hx]
        exact .of (fromUint_any u w (Nat.le_of_ble_eq_true hb)) (fun φ => rfl)
    · cases h
  replace h := ite_some h
  rcases h with ⟨e, h⟩ | ⟨-, h⟩
  · subst e
    refine ⟨okF_of (by kernel_rfl), fun φ cargs w ha => cNat2_ok (R := fun a b => .string (bn (a + b))) (fun a b w h1 h2 => ?_) (fun a b φ => natV_RV _ φ) h ha w⟩
    have := add_any (bn a) (bn b) w (by omega) (by omega)
    rwa [nv_bn, nv_bn] at this
  replace h := ite_some h
  rcases h with ⟨e, h⟩ | ⟨-, h⟩
  · subst e
    refine ⟨okF_of (by kernel_rfl), fun φ cargs w ha => cNat2_ok (R := subV) (fun a b w h1 h2 => ?_) (fun a b φ => subN_RV a b φ) h ha w⟩
    have := subtractS_any (bn a) (bn b) w (by omega) (by omega)
    rwa [nv_bn, nv_bn] at this
  replace h := ite_some h
  rcases h with ⟨e, h⟩ | ⟨-, h⟩
  · subst e
    refine ⟨okF_of (by kernel_rfl), fun φ cargs w ha => cNat2_ok (R := fun a b => .string (bn (a * b))) (fun a b w h1 h2 => ?_) (fun a b φ => natV_RV _ φ) h ha w⟩
    have := multiply_any (bn a) (bn b) w (by omega) (by omega)
    rwa [nv_bn, nv_bn] at this
  replace h := ite_some h
  rcases h with ⟨e, h⟩ | ⟨-, h⟩
  · subst e
    refine ⟨okF_of (by kernel_rfl), fun φ cargs w ha => cNat2_ok (R := fun a b => .string (bn (Nat.gcd a b))) (fun a b w h1 h2 => ?_) (fun a b φ => natV_RV _ φ) h ha w⟩
    have := gcd_any (bn a) (bn b) w (by omega) (by omega)
    rwa [nv_bn, nv_bn] at this
  replace h := ite_some h
  rcases h with ⟨e, h⟩ | ⟨-, h⟩
  · subst e
    refine ⟨okF_of (by kernel_rfl), fun φ cargs w ha => ?_⟩
    unfold cDivN at h
    split at h
    · next a b =>
      cases hb : (sm a && (sm b && !Nat.beq b 0)) with
      | false => rw [hb] at h; cases h
      | true =>
        rw [hb] at h
        cases h
        simp only [Bool.and_eq_true, Bool.not_eq_true'] at hb
        obtain ⟨u, x, rfl, hu, hx⟩ := two_args ha
        have hu : u = .string (bn a) := hu
        have hx : x = .string (bn b) := hx
        rw [hu, hx]
        have s1 := sm_size hb.1
        have s2 := sm_size hb.2.1
        have h0 : 0 < b := Nat.pos_of_ne_zero fun e => by rw [e] at hb; exact absurd hb.2.2 (by decide)
        have := divideS_any (bn a) (bn b) w (by omega) (by omega) (by rw [nv_bn]; exact h0)
        rw [nv_bn, nv_bn] at this
        refine .of this fun φ => ?_
        simp only [fN_eq]
        exact ⟨_, [.string (bn (a % b)), .bool true], rfl, rfl, _, [.bool true], rfl, rfl, .bool true, [], rfl, rfl, rfl⟩
    · cases h
  replace h := ite_some h
  rcases h with ⟨e, h⟩ | ⟨-, h⟩
  · subst e
    refine ⟨okF_of (by kernel_rfl), fun φ cargs w ha => ?_⟩
    unfold cInt at h
    split at h
    · next i =>
      cases hb : inR .i64 i with
      | false => rw [hb] at h; cases h
      | true =>
        rw [hb] at h
        cases h
        obtain ⟨u, rfl, hu⟩ := one_arg ha
        have hu : u = .int .i64 i := hu
        rw [hu]
        have hr : -9223372036854775808 ≤ i ∧ i ≤ 9223372036854775807 := by
          cases i with
          | ofNat m => have := Nat.le_of_ble_eq_true hb; simp only [Int.ofNat_eq_natCast]; omega
          | negSucc m => have := Nat.le_of_ble_eq_true hb; omega
        exact .of (whole_any i w hr.1 hr.2) (intT_RV i)
    · cases h
  cases h
/-- The executor's surroundings, where its functions are the program's. -/
theorem envOk {t : FT} (h : t.all (impF Tryz.prog) = true) : EnvOk Tryz.prog ⟨t.find, ctr⟩ := ⟨fun f F hF => FT.find_all h hF, fun f args v hv => ctr_ok f args v hv⟩
end Go.Proofs.Ex

set_option linter.unusedSimpArgs false
set_option linter.unusedVariables false
namespace Go.Proofs.Ex
open Go.RowKit Go.Proofs.Ins
theorem isT_spec {o : Option (V × St)} (h : isT o = true) : ∃ σ, o = some (.c (.bool true), σ) := by
  unfold isT at h
  split at h
  · next σ => exact ⟨σ, rfl⟩
  · cases h
theorem awake23 (w : World) : Calls Tryz.prog 51 #[] w fun e w' => e = .returned (.bool true) ∧ Below w.heap.size w w' := by
  obtain ⟨σ, hσ⟩ := isT_spec awake_run
  refine Calls.mono (call_any (envOk fnT_ok) (by kernel_rfl) hσ w) fun e w' he => ?_
  obtain ⟨cv, rfl, hb, φ, hv⟩ := he
  have hv : cv = .bool true := hv
  exact ⟨by rw [hv], hb⟩
end Go.Proofs.Ex

set_option linter.unusedSimpArgs false
set_option linter.unusedVariables false
namespace Go.Proofs.Ins
open Go.RowKit Go.Proofs.Ex

theorem fewR_get {m n : Nat} {Q : Nat → R3} (h : fewR m n Q = true) : n ≤ m ∧ ∀ i, i < n → (Q i).fits 24 := by
  unfold fewR at h
  rw [Bool.and_eq_true] at h
  exact ⟨of_decide_eq_true h.1, fun i hi => of_decide_eq_true (p := (Q i).s.size ≤ 24 ∧ (Q i).d.size ≤ 24) (allB_get h.2 i hi)⟩
theorem R3.fits.mono {r : R3} {k m : Nat} (h : r.fits k) (hk : k ≤ m) : r.fits m := ⟨by have := h.1; omega, by have := h.2; omega⟩
def nxtR (P S : Nat → R3) (i : Nat) : R3 := ofQ (nxtQ P S i)
theorem nxtC_eq (P S : Nat → R3) : nxtC P S = fun i => (nxtR P S i).c := rfl

set_option maxRecDepth 100000 in
set_option maxHeartbeats 6400000 in
theorem law_next (a1 : Option Addr) (n1 c1 : Nat) (a2 : Option Addr) (n2 c2 : Nat) (P S : Nat → R3) (w : World) (h1 : SArg w a1 n1 3 fun i => (P i).c) (h2 : SArg w a2 n2 3 fun i => (S i).c) (b1 : ∀ i, i < n1 → (P i).fits 140737488351232) (b2 : ∀ i, i < n2 → (S i).fits 140737488351232)
    (l1 : n1 ≤ 140737488351232) (l2 : n2 ≤ 140737488351232) :
    Calls Tryz.prog 14 #[.slice a1 n1 c1, .slice a2 n2 c2] w fun e w' => e = .returned (.bool true) ∧ Below w.heap.size w w' := by
  have HA := Lib.hid awake23
  have HF1 := Lib.hid (fun w h1 => fewRats_any a1 n1 c1 8 P w h1 b1 l1 (by omega))
  have HF2 := Lib.hid (fun w h2 => fewRats_any a2 n2 c2 8 S w h2 b2 l2 (by omega))
  have H1 := Lib.hid h1
  have H2 := Lib.hid h2
  have G1 := Lib.hid (fun h => fewR_get (m := 8) (n := n1) (Q := P) h)
  have G2 := Lib.hid (fun h => fewR_get (m := 8) (n := n2) (Q := S) h)
  clear b1 b2 h1 h2
  generalize fewR 8 n1 P = x at *
  generalize fewR 8 n2 S = y at *
  go_enter Tryz.func14, Tryz.ntmps14
  go_wp2_with fail
  refine (HF1.out _ H1.out).mono ?_; rintro e w1 ⟨rfl, hb1⟩
  have HB := Lib.hid hb1
  clear hb1
  cases x
  · clear G1 G2
    go_wp2_with fail
    refine (HA.out _).mono ?_; rintro e w2 ⟨rfl, hb2⟩
    have HB := Lib.hid (chain HB.out hb2 (Nat.le_refl _))
    clear hb2
    go_wp2
    go_ret
    exact ⟨rfl, HB.out⟩
  · obtain ⟨m1, f1⟩ := G1.out rfl
    have F1 := Lib.hid f1
    clear G1 f1
    go_wp2_with fail
    refine (HF2.out _ (H2.out.on HB.out)).mono ?_; rintro e w2 ⟨rfl, hb2⟩
    have HB := Lib.hid (chain HB.out hb2 (Nat.le_refl _))
    clear hb2
    cases y
    · clear G2
      go_wp2_with fail
      refine (HA.out _).mono ?_; rintro e w2 ⟨rfl, hb2⟩
      have HB := Lib.hid (chain HB.out hb2 (Nat.le_refl _))
      clear hb2
      go_wp2
      go_ret
      exact ⟨rfl, HB.out⟩
    · obtain ⟨m2, f2⟩ := G2.out rfl
      have F2 := Lib.hid f2
      clear G2 f2
      by_cases hn : n1 = n2
      · subst hn
        have K1 := Lib.hid (fun i hi => (F1.out i hi).mono (m := 1000) (by omega))
        have K2 := Lib.hid (fun i hi => (F2.out i hi).mono (m := 1000) (by omega))
        go_wp2_with fail
        refine (next_ok a1 n1 c1 a2 c2 P S _ (H1.out.on HB.out) (H2.out.on HB.out) K1.out K2.out (by omega)).mono ?_; rintro e w3 ⟨v3, rfl, ho3, hb3⟩
        obtain ⟨v3a, v3c, rfl, q1, q2, q3⟩ := ho3.arg
        have HO3 := Lib.hid q3
        have HB := Lib.hid (chain HB.out hb3 (Nat.le_refl _))
        clear hb3 ho3 q3
        go_wp2_with fail
        refine (rnext_ok a1 n1 c1 a2 c2 P S _ (H1.out.on HB.out) (H2.out.on HB.out) K1.out K2.out (by omega)).mono ?_; rintro e w4 ⟨v4, rfl, ho4, hb4⟩
        obtain ⟨v4a, v4c, rfl, p1, p2, p3⟩ := ho4.arg
        have HO4 := Lib.hid p3
        have HO3 := Lib.hid (HO3.out.on hb4)
        have HB := Lib.hid (chain HB.out hb4 (Nat.le_refl _))
        clear hb4 ho4 p3
        go_wp2_with fail
        refine (HA.out _).mono ?_; rintro e w5 ⟨rfl, hb5⟩
        have HO3 := Lib.hid (HO3.out.on hb5)
        have HO4 := Lib.hid (HO4.out.on hb5)
        have HB := Lib.hid (chain HB.out hb5 (Nat.le_refl _))
        clear hb5
        go_wp2_with fail
        refine (samerats_any v3a v3c v4a v4c n1 (nxtR P S) _ HO3.out HO4.out (by omega)).mono ?_; rintro e w6 ⟨rfl, hb6⟩
        have HB := Lib.hid (chain HB.out hb6 (Nat.le_refl _))
        clear hb6
        go_wp2
        go_ret
        exact ⟨rfl, HB.out⟩
      · have HN := Lib.hid hn
        go_wp2_with fail
        refine (next_no a1 n1 c1 a2 n2 c2 _ HN.out (by omega) (by omega)).mono ?_; rintro e w3 ⟨rfl, hb3⟩
        have HB := Lib.hid (chain HB.out hb3 (Nat.le_refl _))
        clear hb3
        go_wp2_with fail
        refine (rnext_no a1 n1 c1 a2 n2 c2 _ HN.out (by omega) (by omega)).mono ?_; rintro e w4 ⟨rfl, hb4⟩
        have HB := Lib.hid (chain HB.out hb4 (Nat.le_refl _))
        clear hb4
        go_wp2_with fail
        refine (HA.out _).mono ?_; rintro e w5 ⟨rfl, hb5⟩
        have HB := Lib.hid (chain HB.out hb5 (Nat.le_refl _))
        clear hb5
        go_wp2_with fail
        refine (samerats_any none 0 none 0 0 (nxtR P S) _ (.inl rfl) (.inl rfl) (by omega)).mono ?_; rintro e w6 ⟨rfl, hb6⟩
        have HB := Lib.hid (chain HB.out hb6 (Nat.le_refl _))
        clear hb6
        go_wp2
        go_ret
        exact ⟨rfl, HB.out⟩
end Go.Proofs.Ins
