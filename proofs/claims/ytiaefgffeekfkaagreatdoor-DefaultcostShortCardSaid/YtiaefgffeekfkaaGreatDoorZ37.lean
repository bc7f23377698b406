/- DefaultcostShort: for every input the law returns true. Conditions: those of the given row alone. -/
import Derived.Test.YtiaefgffeekfkaaGreatDoorZ36
import Derived.Test.YtiaefgffeekfkaaGreatDoorZ13
import Derived.Test.YtiaefgffeekfkaaGreatDoorZ27
import Derived.Test.YtiaefgffeekfkaaGreatDoorZ28
import Derived.Test.YtiaefgffeekfkaaGreatDoorZ29
import Derived.Test.YtiaefgffeekfkaaGreatDoorZ30
import Derived.Test.YtiaefgffeekfkaaGreatDoorZ26

set_option linter.unusedSimpArgs false
set_option linter.unusedVariables false
namespace Go.Proofs.Xe
open Go.RowKit Go.Proofs.Ins
variable {φ : Ph} {args : List V} {v : V} {cargs : Array Value} {P : Program}
theorem Ct.of {P : Program} {f : Nat} {v : V} {cargs : Array Value} {w : World} {cv : Value} (h : Calls P f cargs w fun e w' => e = .returned cv ∧ Below w.heap.size w w') (hv : ∀ φ', RV φ' v cv) : Ct P f v cargs w :=
 Calls.mono h fun _ _ he => ⟨cv, he.1, he.2, hv⟩
theorem rat_num {n : Bool} {x y : B} {s d : Nat} {cv : Value} (hx : x.num = some s) (hy : y.num = some d) (h : RV φ (.agg [.bool n, x, y]) cv) : cv = .agg #[.bool n, .string (bn s), .string (bn d)] := by
 obtain ⟨r, e, hr⟩ := h
 obtain ⟨l⟩ := r
 match l, hr with
 | [a, b, c], ⟨h1, h2, h3, _⟩ =>
  have h1 : a = .bool n := h1
  rw [e, h1, num_spec hx h2, num_spec hy h3]
theorem ratVk_RV {n : Bool} {s d : Nat} (h : okT n s d = true) (φ : Ph) : RV φ (ratVk n s d) (rv (rq n (bn s) (bn d))) := by
 rw [okT_rv h]
 exact ⟨_, rfl, rfl, rfl, rfl, trivial⟩
theorem iVk_RV (i : Int) (φ : Ph) : RV φ (iVk i) (.int .i64 i) := by
 unfold iVk
 split <;> rfl
theorem cRat1_ok {f : Nat} {g : Bool → Nat → Nat → V} {R : Rat → Value} (hc : ∀ n s d w, (bn s).size ≤ 250 → (bn d).size ≤ 250 → okT n s d = true → Calls P f #[.agg #[.bool n, .string (bn s), .string (bn d)]] w fun e w' => e = .returned (R (rq n (bn s) (bn d))) ∧ Below w.heap.size w w')
  (hg : ∀ n s d, okT n s d = true → ∀ φ, RV φ (g n s d) (R (rq n (bn s) (bn d)))) (h : cRat1 g args = some v) (ha : RVs φ args cargs.toList) (w : World) : Ct P f v cargs w := by
 unfold cRat1 at h
 split at h
 ·next n x y =>
  split at h
  rotate_left
  ·cases h
  next s d hx hy =>
  cases hb : okT n s d with
  | false => rw [hb] at h; cases h
  | true =>
   rw [hb] at h
   cases h
   obtain ⟨u, rfl, hu⟩ := one_arg ha
   rw [rat_num hx hy hu]
   obtain ⟨-, h1, h2, -⟩ := okT_spec hb
   exact .of (hc n s d w h1 h2 hb) (hg n s d hb)
 ·cases h
theorem cRat2_ok {f : Nat} {g : Bool → Nat → Nat → Bool → Nat → Nat → V} {R : Rat → Rat → Value}
  (hc : ∀ n1 s1 d1 n2 s2 d2 w, (bn s1).size ≤ 250 → (bn d1).size ≤ 250 → (bn s2).size ≤ 250 → (bn d2).size ≤ 250 → okT n1 s1 d1 = true → okT n2 s2 d2 = true → Calls P f #[.agg #[.bool n1, .string (bn s1), .string (bn d1)], .agg #[.bool n2, .string (bn s2), .string (bn d2)]] w fun e w' =>
   e = .returned (R (rq n1 (bn s1) (bn d1)) (rq n2 (bn s2) (bn d2))) ∧ Below w.heap.size w w')
  (hg : ∀ n1 s1 d1 n2 s2 d2, okT n1 s1 d1 = true → okT n2 s2 d2 = true → ∀ φ, RV φ (g n1 s1 d1 n2 s2 d2) (R (rq n1 (bn s1) (bn d1)) (rq n2 (bn s2) (bn d2)))) (h : cRat2 g args = some v) (ha : RVs φ args cargs.toList) (w : World) : Ct P f v cargs w := by
 unfold cRat2 at h
 split at h
 ·next n1 x1 y1 n2 x2 y2 =>
  split at h
  rotate_left
  ·cases h
  next s1 d1 hx1 hy1 =>
  split at h
  rotate_left
  ·cases h
  next s2 d2 hx2 hy2 =>
  cases hb : (okT n1 s1 d1 && okT n2 s2 d2) with
  | false => rw [hb] at h; cases h
  | true =>
   rw [hb] at h
   cases h
   rw [Bool.and_eq_true] at hb
   obtain ⟨u, v, rfl, hu, hv⟩ := two_args ha
   rw [rat_num hx1 hy1 hu, rat_num hx2 hy2 hv]
   obtain ⟨-, h1, h2, -⟩ := okT_spec hb.1
   obtain ⟨-, h3, h4, -⟩ := okT_spec hb.2
   exact .of (hc n1 s1 d1 n2 s2 d2 w h1 h2 h3 h4 hb.1 hb.2) (hg n1 s1 d1 n2 s2 d2 hb.1 hb.2)
 ·cases h
theorem cNat2_ok {f : Nat} {g : Nat → Nat → V} {R : Nat → Nat → Value} (hc : ∀ a b w, (bn a).size ≤ 250 → (bn b).size ≤ 250 → Calls P f #[.string (bn a), .string (bn b)] w fun e w' => e = .returned (R a b) ∧ Below w.heap.size w w')
  (hg : ∀ a b φ, RV φ (g a b) (R a b)) (h : cNat2 g args = some v) (ha : RVs φ args cargs.toList) (w : World) : Ct P f v cargs w := by
 unfold cNat2 at h
 split at h
 ·next x y =>
  split at h
  rotate_left
  ·cases h
  next a b hx hy =>
  cases hb : (sm a && sm b) with
  | false => rw [hb] at h; cases h
  | true =>
   rw [hb] at h
   cases h
   rw [Bool.and_eq_true] at hb
   obtain ⟨u, v, rfl, hu, hv⟩ := two_args ha
   have hu : u = .string (bn a) := num_spec hx hu
   have hv : v = .string (bn b) := num_spec hy hv
   rw [hu, hv]
   exact .of (hc a b w (sm_size hb.1) (sm_size hb.2)) (hg a b)
 ·cases h
theorem natV_RV (n : Nat) (φ : Ph) : RV φ (natV n) (.string (bn n)) := by
 unfold natV
 rw [fN_eq]
 rfl
theorem subN_RV (a b : Nat) (φ : Ph) : RV φ (subN a b) (subV a b) := by
 unfold subN
 cases h : Nat.blt a b with
 | true =>
  rw [subV_no (Nat.le_of_ble_eq_true h)]
  exact ⟨_, [.bool false], rfl, rfl, .bool false, [], rfl, rfl, rfl⟩
 | false =>
  rw [subV_yes (by
   refine Nat.le_of_not_lt fun e => ?_
   rw [show Nat.blt a b = true from Nat.ble_eq_true_of_le e] at h
   cases h), cond_false, fN_eq]
  exact ⟨_, [.bool true], rfl, rfl, .bool true, [], rfl, rfl, rfl⟩
theorem ite_some {c : Prop} [Decidable c] {x y : Option V} {v : V} (h : (if c then x else y) = some v) : (c ∧ x = some v) ∨ (¬ c ∧ y = some v) := by
 by_cases hc : c
 ·rw [if_pos hc] at h; exact .inl ⟨hc, h⟩
 ·rw [if_neg hc] at h; exact .inr ⟨hc, h⟩
theorem okT_sm {n : Bool} {s d : Nat} (h : okT n s d = true) : Sm 250 (rq n (bn s) (bn d)) := by
 obtain ⟨-, f2, f3, -⟩ := okT_f h
 unfold okT at h
 simp only [Bool.and_eq_true] at h
 refine ⟨by rw [f2]; exact sm_lt h.1, ?_⟩
 rw [f3]
 unfold dD
 rw [bif_beq]
 split
 ·exact Nat.one_lt_pow (by omega) (by omega)
 ·exact sm_lt h.2.1
set_option maxRecDepth 100000 in
set_option maxHeartbeats 8000000 in
theorem ctr_ok (f : Nat) (args : List V) (v : V) (h : ctr f args = some v) : okF Tryz.prog f ∧ ∀ (φ : Ph) (cargs : Array Value) (w : World), RVs φ args cargs.toList → Ct Tryz.prog f v cargs w := by
 unfold ctr at h
 replace h := ite_some h
 rcases h with ⟨e, h⟩ | ⟨-, h⟩
 ·subst e
  exact ⟨okF_of (by kernel_rfl), fun φ cargs w ha => cRat2_ok (R := fun p q => rv (p + q)) (fun n1 s1 d1 n2 s2 d2 w h1 h2 h3 h4 _ _ => add_rat n1 (bn s1) (bn d1) n2 (bn s2) (bn d2) w (by omega) (by omega)) (fun n1 s1 d1 n2 s2 d2 k1 k2 φ => addT_RV k1 k2 φ) h ha w⟩
 replace h := ite_some h
 rcases h with ⟨e, h⟩ | ⟨-, h⟩
 ·subst e
  exact ⟨okF_of (by kernel_rfl), fun φ cargs w ha => cRat2_ok (R := fun p q => .int .i64 (cmpR p q)) (fun n1 s1 d1 n2 s2 d2 w h1 h2 h3 h4 _ _ => compare_rat n1 (bn s1) (bn d1) n2 (bn s2) (bn d2) w (by omega) (by omega)) (fun n1 s1 d1 n2 s2 d2 k1 k2 φ => by rw [cmpT_eq k1 k2]; exact iVk_RV _ φ) h ha w⟩
 replace h := ite_some h
 rcases h with ⟨e, h⟩ | ⟨-, h⟩
 ·subst e
  exact ⟨okF_of (by kernel_rfl), fun φ cargs w ha => cRat2_ok (R := fun p q => rv (p * q)) (fun n1 s1 d1 n2 s2 d2 w h1 h2 h3 h4 _ _ => multiply_rat n1 (bn s1) (bn d1) n2 (bn s2) (bn d2) w (by omega) (by omega)) (fun n1 s1 d1 n2 s2 d2 k1 k2 φ => mulT_RV k1 k2 φ) h ha w⟩
 replace h := ite_some h
 rcases h with ⟨e, h⟩ | ⟨-, h⟩
 ·subst e
  exact ⟨okF_of (by kernel_rfl), fun φ cargs w ha => cRat2_ok (R := fun p q => rvB (divR p q) (okR q)) (fun n1 s1 d1 n2 s2 d2 w h1 h2 h3 h4 _ _ => divide_rat n1 (bn s1) (bn d1) n2 (bn s2) (bn d2) w (by omega) (by omega)) (fun n1 s1 d1 n2 s2 d2 k1 k2 φ => divT_RV k1 k2 φ) h ha w⟩
 replace h := ite_some h
 rcases h with ⟨e, h⟩ | ⟨-, h⟩
 ·subst e
  exact ⟨okF_of (by kernel_rfl), fun φ cargs w ha => cRat1_ok (R := fun p => .int .i64 (sg p)) (fun n s d w h1 h2 _ => sign_rat n (bn s) (bn d) w (by omega) (by omega)) (fun n s d k φ => by rw [signT_eq k]; exact iVk_RV _ φ) h ha w⟩
 replace h := ite_some h
 rcases h with ⟨e, h⟩ | ⟨-, h⟩
 ·subst e
  refine ⟨okF_of (by kernel_rfl), fun φ cargs w ha => cRat2_ok (R := fun p q => rv (minR p q)) (fun n1 s1 d1 n2 s2 d2 w h1 h2 h3 h4 _ _ => min_rat n1 (bn s1) (bn d1) n2 (bn s2) (bn d2) w (by omega) (by omega)) (fun n1 s1 d1 n2 s2 d2 k1 k2 φ => ?_) h ha w⟩
  unfold minR
  rw [cmpT_eq k1 k2]
  by_cases hc : cmpT n1 s1 d1 n2 s2 d2 ≤ 0
  ·rw [decide_eq_true hc, if_pos hc]; exact ratVk_RV k1 φ
  ·rw [decide_eq_false hc, if_neg hc]; exact ratVk_RV k2 φ
 replace h := ite_some h
 rcases h with ⟨e, h⟩ | ⟨-, h⟩
 ·subst e
  refine ⟨okF_of (by kernel_rfl), fun φ cargs w ha => cRat2_ok (R := fun p q => rv (maxR p q)) (fun n1 s1 d1 n2 s2 d2 w h1 h2 h3 h4 _ _ => max_rat n1 (bn s1) (bn d1) n2 (bn s2) (bn d2) w (by omega) (by omega)) (fun n1 s1 d1 n2 s2 d2 k1 k2 φ => ?_) h ha w⟩
  unfold maxR
  rw [cmpT_eq k1 k2]
  by_cases hc : 0 ≤ cmpT n1 s1 d1 n2 s2 d2
  ·rw [decide_eq_true hc, if_pos hc]; exact ratVk_RV k1 φ
  ·rw [decide_eq_false hc, if_neg hc]; exact ratVk_RV k2 φ
 replace h := ite_some h
 rcases h with ⟨e, h⟩ | ⟨-, h⟩
 ·subst e
  exact ⟨okF_of (by kernel_rfl), fun φ cargs w ha => cRat1_ok (R := rv) (fun n s d w h1 h2 _ => clean_any n (bn s) (bn d) w (by omega) (by omega)) (fun n s d k φ => ratVk_RV k φ) h ha w⟩
 replace h := ite_some h
 rcases h with ⟨e, h⟩ | ⟨-, h⟩
 ·subst e
  refine ⟨okF_of (by kernel_rfl), fun φ cargs w ha => cRat2_ok (R := fun p q => rv (p + q)) (fun n1 s1 d1 n2 s2 d2 w h1 h2 h3 h4 k1 k2 => ?_) (fun n1 s1 d1 n2 s2 d2 k1 k2 φ => addT_RV k1 k2 φ) h ha w⟩
  have := plusR_any (rq n1 (bn s1) (bn d1)) (rq n2 (bn s2) (bn d2)) 250 250 w (okT_sm k1) (okT_sm k2) (by omega)
  obtain ⟨a1, -, -, a2, a3⟩ := okT_f k1
  obtain ⟨b1, -, -, b2, b3⟩ := okT_f k2
  rw [a1, a2, a3, b1, b2, b3] at this
  exact this
 replace h := ite_some h
 rcases h with ⟨e, h⟩ | ⟨-, h⟩
 ·subst e
  refine ⟨okF_of (by kernel_rfl), fun φ cargs w ha => cRat1_ok (g := fun _ _ _ => .c (.bool true)) (R := fun _ => .bool true) (fun n s d w h1 h2 k => ?_) (fun n s d k φ => rfl) h ha w⟩
  have := valid_any n (bn s) (bn d) w (by omega) (by omega)
  rwa [vldB_true (okT_spec k).1] at this
 replace h := ite_some h
 rcases h with ⟨e, h⟩ | ⟨-, h⟩
 ·subst e
  refine ⟨okF_of (by kernel_rfl), fun φ cargs w ha => ?_⟩
  unfold cInt at h
  split at h
  ·next i =>
   cases hb : inR .i64 i with
   | false => rw [hb] at h; cases h
   | true =>
    rw [hb] at h
    cases h
    obtain ⟨u, rfl, hu⟩ := one_arg ha
    have hu : u = .int .i64 i := hu
    rw [hu]
    have hr : -9223372036854775808 ≤ i ∧ i ≤ 9223372036854775807 := by
     cases i with
     | ofNat m => have := Nat.le_of_ble_eq_true hb; simp only [Int.ofNat_eq_natCast]; omega
     | negSucc m => have := Nat.le_of_ble_eq_true hb; omega
    exact .of (int_any i w hr.1 hr.2) (intT_RV i)
  ·cases h
 replace h := ite_some h
 rcases h with ⟨e, h⟩ | ⟨-, h⟩
 ·subst e
  refine ⟨okF_of (by kernel_rfl), fun φ cargs w ha => ?_⟩
  unfold cMake at h
  split at h
  ·next n x0 y0 =>
   split at h
   rotate_left
   ·cases h
   next a b hx0 hy0 =>
   cases hb : (sm a && sm b) with
   | false => rw [hb] at h; cases h
   | true =>
    rw [hb] at h
    rw [Bool.and_eq_true] at hb
    simp only [cond_true, Option.some.injEq] at h
    obtain ⟨u, x, t, rfl, hu, hx, ht⟩ := three_args ha
    have hu : u = .bool n := hu
    have hx : x = .string (bn a) := num_spec hx0 hx
    have ht : t = .string (bn b) := num_spec hy0 ht
    rw [hu, hx, ht]
    have s1 := sm_size hb.1
    have s2 := sm_size hb.2
    rw [bif_beq] at h
    by_cases h0 : b = 0
    ·rw [if_pos h0] at h
     rw [← h]
     exact .of (make_no n _ _ w (by omega) (by rw [nv_bn]; exact h0)) (fun φ => withB_RV (zero_RV φ))
    ·rw [if_neg h0] at h
     rw [← h]
     have := make_yes n (bn a) (bn b) w (by omega) (by omega) (by rw [nv_bn]; omega)
     rw [nv_bn, nv_bn] at this
     exact .of this (fun φ => withB_RV (enc_RV (by omega) φ))
  ·cases h
 replace h := ite_some h
 rcases h with ⟨e, h⟩ | ⟨-, h⟩
 ·subst e
  refine ⟨okF_of (by kernel_rfl), fun φ cargs w ha => ?_⟩
  unfold cFrom at h
  split at h
  ·next u =>
   cases hb : Nat.blt u 18446744073709551616 with
   | false => rw [hb] at h; cases h
   | true =>
    rw [hb] at h
    cases h
    obtain ⟨x, rfl, hx⟩ := one_arg ha
    have hx : x = .int .u64 (u : Int) := hx
    rw [hx]
    exact .of (fromUint_any u w (Nat.le_of_ble_eq_true hb)) (fun φ => rfl)
  ·cases h
 replace h := ite_some h
 rcases h with ⟨e, h⟩ | ⟨-, h⟩
 ·subst e
  refine ⟨okF_of (by kernel_rfl), fun φ cargs w ha => cNat2_ok (R := fun a b => .string (bn (a + b))) (fun a b w h1 h2 => ?_) (fun a b φ => natV_RV _ φ) h ha w⟩
  have := add_any (bn a) (bn b) w (by omega) (by omega)
  rwa [nv_bn, nv_bn] at this
 replace h := ite_some h
 rcases h with ⟨e, h⟩ | ⟨-, h⟩
 ·subst e
  refine ⟨okF_of (by kernel_rfl), fun φ cargs w ha => cNat2_ok (R := subV) (fun a b w h1 h2 => ?_) (fun a b φ => subN_RV a b φ) h ha w⟩
  have := subtractS_any (bn a) (bn b) w (by omega) (by omega)
  rwa [nv_bn, nv_bn] at this
 replace h := ite_some h
 rcases h with ⟨e, h⟩ | ⟨-, h⟩
 ·subst e
  refine ⟨okF_of (by kernel_rfl), fun φ cargs w ha => cNat2_ok (R := fun a b => .string (bn (a * b))) (fun a b w h1 h2 => ?_) (fun a b φ => natV_RV _ φ) h ha w⟩
  have := multiply_any (bn a) (bn b) w (by omega) (by omega)
  rwa [nv_bn, nv_bn] at this
 replace h := ite_some h
 rcases h with ⟨e, h⟩ | ⟨-, h⟩
 ·subst e
  refine ⟨okF_of (by kernel_rfl), fun φ cargs w ha => cNat2_ok (R := fun a b => .string (bn (Nat.gcd a b))) (fun a b w h1 h2 => ?_) (fun a b φ => natV_RV _ φ) h ha w⟩
  have := gcd_any (bn a) (bn b) w (by omega) (by omega)
  rwa [nv_bn, nv_bn] at this
 replace h := ite_some h
 rcases h with ⟨e, h⟩ | ⟨-, h⟩
 ·subst e
  refine ⟨okF_of (by kernel_rfl), fun φ cargs w ha => ?_⟩
  unfold cDivN at h
  split at h
  ·next x0 y0 =>
   split at h
   rotate_left
   ·cases h
   next a b hx0 hy0 =>
   cases hb : (sm a && (sm b && !Nat.beq b 0)) with
   | false => rw [hb] at h; cases h
   | true =>
    rw [hb] at h
    cases h
    simp only [Bool.and_eq_true, Bool.not_eq_true'] at hb
    obtain ⟨u, x, rfl, hu, hx⟩ := two_args ha
    have hu : u = .string (bn a) := num_spec hx0 hu
    have hx : x = .string (bn b) := num_spec hy0 hx
    rw [hu, hx]
    have s1 := sm_size hb.1
    have s2 := sm_size hb.2.1
    have h0 : 0 < b := Nat.pos_of_ne_zero fun e => by rw [e] at hb; exact absurd hb.2.2 (by decide)
    have := divideS_any (bn a) (bn b) w (by omega) (by omega) (by rw [nv_bn]; exact h0)
    rw [nv_bn, nv_bn] at this
    refine .of this fun φ => ?_
    simp only [fN_eq]
    exact ⟨_, [.string (bn (a % b)), .bool true], rfl, rfl, _, [.bool true], rfl, rfl, .bool true, [], rfl, rfl, rfl⟩
  ·cases h
 replace h := ite_some h
 rcases h with ⟨e, h⟩ | ⟨-, h⟩
 ·subst e
  refine ⟨okF_of (by kernel_rfl), fun φ cargs w ha => ?_⟩
  unfold cInt at h
  split at h
  ·next i =>
   cases hb : inR .i64 i with
   | false => rw [hb] at h; cases h
   | true =>
    rw [hb] at h
    cases h
    obtain ⟨u, rfl, hu⟩ := one_arg ha
    have hu : u = .int .i64 i := hu
    rw [hu]
    have hr : -9223372036854775808 ≤ i ∧ i ≤ 9223372036854775807 := by
     cases i with
     | ofNat m => have := Nat.le_of_ble_eq_true hb; simp only [Int.ofNat_eq_natCast]; omega
     | negSucc m => have := Nat.le_of_ble_eq_true hb; omega
    exact .of (whole_any i w hr.1 hr.2) (intT_RV i)
  ·cases h
 cases h
theorem orcC_ok (f : Nat) (args : List V) (σ : St) (v : V) (σ' : St) (h : orcC f args σ = some (v, σ')) : okF Tryz.prog f ∧ ∀ (N : Nat) (w0 : World) (φ : Ph) (w : World) (cargs : Array Value), Rel N w0 φ σ w → RVs φ args cargs.toList →
  Calls Tryz.prog f cargs w fun e w' => ∃ cv, e = .returned cv ∧ ∃ φ', Ext σ.nxt φ φ' ∧ Rel N w0 φ' σ' w' ∧ RV φ' v cv ∧ σ.nxt ≤ σ'.nxt := by
 unfold orcC at h
 split at h
 ·next u hu =>
  cases h
  obtain ⟨h1, h2⟩ := ctr_ok f args _ hu
  refine ⟨h1, fun N w0 φ w cargs hR ha => (h2 φ cargs w ha).mono fun e w' he => ?_⟩
  obtain ⟨cv, rfl, hb, hv⟩ := he
  exact ⟨cv, rfl, φ, Ext.refl _ _, hR.below hb, hv φ, Nat.le_refl _⟩
 ·cases h
theorem isT_spec {o : Option (V × St)} (h : isT o = true) : ∃ σ, o = some (.c (.bool true), σ) := by
 unfold isT at h
 split at h
 ·next σ => exact ⟨σ, rfl⟩
 ·cases h
end Go.Proofs.Xe

namespace Go.Proofs.Xe
open Go.Proofs
def fnK : FT := (.node 206 a_clearing_list (.node 128 a_defaultcost_copyEstate (.node 65 a_defaultcost_distribute (.node 37 a_defaultcost_paid (.node 32 a_defaultcost_Best (.node 13 a_defaultcost_Short (.node 9 a_l21_awake .leaf .leaf) .leaf) (.node 33 a_defaultcost_Worst .leaf .leaf)) (.node 50 a_guarantee_Check (.node 42 a_defaultcost_charge .leaf .leaf) (.node 64 a_defaultcost_check .leaf .leaf))) (.node 113 a_clearing_Solve (.node 78 a_rational_Subtract (.node 76 a_defaultcost_copyGroup (.node 75 a_defaultcost_negative .leaf .leaf) .leaf) (.node 87 a_waterfall_Check .leaf .leaf)) (.node 125 a_slices_ContainsFunc__api_Rat_api_Rat (.node 114 a_slices_Equal__bool_bool .leaf .leaf) (.node 126 a_defaultcost_negative_1 .leaf .leaf)))) (.node 193 a_waterfall_Layout_Deliver (.node 170 a_clearing_system_solve (.node 168 a_clearing_build (.node 132 a_rational_negate (.node 129 a_defaultcost_clean .leaf .leaf) .leaf) (.node 169 a_clearing_system_settle .leaf .leaf)) (.node 191 a_waterfall_Lay (.node 177 a_slices_IndexFunc__api_Rat_api_Rat .leaf .leaf) (.node 192 a_slices_Clone__api_Rat_api_Rat .leaf .leaf))) (.node 200 a_clearing_system_margins (.node 195 a_waterfall_Layout_Total (.node 194 a_waterfall_Layout_Gross .leaf .leaf) (.node 199 a_clearing_system_flow .leaf .leaf)) (.node 203 a_clearing_closed (.node 201 a_clearing_reach .leaf .leaf) (.node 205 a_clearing_system_fill .leaf .leaf))))) (.node 272 a_waterfall_ladder_split (.node 239 a_slices_ContainsFunc__int_int (.node 228 a_waterfall_ladder_pay (.node 225 a_waterfall_tier_add (.node 208 a_clearing_raise (.node 207 a_clearing_system_nearest .leaf .leaf) .leaf) (.node 227 a_waterfall_Layout_take .leaf .leaf)) (.node 233 a_clearing_matrix (.node 232 a_waterfall_Layout_Slopes .leaf .leaf) (.node 238 a_slices_Clone__bool_bool .leaf .leaf))) (.node 245 a_rational_Negate (.node 243 a_clearing_sub (.node 241 a_clearing_leaks (.node 240 a_clearing_closed_1 .leaf .leaf) .leaf) (.node 244 a_clearing_spread .leaf .leaf)) (.node 247 a_clearing_system_nearest_1 (.node 246 a_linear_Solve .leaf .leaf) (.node 249 a_waterfall_Layout_Next .leaf .leaf)))) (.node 283 a_slices_IndexFunc__linear_integer_linear_integer (.node 278 a_slices_IndexFunc__int_int (.node 276 a_waterfall_Layout_rates (.node 274 a_waterfall_result_share (.node 273 a_waterfall_result_add .leaf .leaf) .leaf) (.node 277 a_waterfall_ladder_slope .leaf .leaf)) (.node 281 a_linear_clean (.node 280 a_linear_square .leaf .leaf) (.node 282 a_linear_integers .leaf .leaf))) (.node 288 a_slices_Equal__api_Rat_api_Rat (.node 285 a_linear_eliminate (.node 284 a_linear_Solve_1 .leaf .leaf) (.node 287 a_waterfall_Layout_step .leaf .leaf)) (.node 299 a_linear_denominator (.node 297 a_linear_check .leaf .leaf) (.node 303 a_waterfall_ladder_gap .leaf .leaf))))))
noncomputable def EK : Env := ⟨fnK.find, orcC⟩
end Go.Proofs.Xe

namespace Go.Proofs.Xe
open Go.Proofs
theorem fnK_ok : fnK.all (impF Tryz.prog) = true := by
 simp only [fnK, FT.all, c_l21_awake, c_defaultcost_Short, c_defaultcost_Best, c_defaultcost_Worst, c_defaultcost_paid, c_defaultcost_charge, c_guarantee_Check, c_defaultcost_check, c_defaultcost_distribute, c_defaultcost_negative, c_defaultcost_copyGroup, c_rational_Subtract, c_waterfall_Check, c_clearing_Solve, c_slices_Equal__bool_bool, c_slices_ContainsFunc__api_Rat_api_Rat, c_defaultcost_negative_1, c_defaultcost_copyEstate, c_defaultcost_clean, c_rational_negate, c_clearing_build, c_clearing_system_settle, c_clearing_system_solve, c_slices_IndexFunc__api_Rat_api_Rat, c_waterfall_Lay, c_slices_Clone__api_Rat_api_Rat, c_waterfall_Layout_Deliver, c_waterfall_Layout_Gross, c_waterfall_Layout_Total, c_clearing_system_flow, c_clearing_system_margins, c_clearing_reach, c_clearing_closed, c_clearing_system_fill, c_clearing_list, c_clearing_system_nearest, c_clearing_raise, c_waterfall_tier_add, c_waterfall_Layout_take, c_waterfall_ladder_pay, c_waterfall_Layout_Slopes, c_clearing_matrix, c_slices_Clone__bool_bool, c_slices_ContainsFunc__int_int, c_clearing_closed_1, c_clearing_leaks, c_clearing_sub, c_clearing_spread, c_rational_Negate, c_linear_Solve, c_clearing_system_nearest_1, c_waterfall_Layout_Next, c_waterfall_ladder_split, c_waterfall_result_add, c_waterfall_result_share, c_waterfall_Layout_rates, c_waterfall_ladder_slope, c_slices_IndexFunc__int_int, c_linear_square, c_linear_clean, c_linear_integers, c_slices_IndexFunc__linear_integer_linear_integer, c_linear_Solve_1, c_linear_eliminate, c_waterfall_Layout_step, c_slices_Equal__api_Rat_api_Rat, c_linear_check, c_linear_denominator, c_waterfall_ladder_gap, Bool.and_self]
theorem EK_ok : EnvOk Tryz.prog EK := ⟨fun _ _ hF => FT.find_all fnK_ok hF, fun f args σ v σ' h => orcC_ok f args σ v σ' h⟩
end Go.Proofs.Xe

set_option linter.unusedSimpArgs false
set_option linter.unusedVariables false
namespace Go.Proofs.Xe
open Go.Proofs Go.Proofs.Ins
theorem awake_run : isT (callF EK 2000 9 [] ⟨.leaf, 0⟩) = true := by kernel_rfl
end Go.Proofs.Xe

set_option linter.unusedSimpArgs false
set_option linter.unusedVariables false
namespace Go.Proofs.Xe
open Go.RowKit Go.Proofs.Ins
theorem awake21 : AwakeOk 9 := by
 obtain ⟨σ, hσ⟩ := isT_spec awake_run
 refine ⟨okF_of (by kernel_rfl), fun w => ?_⟩
 have hR : Rel w.heap.size w (fun _ => none) ⟨.leaf, 0⟩ w := by
  refine ⟨Nat.le_refl _, Below.refl _ _, fun _ _ _ _ h => ?_, fun _ _ h => ?_, fun _ _ _ _ h => ?_, fun _ _ _ _ h => ?_, fun b _ => ⟨rfl, ?_⟩⟩
  ·cases h
  ·cases h
  ·cases h
  ·cases h
  ·exact Tr.get_leaf b
 refine (call_from EK_ok (by kernel_rfl) hσ hR (cargs := #[]) trivial).mono fun e w' he => ?_
 obtain ⟨cv, rfl, φ', -, hR', hv, -⟩ := he
 have hv : cv = .bool true := hv
 exact ⟨by rw [hv], hR'.bel⟩
theorem law_of {f : Nat} {args : List V} {cargs : Array Value} {W : World} (h : CallX EN f args (St.of W) fun r _ => r = .c (.bool true)) (ha : RVs (Ph.id W.heap.size) args cargs.toList) :
  Calls Tryz.prog f cargs W fun e w' => e = .returned (.bool true) ∧ Below W.heap.size W w' := by
 obtain ⟨n, v, σ', h1, rfl⟩ := h
 refine (call_from EN_ok (by kernel_rfl) h1 (Rel.of W) ha).mono fun e w' he => ?_
 obtain ⟨cv, rfl, φ', -, hR', hv, -⟩ := he
 have hv : cv = .bool true := hv
 exact ⟨by rw [hv], hR'.bel⟩
theorem law_short {W : World} {nm late : Nat} {v2 v3 v5 : Value} (hnm : nm ≤ 255) (hlate : late ≤ 65535) {n2 n3 n5 : Nat} {M : Nat → Nat} {L : Nat → Nat → Nat} {R : Nat → B} {ns : Nat → Nat} {G : Nat → Nat → Nat} (h2 : HL (St.of W).h 1 (absB W.heap.size v2) n2 fun i => [.int .u16 (.ofNat (M i))]) (hM : ∀ i, i < n2 → M i ≤ 65535)
  (h3 : HL (St.of W).h 4 (absB W.heap.size v3) n3 fun i => [.int .u16 (.ofNat (L i 0)), .int .u16 (.ofNat (L i 1)), .int .u16 (.ofNat (L i 2)), .int .u16 (.ofNat (L i 3))]) (hL : ∀ i j, i < n3 → L i j ≤ 65535) (hn3 : n3 ≤ 140737488351232)
  (h5 : HL (St.of W).h 1 (absB W.heap.size v5) n5 fun i => [R i]) (hR : ∀ i, i < n5 → HL (St.of W).h 1 (R i) (ns i) fun k => [.int .u16 (.ofNat (G i k))]) (hG : ∀ i, i < n5 → ∀ k, k < ns i → G i k ≤ 65535) (hn5 : n5 ≤ 140737488351232) :
  Calls Tryz.prog 3 #[.int .u8 (nm : Int), v2, v3, .int .u16 (late : Int), v5] W fun e w' => e = .returned (.bool true) ∧ Below W.heap.size W w' :=
 law_of (law_short_x (WF.of W) awake21 hnm M L h2 hM h3 hL (by omega) hlate R ns G h5 hR hG (by omega)) ⟨rfl, absB_RB _ _ h2.kn, absB_RB _ _ h3.kn, rfl, absB_RB _ _ h5.kn, trivial⟩
end Go.Proofs.Xe

set_option linter.unusedSimpArgs false
set_option linter.unusedVariables false
namespace Go.Proofs.Xe
open Go Go.RowKit Go.ChangeShapes Go.WideShapes Go.ChangeAt Go.Proofs.Ins Go.Proofs.YtiaefgffeekfkaaGreatDoor
set_option maxRecDepth 100000 in
set_option maxHeartbeats 1600000 in
theorem short_lifted (os : Os) (started : os.Started) (H : Type) (enc : TypeId × Value → H) :
  ReturnsInHanded {} Tryz.checked os 3 .any (fun w args => (Rows.defaultcostShortSpec.pre enc Tryz.prog Tryz.f3 [] false w args ∧ laidMetH Tryz.prog laidL w) ∧ sizedMet enc Tryz.prog Tryz.f3 (OpenSpec.ofChange Rows.defaultcostShortSpec) false w args)
   (Rows.defaultcostShortSpec.post enc Tryz.prog Tryz.f3 false true false false) := by
 refine returnsInHanded_of_change_and (C := Tryz.checked) (X := fun w _ => laidMetH Tryz.prog laidL w) (fun _ _ _ hh h => h.of_heap hh) own' started (by kernel_rfl) Tryz.func3
  (ChangeSpec.witness_shaped (enc := enc) (C := Tryz.checked) (os := os) (X := fun w _ => laidMetH Tryz.prog laidL w) false (World.laidAll Tryz.prog os laidL) #[.int .u8 0, .slice none 0 0, .slice none 0 0, .int .u16 0, .slice none 0 0] 8 (World.laidAll_os _ _ _)
   (World.shaped_of_ZipB (by kernel_rfl) (by kernel_rfl)) (by kernel_rfl) (by kernel_rfl) (by kernel_rfl)
   (by rw [MakeChecks.laidMetH_plain _ _ _ (by kernel_rfl)]; exact laidMet_laidAll _ (by kernel_rfl) (by kernel_rfl))) ?_
 intro W base args ds gs before hval0 hW hc hsz hL _
 have hval : ∀ (j : Nat) t v, Tryz.f3.params[j]? = some t → args[j]? = some v → Value.okWide Tryz.prog W .any base t v := hval0
 have hW' := hW
 obtain ⟨p, q, hA0, hV, rfl, _, _⟩ := hW
 have hA : DataW.TrodAll enc Tryz.prog W 0 (fun _ => true) true Tryz.f3.params.toList args.toList ds p := hA0
 have hsz1 : (DataW.weightsEach Tryz.prog (Tryz.f3.params.toList ++ Rows.defaultcostShortSpec.plain.varTypes Tryz.prog) (ds ++ gs)).all (· ≤ reachBytes) = true := hsz
 obtain ⟨rfl, rfl⟩ := trodVars_none hV
 rw [Tryz.params3] at hsz1 hval hA
 clear hA0 hval0 hsz hc hL hV
 obtain ⟨v1, vs1, d1, ds1, p1, q1, e1, rfl, rfl, h1, hA⟩ := trodAll_cons hA
 obtain ⟨v2, vs2, d2, ds2, p2, q2, rfl, rfl, rfl, h2, hA⟩ := trodAll_cons hA
 obtain ⟨v3, vs3, d3, ds3, p3, q3, rfl, rfl, rfl, h3, hA⟩ := trodAll_cons hA
 obtain ⟨v4, vs4, d4, ds4, p4, q4, rfl, rfl, rfl, h4, hA⟩ := trodAll_cons hA
 obtain ⟨v5, vs5, d5, ds5, p5, q5, rfl, rfl, rfl, h5, hA⟩ := trodAll_cons hA
 obtain ⟨rfl, rfl, rfl⟩ := trodAll_nil hA
 obtain rfl : args = #[v1, v2, v3, v4, v5] := by rw [← Array.toArray_toList (xs := args), e1]
 clear hA e1
 obtain ⟨D1, rfl, b1⟩ := v_u8 (hval 0 _ _ rfl rfl) h1
 obtain ⟨a2, n2, c2, f2, rfl, o2⟩ := val_slice Tryz.underlying22 (hval 1 _ _ rfl rfl) h2
 obtain ⟨w2, m2, D2, e2, l2, s2, b2⟩ := x_u16s o2 (light_arg hsz1 (j := 1) rfl rfl)
 obtain rfl : w2 = .slice a2 n2 c2 := by simpa using e2.symm
 obtain ⟨a3, n3, c3, f3, rfl, o3⟩ := val_slice Tryz.underlying23 (hval 2 _ _ rfl rfl) h3
 obtain ⟨w3, m3, D3, e3, l3, s3, b3⟩ := x_arrs o3 (light_arg hsz1 (j := 2) rfl rfl)
 obtain rfl : w3 = .slice a3 n3 c3 := by simpa using e3.symm
 obtain ⟨D4, rfl, b4⟩ := v_u16 (hval 3 _ _ rfl rfl) h4
 obtain ⟨a5, n5, c5, f5, rfl, o5⟩ := val_slice Tryz.underlying25 (hval 4 _ _ rfl rfl) h5
 obtain ⟨w5, m5, R5, k5, D5, e5, l5, s5, r5, b5⟩ := x_u16ss o5 (light_arg hsz1 (j := 4) rfl rfl)
 obtain rfl : w5 = .slice a5 n5 c5 := by simpa using e5.symm
 exact law_post rfl rfl rfl (by kernel_rfl) hW' (law_short b1 b4 s2 b2 s3 b3 l3 s5 r5 b5 l5)
end Go.Proofs.Xe
