/- The executor: the contracts of the program's fractions and natural numbers, as functions of the executor's values. -/
import Derived.Test.YtmephnllicleiaaGreatDoorZ32

set_option linter.unusedSimpArgs false
set_option linter.unusedVariables false
namespace Go.Proofs.Ex
open Go.RowKit Go.Proofs.Ins

def fB {α : Sort _} (b : Bool) (f : Bool → α) : α := match b with | true => f true | false => f false
theorem fB_eq {α : Sort _} (b : Bool) (f : Bool → α) : fB b f = f b := by cases b <;> rfl
def dD (d : Nat) : Nat := bif Nat.beq d 0 then 1 else d
def sm (n : Nat) : Bool := Nat.ble (Nat.log2 n) 1990
def okT (n : Bool) (s d : Nat) : Bool :=
  sm s && (sm d && (bif Nat.beq s 0 then !n && Nat.beq d 0 else Nat.beq d 0 || (!Nat.beq d 1 && Nat.beq (Nat.gcd s d) 1)))
theorem lt_pow_of_log {n k : Nat} (h : Nat.log2 n + 1 ≤ 8 * k) : n < 256 ^ k := by
  have h2 : n < 2 ^ (Nat.log2 n + 1) := Nat.lt_log2_self
  have h3 : 2 ^ (Nat.log2 n + 1) ≤ 2 ^ (8 * k) := Nat.pow_le_pow_right (by omega) h
  have h4 : (2 : Nat) ^ (8 * k) = 256 ^ k := Nat.pow_mul 2 8 k
  exact Nat.lt_of_lt_of_le h2 (Nat.le_trans h3 (Nat.le_of_eq h4))
theorem sm_lt {n : Nat} (h : sm n = true) : n < 256 ^ 250 := by
  have h1 : Nat.log2 n ≤ 1990 := Nat.le_of_ble_eq_true h
  exact lt_pow_of_log (by omega)
theorem sm_size {n : Nat} (h : sm n = true) : (bn n).size ≤ 250 := bn_size_le (sm_lt h)
theorem beq_iff' {a b : Nat} : Nat.beq a b = true ↔ a = b := ⟨Nat.eq_of_beq_eq_true, fun h => by subst h; simp⟩
theorem dD_pos (d : Nat) : 0 < dD d := by
  unfold dD
  rw [bif_beq]
  split <;> omega
theorem okT_spec {n : Bool} {s d : Nat} (h : okT n s d = true) : vld n (bn s) (bn d) ∧ (bn s).size ≤ 250 ∧ (bn d).size ≤ 250 ∧ (s = 0 → n = false) := by
  unfold okT at h
  simp only [Bool.and_eq_true] at h
  obtain ⟨h1, h2, h3⟩ := h
  rw [bif_beq] at h3
  refine ⟨⟨by rw [nv_bn], by rw [nv_bn], fun h0 => ?_, ?_⟩, sm_size h1, sm_size h2, fun h0 => ?_⟩
  · rw [nv_bn] at h0
    rw [if_pos h0] at h3
    simp only [Bool.and_eq_true, Bool.not_eq_true'] at h3
    exact ⟨h3.1, by rw [nv_bn]; exact beq_iff'.mp h3.2⟩
  · rw [nv_bn, nv_bn]
    split at h3
    · simp only [Bool.and_eq_true] at h3
      exact .inl (beq_iff'.mp h3.2)
    · simp only [Bool.or_eq_true, Bool.and_eq_true, Bool.not_eq_true'] at h3
      rcases h3 with h3 | ⟨h3, h4⟩
      · exact .inl (beq_iff'.mp h3)
      · exact .inr ⟨fun e => (by rw [beq_iff'.mpr e] at h3; cases h3), beq_iff'.mp h4⟩
  · rw [if_pos h0] at h3
    simp only [Bool.and_eq_true, Bool.not_eq_true'] at h3
    exact h3.1
theorem okT_f {n : Bool} {s d : Nat} (h : okT n s d = true) : rn (rq n (bn s) (bn d)) = n ∧ nm (rq n (bn s) (bn d)) = s ∧ (rq n (bn s) (bn d)).den = dD d ∧ rs (rq n (bn s) (bn d)) = bn s ∧ rd (rq n (bn s) (bn d)) = bn d := by
  obtain ⟨hv, -⟩ := okT_spec h
  obtain ⟨e1, e2⟩ := vld_num hv
  obtain ⟨f1, f2, f3⟩ := vld_fields hv
  refine ⟨f1, ?_, ?_, f2, f3⟩
  · unfold nm; rw [e1, sgn_natAbs, nv_bn]
  · rw [e2]; unfold dn dD; rw [nv_bn, bif_beq]
theorem okT_rv {n : Bool} {s d : Nat} (h : okT n s d = true) : rv (rq n (bn s) (bn d)) = .agg #[.bool n, .string (bn s), .string (bn d)] := rv_vld (okT_spec h).1

def zeroV : V := .agg [.bool false, .nat 0, .nat 0]
def enc (n : Bool) (x y : Nat) : V :=
  bif Nat.beq x 0 then zeroV else fB n fun n => fN (Nat.gcd x y) fun g => fN (x / g) fun p => fN (y / g) fun q => bif Nat.beq q 1 then .agg [.bool n, .nat p, .nat 0] else .agg [.bool n, .nat p, .nat q]
theorem zero_RV (φ : Ph) : RV φ zeroV (rv 0) := ⟨_, rfl, rfl, rfl, rfl, trivial⟩
theorem enc_RV {n : Bool} {x y : Nat} (hy : 0 < y) (φ : Ph) : RV φ (enc n x y) (rv (fr n x y)) := by
  unfold enc
  rw [bif_beq]
  by_cases hx : x = 0
  · rw [if_pos hx, hx, fr_zero]; exact zero_RV φ
  · rw [if_neg hx, fB_eq, fN_eq, fN_eq, fN_eq, bif_beq, rv_fr (by omega) hy]
    split
    · exact ⟨_, rfl, rfl, rfl, rfl, trivial⟩
    · exact ⟨_, rfl, rfl, rfl, rfl, trivial⟩

def addT (n1 : Bool) (s1 d1 : Nat) (n2 : Bool) (s2 d2 : Nat) : V :=
  fN (s1 * dD d2) fun X => fN (s2 * dD d1) fun Y => fN (dD d1 * dD d2) fun Z =>
    bif n1 == n2 then enc n1 (X + Y) Z else bif Nat.ble Y X then enc n1 (X - Y) Z else enc n2 (Y - X) Z
theorem addT_RV {n1 n2 : Bool} {s1 d1 s2 d2 : Nat} (h1 : okT n1 s1 d1 = true) (h2 : okT n2 s2 d2 = true) (φ : Ph) : RV φ (addT n1 s1 d1 n2 s2 d2) (rv (rq n1 (bn s1) (bn d1) + rq n2 (bn s2) (bn d2))) := by
  obtain ⟨a1, a2, a3, -⟩ := okT_f h1
  obtain ⟨b1, b2, b3, -⟩ := okT_f h2
  have hZ : 0 < dD d1 * dD d2 := Nat.mul_pos (dD_pos _) (dD_pos _)
  rw [fr_add, a1, a2, a3, b1, b2, b3]
  unfold addT
  rw [fN_eq, fN_eq, fN_eq]
  by_cases hn : n1 = n2
  · subst hn
    rw [sgn_add_same]
    simp only [beq_self_eq_true, cond_true]
    exact enc_RV hZ φ
  · rw [show (n1 == n2) = false from by simpa using hn, cond_false]
    cases hb : Nat.ble (s2 * dD d1) (s1 * dD d2) with
    | true =>
      rw [sgn_add_diff hn (Nat.le_of_ble_eq_true hb), cond_true]
      exact enc_RV hZ φ
    | false =>
      have hlt : ¬ s2 * dD d1 ≤ s1 * dD d2 := fun h => by rw [Nat.ble_eq_true_of_le h] at hb; cases hb
      rw [Int.add_comm, sgn_add_diff (fun e => hn e.symm) (by omega), cond_false]
      exact enc_RV hZ φ
def mulT (n1 : Bool) (s1 d1 : Nat) (n2 : Bool) (s2 d2 : Nat) : V := fN (s1 * s2) fun X => fN (dD d1 * dD d2) fun Z => enc (n1 != n2) X Z
theorem mulT_RV {n1 n2 : Bool} {s1 d1 s2 d2 : Nat} (h1 : okT n1 s1 d1 = true) (h2 : okT n2 s2 d2 = true) (φ : Ph) : RV φ (mulT n1 s1 d1 n2 s2 d2) (rv (rq n1 (bn s1) (bn d1) * rq n2 (bn s2) (bn d2))) := by
  obtain ⟨a1, a2, a3, -⟩ := okT_f h1
  obtain ⟨b1, b2, b3, -⟩ := okT_f h2
  rw [fr_mul, a1, a2, a3, b1, b2, b3]
  unfold mulT
  rw [fN_eq, fN_eq]
  exact enc_RV (Nat.mul_pos (dD_pos _) (dD_pos _)) φ
def withB (x : V) (b : Bool) : V := .tcons x (.tcons (.c (.bool b)) .tnil)
theorem withB_RV {φ : Ph} {x : V} {q : Rat} {b : Bool} (h : RV φ x (rv q)) : RV φ (withB x b) (rvB q b) := ⟨rv q, [.bool b], rfl, h, .bool b, [], rfl, rfl, rfl⟩
def divT (n1 : Bool) (s1 d1 : Nat) (n2 : Bool) (s2 d2 : Nat) : V :=
  bif Nat.beq s2 0 then withB zeroV false else fN (s1 * dD d2) fun X => fN (dD d1 * s2) fun Z => withB (enc (n1 != n2) X Z) true
theorem divT_RV {n1 n2 : Bool} {s1 d1 s2 d2 : Nat} (h1 : okT n1 s1 d1 = true) (h2 : okT n2 s2 d2 = true) (φ : Ph) : RV φ (divT n1 s1 d1 n2 s2 d2) (rvB (divR (rq n1 (bn s1) (bn d1)) (rq n2 (bn s2) (bn d2))) (okR (rq n2 (bn s2) (bn d2)))) := by
  obtain ⟨a1, a2, a3, -⟩ := okT_f h1
  obtain ⟨b1, b2, b3, -⟩ := okT_f h2
  unfold divT divR okR
  rw [bif_beq]
  by_cases h0 : s2 = 0
  · have hq : rq n2 (bn s2) (bn d2) = 0 := nm_zero.mp (by rw [b2]; exact h0)
    rw [if_pos h0, hq, if_pos rfl]
    exact withB_RV (zero_RV φ)
  · have hq : ¬ rq n2 (bn s2) (bn d2) = 0 := fun e => h0 (by rw [← b2]; exact nm_zero.mpr e)
    rw [if_neg h0, if_neg hq, fr_div hq, a1, a2, a3, b1, b2, b3, fN_eq, fN_eq, show (!decide (rq n2 (bn s2) (bn d2) = 0)) = true by simp [hq]]
    exact withB_RV (enc_RV (Nat.mul_pos (dD_pos _) (by omega)) φ)
def cmpn (x y : Nat) : Int := bif Nat.blt x y then .negSucc 0 else bif Nat.beq x y then .ofNat 0 else .ofNat 1
def cmpT (n1 : Bool) (s1 d1 : Nat) (n2 : Bool) (s2 d2 : Nat) : Int :=
  match n1, n2 with
  | true, false => .negSucc 0
  | false, true => .ofNat 1
  | false, false => cmpn (s1 * dD d2) (s2 * dD d1)
  | true, true => cmpn (s2 * dD d1) (s1 * dD d2)
theorem cmpn_lt {x y : Nat} (h : x < y) : cmpn x y = -1 := by
  unfold cmpn
  rw [show Nat.blt x y = true from Nat.ble_eq_true_of_le h]; rfl
theorem cmpn_ge {x y : Nat} (h : ¬ x < y) : cmpn x y = if x = y then 0 else 1 := by
  unfold cmpn
  rw [show Nat.blt x y = false from by
    cases hb : Nat.blt x y with
    | true => exact absurd (Nat.le_of_ble_eq_true hb) h
    | false => rfl, cond_false, bif_beq]
  split <;> rfl
theorem cmpT_eq {n1 n2 : Bool} {s1 d1 s2 d2 : Nat} (h1 : okT n1 s1 d1 = true) (h2 : okT n2 s2 d2 = true) : cmpR (rq n1 (bn s1) (bn d1)) (rq n2 (bn s2) (bn d2)) = cmpT n1 s1 d1 n2 s2 d2 := by
  obtain ⟨a1, a2, a3, -⟩ := okT_f h1
  obtain ⟨b1, b2, b3, -⟩ := okT_f h2
  obtain ⟨va, -, -, za⟩ := okT_spec h1
  obtain ⟨vb, -, -, zb⟩ := okT_spec h2
  have na := (vld_num va).1
  have nb := (vld_num vb).1
  rw [nv_bn] at na nb
  generalize hp : rq n1 (bn s1) (bn d1) = p at *
  generalize hq : rq n2 (bn s2) (bn d2) = q at *
  have l1 := Rat.lt_iff p q
  have l2 := Rat.lt_iff q p
  rw [na, nb, a3, b3] at l1 l2
  have p1 := dD_pos d1
  have p2 := dD_pos d2
  have tri : ∀ c : Int, (p < q → c = -1) → (q < p → c = 1) → (p = q → c = 0) → cmpR p q = c := fun c t1 t2 t3 => by
    by_cases h1 : p < q
    · rw [cmpR_lt h1, t1 h1]
    · by_cases h2 : q < p
      · rw [cmpR_gt h2, t2 h2]
      · have h3 : p = q := Rat.le_antisymm (Rat.not_lt.mp h2) (Rat.not_lt.mp h1)
        rw [t3 h3, h3, cmpR_eq]
  have eqc : p = q → s1 * dD d2 = s2 * dD d1 := fun e => by rw [← a2, ← b2, ← a3, ← b3, e]
  have x1 : ((s1 * dD d2 : Nat) : Int) = (s1 : Int) * (dD d2 : Int) := by simp
  have x2 : ((s2 * dD d1 : Nat) : Int) = (s2 : Int) * (dD d1 : Int) := by simp
  cases n1 <;> cases n2
  · simp only [sgn, Bool.false_eq_true, if_false] at l1 l2
    rw [← x1, ← x2] at l1
    rw [← x1, ← x2] at l2
    show cmpR p q = cmpn (s1 * dD d2) (s2 * dD d1)
    refine tri _ (fun h => cmpn_lt (by have := l1.mp h; omega)) (fun h => ?_) (fun h => ?_)
    · have := l2.mp h
      rw [cmpn_ge (by omega), if_neg (by omega)]
    · have := eqc h
      rw [cmpn_ge (by omega), if_pos this]
  · have hs : s2 ≠ 0 := fun e => by have := zb e; cases this
    have hlt : q < p := l2.mpr (by
      simp only [sgn, if_true, Bool.false_eq_true, if_false]
      have : 0 < (s2 : Int) * (dD d1 : Int) := Int.mul_pos (by omega) (by omega)
      have h5 : 0 ≤ (s1 : Int) * (dD d2 : Int) := Int.mul_nonneg (by omega) (by omega)
      rw [Int.neg_mul]
      omega)
    rw [cmpR_gt hlt]; rfl
  · have hs : s1 ≠ 0 := fun e => by have := za e; cases this
    have hlt : p < q := l1.mpr (by
      simp only [sgn, if_true, Bool.false_eq_true, if_false]
      have : 0 < (s1 : Int) * (dD d2 : Int) := Int.mul_pos (by omega) (by omega)
      have h5 : 0 ≤ (s2 : Int) * (dD d1 : Int) := Int.mul_nonneg (by omega) (by omega)
      rw [Int.neg_mul]
      omega)
    rw [cmpR_lt hlt]; rfl
  · simp only [sgn, if_true, Int.neg_mul] at l1 l2
    rw [← x1, ← x2] at l1
    rw [← x1, ← x2] at l2
    show cmpR p q = cmpn (s2 * dD d1) (s1 * dD d2)
    refine tri _ (fun h => cmpn_lt (by have := l1.mp h; omega)) (fun h => ?_) (fun h => ?_)
    · have := l2.mp h
      rw [cmpn_ge (by omega), if_neg (by omega)]
    · have := eqc h
      rw [cmpn_ge (by omega), if_pos this.symm]
def signT (n : Bool) (s : Nat) : Int := bif Nat.beq s 0 then .ofNat 0 else bif n then .negSucc 0 else .ofNat 1
theorem signT_eq {n : Bool} {s d : Nat} (h : okT n s d = true) : sg (rq n (bn s) (bn d)) = signT n s := by
  obtain ⟨a1, a2, -⟩ := okT_f h
  unfold signT
  rw [bif_beq]
  by_cases h0 : s = 0
  · rw [if_pos h0, sg_zero (by rw [a2]; exact h0)]; rfl
  · rw [if_neg h0]
    cases n with
    | true => rw [sg_neg a1]; rfl
    | false => rw [sg_pos a1 (by rw [a2]; exact h0)]; rfl
def intT (i : Int) : V := match i with | .ofNat m => enc false m 1 | .negSucc m => enc true (m + 1) 1
theorem intT_RV (i : Int) (φ : Ph) : RV φ (intT i) (rv (i : Rat)) := by
  rw [← fr_int i]
  cases i with
  | ofNat m => exact enc_RV (n := false) (x := m) (y := 1) (Nat.le_refl 1) φ
  | negSucc m =>
    rw [show decide (Int.negSucc m < 0) = true from decide_eq_true (Int.negSucc_lt_zero m)]
    exact enc_RV (n := true) (x := m + 1) (y := 1) (Nat.le_refl 1) φ
end Go.Proofs.Ex

set_option linter.unusedSimpArgs false
set_option linter.unusedVariables false
namespace Go.Proofs.Ex
open Go.RowKit Go.Proofs.Ins

def cRat1 (f : Bool → Nat → Nat → V) : List V → Option V
  | [.agg [.bool n, .nat s, .nat d]] => bif okT n s d then some (f n s d) else none
  | _ => none
def cRat2 (f : Bool → Nat → Nat → Bool → Nat → Nat → V) : List V → Option V
  | [.agg [.bool n1, .nat s1, .nat d1], .agg [.bool n2, .nat s2, .nat d2]] => bif okT n1 s1 d1 && okT n2 s2 d2 then some (f n1 s1 d1 n2 s2 d2) else none
  | _ => none
def cNat2 (f : Nat → Nat → V) : List V → Option V
  | [.c (.nat a), .c (.nat b)] => bif sm a && sm b then some (f a b) else none
  | _ => none
def ratV (n : Bool) (s d : Nat) : V := .agg [.bool n, .nat s, .nat d]
def iV (i : Int) : V := match i with | .ofNat 0 => .c (.int .i64 (.ofNat 0)) | .ofNat (n + 1) => .c (.int .i64 (.ofNat (n + 1))) | .negSucc n => .c (.int .i64 (.negSucc n))
def cInt : List V → Option V
  | [.c (.int .i64 i)] => bif inR .i64 i then some (intT i) else none
  | _ => none
def cMake : List V → Option V
  | [.c (.bool n), .c (.nat a), .c (.nat b)] => bif sm a && sm b then some (bif Nat.beq b 0 then withB zeroV false else withB (enc n a b) true) else none
  | _ => none
def cFrom : List V → Option V
  | [.c (.int .u64 (.ofNat u))] => bif Nat.blt u 18446744073709551616 then some (.c (.nat u)) else none
  | _ => none
def subN (a b : Nat) : V := bif Nat.blt a b then .tcons (.c (.nat 0)) (.tcons (.c (.bool false)) .tnil) else fN (a - b) fun m => .tcons (.c (.nat m)) (.tcons (.c (.bool true)) .tnil)
def cDivN : List V → Option V
  | [.c (.nat a), .c (.nat b)] => bif sm a && (sm b && !Nat.beq b 0) then some (fN (a / b) fun q => fN (a % b) fun r => .tcons (.c (.nat q)) (.tcons (.c (.nat r)) (.tcons (.c (.bool true)) .tnil))) else none
  | _ => none
def natV (n : Nat) : V := fN n fun n => .c (.nat n)
/-- The functions that are taken by their contracts. -/
def ctr (f : Nat) (args : List V) : Option V :=
  if f = 56 then cRat2 addT args
  else if f = 42 then cRat2 (fun a b c d e f => iV (cmpT a b c d e f)) args
  else if f = 103 then cRat2 mulT args
  else if f = 101 then cRat2 divT args
  else if f = 71 then cRat1 (fun n s _ => iV (signT n s)) args
  else if f = 136 then cRat2 (fun a b c d e f => bif decide (cmpT a b c d e f ≤ 0) then ratV a b c else ratV d e f) args
  else if f = 27 then cRat2 (fun a b c d e f => bif decide (0 ≤ cmpT a b c d e f) then ratV a b c else ratV d e f) args
  else if f = 62 then cRat1 ratV args
  else if f = 63 then cRat2 addT args
  else if f = 120 then cRat1 (fun _ _ _ => .c (.bool true)) args
  else if f = 35 then cInt args
  else if f = 155 then cMake args
  else if f = 130 then cFrom args
  else if f = 121 then cNat2 (fun a b => natV (a + b)) args
  else if f = 122 then cNat2 subN args
  else if f = 82 then cNat2 (fun a b => natV (a * b)) args
  else if f = 128 then cNat2 (fun a b => natV (Nat.gcd a b)) args
  else if f = 129 then cDivN args
  else none
/-- Functions by their numbers. -/
inductive FT where
  | leaf
  | node (k : Nat) (F : AF) (l r : FT)
def FT.find : FT → Nat → Option AF
  | .leaf, _ => none
  | .node k F l r, f => bif Nat.beq f k then some F else bif Nat.blt f k then l.find f else r.find f
def FT.all (p : Nat → AF → Bool) : FT → Bool
  | .leaf => true
  | .node k F l r => p k F && (l.all p && r.all p)
theorem FT.find_all {p : Nat → AF → Bool} {f : Nat} {F : AF} : ∀ {t : FT}, t.all p = true → t.find f = some F → p f F = true
  | .leaf, _, h => by cases h
  | .node k G l r, ha, h => by
    simp only [FT.all, Bool.and_eq_true] at ha
    unfold FT.find at h
    rw [bif_beq] at h
    split at h
    · next e => cases h; rw [e]; exact ha.1
    · cases hb : Nat.blt f k with
      | true => rw [hb] at h; exact FT.find_all ha.2.1 h
      | false => rw [hb] at h; exact FT.find_all ha.2.2 h
def kI (n : Nat) : O := .k (.c (.int .i64 (.ofNat n)))
def kF (n : Nat) : O := .k (.fn n [])
def d (n : Nat) : Option Nat := some n
def isT : Option (V × St) → Bool
  | some (.c (.bool true), _) => true
  | _ => false
end Go.Proofs.Ex
