/- Comparing two numbers by their parts. -/
import Derived.Test.YthplmloambdmlaaGreatDoorZ1
import Derived.IntWalk
import Derived.Test.YthplmloambdmlaaGreatDoorProg
import Derived.Deep.QuietTactic
import Derived.BigQuiet
import Derived.StillTailTactics
import Derived.Lib.Strings
import Derived.Lib.Hide
import Derived.Lib.Bytealg

set_option linter.unusedSimpArgs false
set_option linter.unusedVariables false
namespace Go.Proofs.Ins

/-- The three fields of a number. -/
def rn (q : Rat) : Bool := decide (q.num < 0)
def rs (q : Rat) : ByteArray := bn q.num.natAbs
def rd (q : Rat) : ByteArray := if q.den = 1 then ⟨#[]⟩ else bn q.den

/-- An integer out of a sign and an absolute value. -/
def sgn (n : Bool) (x : Nat) : Int := if n = true then -(x : Int) else (x : Int)
theorem sgn_natAbs (n : Bool) (x : Nat) : (sgn n x).natAbs = x := by unfold sgn; cases n <;> simp
theorem sgn_zero (n : Bool) : sgn n 0 = 0 := by unfold sgn; cases n <;> simp
theorem sgn_neg (n : Bool) {x : Nat} (h : 0 < x) : decide (sgn n x < 0) = n := by unfold sgn; cases n <;> simp; omega
theorem sgn_eq_zero {n : Bool} {x : Nat} : sgn n x = 0 ↔ x = 0 := by
  constructor
  · intro h; have := sgn_natAbs n x; rw [h] at this; exact this.symm
  · rintro rfl; exact sgn_zero n
theorem sgn_mul (n m : Bool) (x y : Nat) : sgn n x * sgn m y = sgn (n != m) (x * y) := by
  unfold sgn; cases n <;> cases m <;> simp [Int.neg_mul, Int.mul_neg]
theorem sgn_self (i : Int) : sgn (decide (i < 0)) i.natAbs = i := by
  unfold sgn; by_cases h : i < 0
  · simp [h]; omega
  · simp [h]; omega

/-- The denominator that a third field stands for. -/
def dn (d : ByteArray) : Nat := if nv d = 0 then 1 else nv d
theorem dn_pos (d : ByteArray) : 0 < dn d := by unfold dn; split <;> omega
theorem dn_rd (q : Rat) : dn (rd q) = q.den := by
  unfold dn rd
  by_cases h : q.den = 1
  · rw [if_pos h, h]; rfl
  · rw [if_neg h, nv_bn, if_neg (by have := q.den_pos; omega)]

/-- Three fields are a valid number. -/
def vld (n : Bool) (s d : ByteArray) : Prop :=
  bn (nv s) = s ∧ bn (nv d) = d ∧ (nv s = 0 → n = false ∧ nv d = 0) ∧ (nv d = 0 ∨ (nv d ≠ 1 ∧ Nat.gcd (nv s) (nv d) = 1))
instance (n : Bool) (s d : ByteArray) : Decidable (vld n s d) := by unfold vld; infer_instance

/-- The number that three fields stand for; 0 where they are not valid. -/
def rq (n : Bool) (s d : ByteArray) : Rat := if vld n s d then mkRat (sgn n (nv s)) (dn d) else 0

theorem vld_of (q : Rat) : vld (rn q) (rs q) (rd q) := by
  unfold vld
  have hd := q.den_pos
  have e : nv (rd q) = if q.den = 1 then 0 else q.den := by
    unfold rd; split
    · rfl
    · exact nv_bn _
  refine ⟨by unfold rs; rw [nv_bn], ?_, ?_, ?_⟩
  · unfold rd; split
    · rfl
    · rw [nv_bn]
  · intro h
    unfold rs at h
    rw [nv_bn] at h
    have h0 : q.num = 0 := by omega
    have h1 : q = 0 := Rat.num_eq_zero.mp h0
    subst h1
    exact ⟨rfl, rfl⟩
  · rw [e]
    by_cases h1 : q.den = 1
    · rw [if_pos h1]; exact .inl rfl
    · rw [if_neg h1]
      refine .inr ⟨h1, ?_⟩
      unfold rs; rw [nv_bn]; exact q.reduced

theorem rq_of (q : Rat) : rq (rn q) (rs q) (rd q) = q := by
  unfold rq
  rw [if_pos (vld_of q), dn_rd]
  unfold rs rn
  rw [nv_bn, sgn_self, Rat.mkRat_self]

theorem vld_num {n : Bool} {s d : ByteArray} (h : vld n s d) : (rq n s d).num = sgn n (nv s) ∧ (rq n s d).den = dn d := by
  obtain ⟨h1, h2, h3, h4⟩ := h
  unfold rq
  rw [if_pos ⟨h1, h2, h3, h4⟩]
  have hg : (dn d).gcd (sgn n (nv s)).natAbs = 1 := by
    rw [sgn_natAbs]
    unfold dn
    rcases h4 with h4 | ⟨h5, h6⟩
    · rw [if_pos h4]; exact Nat.gcd_one_left _
    · by_cases h7 : nv d = 0
      · rw [if_pos h7]; exact Nat.gcd_one_left _
      · rw [if_neg h7, Nat.gcd_comm]; exact h6
  have hd := dn_pos d
  constructor
  · rw [Rat.num_mkRat, if_neg (by omega), hg]; simp
  · rw [Rat.den_mkRat, if_neg (by omega), hg]; simp

theorem vld_fields {n : Bool} {s d : ByteArray} (h : vld n s d) : rn (rq n s d) = n ∧ rs (rq n s d) = s ∧ rd (rq n s d) = d := by
  obtain ⟨e1, e2⟩ := vld_num h
  obtain ⟨h1, h2, h3, h4⟩ := h
  refine ⟨?_, ?_, ?_⟩
  · unfold rn; rw [e1]
    rcases Nat.eq_zero_or_pos (nv s) with h5 | h5
    · rw [h5, sgn_zero, (h3 h5).1]; rfl
    · exact sgn_neg n h5
  · unfold rs; rw [e1, sgn_natAbs, h1]
  · unfold rd; rw [e2]; unfold dn
    rcases h4 with h4 | ⟨h5, h6⟩
    · rw [if_pos h4, if_pos rfl, ← h2, h4]; rfl
    · by_cases h7 : nv d = 0
      · rw [if_pos h7, if_pos rfl, ← h2, h7]; rfl
      · rw [if_neg h7, if_neg h5, h2]

theorem rq_bad {n : Bool} {s d : ByteArray} (h : ¬ vld n s d) : rq n s d = 0 := by unfold rq; rw [if_neg h]

theorem rn_zero : rn 0 = false := rfl
theorem rs_zero : rs 0 = ⟨#[]⟩ := rfl
theorem rd_zero : rd 0 = ⟨#[]⟩ := rfl

theorem fields_inj {p q : Rat} (h1 : rn p = rn q) (h2 : rs p = rs q) (h3 : rd p = rd q) : p = q := by
  rw [← rq_of p, ← rq_of q, h1, h2, h3]

/-- A fraction with a sign. -/
def fr (n : Bool) (x y : Nat) : Rat := mkRat (sgn n x) y

theorem fr_zero (n : Bool) (y : Nat) : fr n 0 y = 0 := by unfold fr; rw [sgn_zero, Rat.zero_mkRat]

theorem fr_num {n : Bool} {x y : Nat} (hy : 0 < y) : (fr n x y).num = sgn n (x / Nat.gcd x y) ∧ (fr n x y).den = y / Nat.gcd x y := by
  unfold fr
  have hg : y.gcd (sgn n x).natAbs = Nat.gcd x y := by rw [sgn_natAbs, Nat.gcd_comm]
  constructor
  · rw [Rat.num_mkRat, if_neg (by omega), hg]
    have hdv : (Nat.gcd x y) ∣ x := Nat.gcd_dvd_left x y
    unfold sgn
    cases n
    · simp
    · simp only [if_true]
      rw [Int.neg_ediv_of_dvd (by exact_mod_cast hdv), Int.natCast_ediv]
  · rw [Rat.den_mkRat, if_neg (by omega), hg]

theorem fr_fields {n : Bool} {x y : Nat} (hx : 0 < x) (hy : 0 < y) : rn (fr n x y) = n ∧ rs (fr n x y) = bn (x / Nat.gcd x y) ∧ rd (fr n x y) = if y / Nat.gcd x y = 1 then ⟨#[]⟩ else bn (y / Nat.gcd x y) := by
  obtain ⟨e1, e2⟩ := fr_num (n := n) (x := x) hy
  have h0 : 0 < x / Nat.gcd x y := Nat.div_pos (Nat.gcd_le_left y hx) (Nat.gcd_pos_of_pos_left y hx)
  refine ⟨?_, ?_, ?_⟩
  · unfold rn; rw [e1]; exact sgn_neg n h0
  · unfold rs; rw [e1, sgn_natAbs]
  · unfold rd; rw [e2]

/-- The two parts of a number. -/
def nm (q : Rat) : Nat := q.num.natAbs
theorem nm_rs (q : Rat) : nv (rs q) = nm q := nv_bn _
theorem fr_self (q : Rat) : fr (rn q) (nm q) q.den = q := by unfold fr rn nm; rw [sgn_self, Rat.mkRat_self]
theorem sgn_rn (q : Rat) : sgn (rn q) (nm q) = q.num := sgn_self _
theorem nm_zero {q : Rat} : nm q = 0 ↔ q = 0 := by
  unfold nm; rw [← Rat.num_eq_zero]; omega
theorem rs_zero_iff {q : Rat} : rs q = ⟨#[]⟩ ↔ q = 0 := by
  unfold rs; rw [bn_eq_empty]; exact nm_zero
theorem rn_true {q : Rat} : rn q = true ↔ q < 0 := by
  unfold rn; rw [decide_eq_true_iff, Rat.lt_iff]; simp
theorem rn_false {q : Rat} : rn q = false ↔ 0 ≤ q := by
  unfold rn; rw [decide_eq_false_iff_not, ← Rat.num_nonneg]; omega

theorem fr_mul (a b : Rat) : a * b = fr (rn a != rn b) (nm a * nm b) (a.den * b.den) := by
  unfold fr
  rw [← sgn_mul, sgn_rn, sgn_rn, Rat.mul_def']

theorem fr_div {a b : Rat} (hb : b ≠ 0) : a / b = fr (rn a != rn b) (nm a * b.den) (a.den * nm b) := by
  have h1 : 0 < nm b := Nat.pos_of_ne_zero fun h => hb (nm_zero.mp h)
  have h2 : fr (rn a != rn b) (nm a * b.den) (a.den * nm b) * b = a := by
    rw [fr_mul]
    have e1 := fr_self a
    have hd := a.den_pos
    have hbd := b.den_pos
    generalize hz : fr (rn a != rn b) (nm a * b.den) (a.den * nm b) = z
    have hz0 : z = mkRat (sgn (rn a != rn b) (nm a * b.den)) (a.den * nm b) := hz.symm
    rw [← fr_mul, hz0, ← fr_self b]
    unfold fr
    rw [Rat.mkRat_mul_mkRat, sgn_mul]
    rw [show nm (mkRat (sgn (rn b) (nm b)) b.den) = nm b by have := fr_self b; unfold fr at this; rw [this]]
    rw [show rn (mkRat (sgn (rn b) (nm b)) b.den) = rn b by have := fr_self b; unfold fr at this; rw [this]]
    rw [show (mkRat (sgn (rn b) (nm b)) b.den).den = b.den by have := fr_self b; unfold fr at this; rw [this]]
    have e3 : ((rn a != rn b) != rn b) = rn a := by cases rn a <;> cases rn b <;> rfl
    rw [e3]
    have e4 : sgn (rn a) (nm a * b.den * nm b) = sgn (rn a) (nm a) * ((b.den * nm b : Nat) : Int) := by
      unfold sgn; cases rn a <;> simp [Int.mul_assoc, Int.neg_mul]
    rw [e4, sgn_rn]
    rw [show a.den * nm b * b.den = a.den * (b.den * nm b) by rw [Nat.mul_assoc, Nat.mul_comm (nm b)]]
    rw [Rat.mkRat_mul_right (by have := Nat.mul_pos hbd h1; omega), Rat.mkRat_self]
  rw [Rat.div_def]
  have h3 : fr (rn a != rn b) (nm a * b.den) (a.den * nm b) * (b * b⁻¹) = a * b⁻¹ := by rw [← Rat.mul_assoc, h2]
  rw [Rat.mul_inv_cancel _ hb, Rat.mul_one] at h3
  exact h3.symm

theorem fr_add (a b : Rat) : a + b = mkRat (sgn (rn a) (nm a * b.den) + sgn (rn b) (nm b * a.den)) (a.den * b.den) := by
  rw [Rat.add_def']
  congr 2
  · rw [← sgn_rn a]; unfold sgn; cases rn a <;> simp [Int.neg_mul]
  · rw [← sgn_rn b]; unfold sgn; cases rn b <;> simp [Int.neg_mul]

theorem sgn_add_same (n : Bool) (x y : Nat) : sgn n x + sgn n y = sgn n (x + y) := by unfold sgn; cases n <;> simp; omega
theorem sgn_add_diff {n m : Bool} (h : n ≠ m) {x y : Nat} (hle : y ≤ x) : sgn n x + sgn m y = sgn n (x - y) := by
  unfold sgn; cases n <;> cases m <;> simp at h <;> simp <;> omega

/-- A sum over a common denominator. -/
theorem fr_add_same {a b : Rat} (h : a.den = b.den) : a + b = mkRat (sgn (rn a) (nm a) + sgn (rn b) (nm b)) a.den := by
  have hd := a.den_pos
  rw [fr_add, ← h]
  have e : sgn (rn a) (nm a * a.den) + sgn (rn b) (nm b * a.den) = (sgn (rn a) (nm a) + sgn (rn b) (nm b)) * (a.den : Int) := by
    rw [Int.add_mul]; congr 1
    · unfold sgn; cases rn a <;> simp [Int.neg_mul]
    · unfold sgn; cases rn b <;> simp [Int.neg_mul]
  rw [e, Rat.mkRat_mul_right (by omega)]

/-- The sign. -/
def sg (q : Rat) : Int := if q = 0 then 0 else if q < 0 then -1 else 1
/-- Go's comparison. -/
def cmpR (a b : Rat) : Int := sg (a - b)

theorem sg_zero {q : Rat} (h : nm q = 0) : sg q = 0 := by unfold sg; rw [if_pos (nm_zero.mp h)]
theorem sg_neg {q : Rat} (h : rn q = true) : sg q = -1 := by
  have h1 := rn_true.mp h
  unfold sg; rw [if_neg (by rintro rfl; exact Rat.lt_irrefl h1), if_pos h1]
theorem sg_pos {q : Rat} (h : rn q = false) (h2 : nm q ≠ 0) : sg q = 1 := by
  have h1 := rn_false.mp h
  unfold sg; rw [if_neg (fun e => h2 (nm_zero.mpr e)), if_neg (by rw [Rat.not_lt]; exact h1)]

theorem cmpR_lt {a b : Rat} (h : a < b) : cmpR a b = -1 := by
  unfold cmpR sg
  have h1 : a - b < 0 := by grind
  rw [if_neg (by intro e; rw [e] at h1; exact Rat.lt_irrefl h1), if_pos h1]
theorem cmpR_gt {a b : Rat} (h : b < a) : cmpR a b = 1 := by
  unfold cmpR sg
  have h1 : 0 < a - b := by grind
  rw [if_neg (by intro e; rw [e] at h1; exact Rat.lt_irrefl h1), if_neg (by grind)]
theorem cmpR_eq (a : Rat) : cmpR a a = 0 := by
  unfold cmpR; rw [Rat.sub_self]; rfl
theorem cmpR_le_zero {a b : Rat} : cmpR a b ≤ 0 ↔ a ≤ b := by
  rcases Rat.le_total (a := a) (b := b) with h | h
  · rcases Rat.le_iff_lt_or_eq.mp h with h1 | rfl
    · rw [cmpR_lt h1]; simp [h]
    · rw [cmpR_eq]; simp [h]
  · rcases Rat.le_iff_lt_or_eq.mp h with h1 | rfl
    · rw [cmpR_gt h1]; constructor
      · intro h; omega
      · intro h; exact absurd h (Rat.not_le.mpr h1)
    · rw [cmpR_eq]; simp [h]
theorem cmpR_lt_zero {a b : Rat} : cmpR a b < 0 ↔ a < b := by
  constructor
  · intro h
    rcases Rat.le_total (a := b) (b := a) with h1 | h1
    · rcases Rat.le_iff_lt_or_eq.mp h1 with h2 | rfl
      · rw [cmpR_gt h2] at h; omega
      · rw [cmpR_eq] at h; omega
    · rcases Rat.le_iff_lt_or_eq.mp h1 with h2 | rfl
      · exact h2
      · rw [cmpR_eq] at h; omega
  · intro h; rw [cmpR_lt h]; omega

/-- Bounds of both parts, by bytes. -/
def Sm (k : Nat) (q : Rat) : Prop := nm q < 256 ^ k ∧ q.den < 256 ^ k

theorem Sm.mono {k l : Nat} {q : Rat} (h : Sm k q) (hkl : k ≤ l) : Sm l q :=
  ⟨Nat.lt_of_lt_of_le h.1 (Nat.pow_le_pow_right (by omega) hkl), Nat.lt_of_lt_of_le h.2 (Nat.pow_le_pow_right (by omega) hkl)⟩
theorem Sm.rs {k : Nat} {q : Rat} (h : Sm k q) : (rs q).size ≤ k := bn_size_le h.1
theorem Sm.rd {k : Nat} {q : Rat} (h : Sm k q) : (rd q).size ≤ k := by
  unfold Ins.rd; split
  · exact Nat.zero_le _
  · exact bn_size_le h.2
theorem sm_zero (k : Nat) (hk : 0 < k) : Sm k 0 := ⟨Nat.pow_pos (by omega), by
  show 1 < 256 ^ k
  exact Nat.one_lt_pow (by omega) (by omega)⟩
theorem sm_rq {n : Bool} {s d : ByteArray} {k : Nat} (hs : s.size ≤ k) (hd : d.size ≤ k) (hk : 0 < k) : Sm k (rq n s d) := by
  by_cases h : vld n s d
  · obtain ⟨e1, e2⟩ := vld_num h
    constructor
    · unfold nm; rw [e1, sgn_natAbs]
      exact Nat.lt_of_lt_of_le (nv_lt s) (Nat.pow_le_pow_right (by omega) hs)
    · rw [e2]; unfold dn
      split
      · exact Nat.one_lt_pow (by omega) (by omega)
      · exact Nat.lt_of_lt_of_le (nv_lt d) (Nat.pow_le_pow_right (by omega) hd)
  · rw [rq_bad h]; exact sm_zero k hk
theorem sm_fr {n : Bool} {x y k : Nat} (hx : x < 256 ^ k) (hy : y < 256 ^ k) (hy0 : 0 < y) : Sm k (fr n x y) := by
  obtain ⟨e1, e2⟩ := fr_num (n := n) (x := x) hy0
  constructor
  · unfold nm; rw [e1, sgn_natAbs]; exact Nat.lt_of_le_of_lt (Nat.div_le_self _ _) hx
  · rw [e2]; exact Nat.lt_of_le_of_lt (Nat.div_le_self _ _) hy
theorem pow_mul_lt {x y k l : Nat} (hx : x < 256 ^ k) (hy : y < 256 ^ l) : x * y < 256 ^ (k + l) := by
  rw [Nat.pow_add]
  have h0 : 0 < 256 ^ k := Nat.pow_pos (by omega)
  rcases Nat.eq_zero_or_pos y with rfl | h
  · rw [Nat.mul_zero]; exact Nat.mul_pos h0 (Nat.pow_pos (by omega))
  · exact Nat.lt_of_lt_of_le (Nat.mul_lt_mul_of_pos_right hx h) (Nat.mul_le_mul_left _ (Nat.le_of_lt hy))
theorem Sm.mul {k l : Nat} {a b : Rat} (h : Sm k a) (h2 : Sm l b) : Sm (k + l) (a * b) := by
  rw [fr_mul]; exact sm_fr (pow_mul_lt h.1 h2.1) (pow_mul_lt h.2 h2.2) (Nat.mul_pos a.den_pos b.den_pos)
theorem Sm.div {k l : Nat} {a b : Rat} (h : Sm k a) (h2 : Sm l b) (hb : b ≠ 0) : Sm (k + l) (a / b) := by
  rw [fr_div hb]
  exact sm_fr (pow_mul_lt h.1 h2.2) (pow_mul_lt h.2 h2.1) (Nat.mul_pos a.den_pos (Nat.pos_of_ne_zero fun h => hb (nm_zero.mp h)))
theorem mkRat_fr (i : Int) (y : Nat) : mkRat i y = fr (decide (i < 0)) i.natAbs y := by unfold fr; rw [sgn_self]
theorem Sm.add {k l : Nat} {a b : Rat} (h : Sm k a) (h2 : Sm l b) : Sm (k + l + 1) (a + b) := by
  rw [fr_add, mkRat_fr]
  have h3 := pow_mul_lt h.1 h2.2
  have h4 := pow_mul_lt h2.1 h.2
  have h5 := pow_mul_lt h.2 h2.2
  rw [Nat.add_comm l k] at h4
  have e : (256 : Nat) ^ (k + l + 1) = 256 * 256 ^ (k + l) := by rw [Nat.pow_succ, Nat.mul_comm]
  refine sm_fr ?_ (by rw [e]; omega) (Nat.mul_pos a.den_pos b.den_pos)
  have h6 : (sgn (rn a) (nm a * b.den) + sgn (rn b) (nm b * a.den)).natAbs ≤ nm a * b.den + nm b * a.den := by
    have := Int.natAbs_add_le (sgn (rn a) (nm a * b.den)) (sgn (rn b) (nm b * a.den))
    rw [sgn_natAbs, sgn_natAbs] at this; exact this
  rw [e]; omega
theorem Sm.neg {k : Nat} {a : Rat} (h : Sm k a) : Sm k (-a) := by
  refine ⟨?_, h.2⟩
  have : nm (-a) = nm a := by unfold nm; rw [Rat.neg_num]; exact Int.natAbs_neg _
  rw [this]; exact h.1
theorem rn_neg {a : Rat} (h : nm a ≠ 0) : rn (-a) = !(rn a) := by
  unfold rn; rw [Rat.neg_num]; unfold nm at h
  generalize a.num = i at *
  by_cases h1 : i < 0
  · rw [decide_eq_true h1, decide_eq_false (by omega)]; rfl
  · rw [decide_eq_false h1, decide_eq_true (by omega)]; rfl
theorem rs_neg (a : Rat) : rs (-a) = rs a := by unfold rs; rw [Rat.neg_num, Int.natAbs_neg]
theorem rd_neg (a : Rat) : rd (-a) = rd a := rfl
theorem nm_neg (a : Rat) : nm (-a) = nm a := by unfold nm; rw [Rat.neg_num, Int.natAbs_neg]
theorem Sm.sub {k l : Nat} {a b : Rat} (h : Sm k a) (h2 : Sm l b) : Sm (k + l + 1) (a - b) := by
  rw [Rat.sub_eq_add_neg]; exact h.add h2.neg
end Go.Proofs.Ins

set_option linter.unusedSimpArgs false
set_option linter.unusedVariables false
namespace Go.Proofs.Ins
open Go.RowKit
theorem ar9 : type_of% (And.intro @IntWalk.i64_in (And.intro @IntWalk.u64_in (And.intro @IntWalk.u32_in (And.intro @IntWalk.u16_in (And.intro @IntWalk.u8_in (And.intro @Int.tmod_eq_emod_of_nonneg @Int.tdiv_eq_ediv_of_nonneg)))))) :=
  And.intro @IntWalk.i64_in (And.intro @IntWalk.u64_in (And.intro @IntWalk.u32_in (And.intro @IntWalk.u16_in (And.intro @IntWalk.u8_in (And.intro @Int.tmod_eq_emod_of_nonneg @Int.tdiv_eq_ediv_of_nonneg)))))
theorem gl9 : type_of% (And.intro @List.filterMap_cons (And.intro @List.filterMap_nil (And.intro @List.getElem?_cons_zero @List.getElem?_cons_succ))) :=
  And.intro @List.filterMap_cons (And.intro @List.filterMap_nil (And.intro @List.getElem?_cons_zero @List.getElem?_cons_succ))
end Go.Proofs.Ins

set_option linter.unusedSimpArgs false
set_option linter.unusedVariables false
namespace Go.Proofs.Ins
open Go.RowKit

theorem u32info : (Tryz.prog.info? 215).map (fun i => (i.zero, i.size, i.bytes)) = some (some (.int .u32 0), 1, 4) := by kernel_rfl
theorem u8info : (Tryz.prog.info? 5).map (fun i => (i.zero, i.size, i.bytes)) = some (some (.int .u8 0), 1, 1) := by kernel_rfl

/-- A number handed back as limbs; the world below is as it was. -/
def RetLimbs (w : World) (x : Nat) (e : Ending) (w' : World) : Prop :=
  ∃ a len cap, e = .returned (.slice a len cap) ∧ len ≤ cap ∧ cap ≤ 9223372036854775807 ∧ Limbs w' a len x ∧ Below w.heap.size w w'

set_option maxHeartbeats 400000 in
theorem trim_walk (b off len cap : Nat) (xs : Nat → Nat) (n : Nat) (w : World) (hl : len ≤ 4294967296) (hcap : len ≤ cap)
   (hc : ∀ j, j < len → w.cell? ⟨b, off + j, none⟩ = some (.int .u32 (xs j)))
   (hn : n ≤ len) (hz : ∀ j, n ≤ j → j < len → xs j = 0) (hnz : n = 0 ∨ xs (n-1) ≠ 0) :
    Calls Tryz.prog 227 #[.slice (some ⟨b, off, none⟩) len cap] w fun e w' => e = .returned (.slice (some ⟨b, off, none⟩) n cap) ∧ w = w' := by
  go_enter Tryz.func227, Tryz.ntmps227
  go_wp2
  go_loop [3] (fun i => ∃ k : Nat, i = .int .i64 k ∧ n ≤ k ∧ k ≤ len) (fun i => (intOf i).toNat)
  case atStart => exact ⟨len, rfl, hn, by omega⟩
  case round =>
    obtain ⟨k, rfl, h1, h2⟩ := hrel
    by_cases hk : k = n
    · subst hk
      by_cases h0 : k = 0
      · subst h0
        go_wp2
        go_ret
        exact ⟨rfl, rfl⟩
      · have h3 : xs (k-1) ≠ 0 := by omega
        have hcell := hc (k-1) (by omega)
        clear hc hz
        have hb : ((xs (k-1) : Int) == 0) = false := by simp; omega
        go_wp2
        go_ret
        exact ⟨rfl, rfl⟩
    · have hcell := hc (k-1) (by omega)
      have hz1 := hz (k-1) (by omega) (by omega)
      clear hc hz
      rw [hz1] at hcell
      clear hz1
      go_wp2
      go_round
      case rel => exact ⟨k-1, by go_num, by omega, by omega⟩
      case measure => simp [intOf]; omega

/-- A row of the call's own, trimmed. -/
theorem trim_row (w0 : World) (b len : Nat) (T : TypeId) (f : Nat → Nat) (w : World) (hl : len ≤ 4294967296) (hr : Row w b T .u32 len f) (hf : ∀ j, j < len → f j < LB) (hbel : Below w0.heap.size w0 w) :
    Calls Tryz.prog 227 #[.slice (some ⟨b, 0, none⟩) len len] w (RetLimbs w0 (lv f len)) :=
  (trim_walk b 0 len len f (tlen f len) w hl (Nat.le_refl _) hr.reads (tlen_le f len) (tlen_zero f len) (tlen_top f len)).mono (by
    rintro e w' ⟨rfl, rfl⟩
    refine ⟨_, _, _, rfl, tlen_le f len, (by omega), ⟨f, tlen_lv f len, tlen_can hf, ?_⟩, hbel⟩
    exact .inr ⟨b, 0, rfl, fun j hj => hr.reads j (Nat.lt_of_lt_of_le hj (tlen_le f len))⟩)

set_option maxRecDepth 100000 in
set_option maxHeartbeats 400000 in
theorem parse_any (s : ByteArray) (w : World) (hs : s.size ≤ 1073741824) :
    Calls Tryz.prog 150 #[.string s] w (RetLimbs w (nv s)) := by
  obtain ⟨n, hn1, hn2, hn⟩ : ∃ n, s.size ≤ 4 * n ∧ 4 * n ≤ s.size + 3 ∧ Hid (n = (s.size + 3) / 4) := ⟨_, by omega, by omega, rfl⟩
  go_enter Tryz.func150, Tryz.ntmps150
  go_wp2_with (refine wpList_makeT _ _ 213 215 .u32 4 n _ rfl rfl Tryz.underlying213 u32info rfl rfl (by have := hn.out; omega) (by omega) (by omega) ?_; intro w1 hr1 hb1 hz1)
  go_loopw [13] (fun i wr => ∃ k : Nat, i = .int .i64 k ∧ k ≤ s.size ∧ Row wr w.heap.size 215 .u32 n (pw (byt s) k) ∧ Below w.heap.size w wr) (fun i _ => s.size - (intOf i).toNat)
  case atStart => exact ⟨0, rfl, by omega, hr1.congr (fun j _ => (pw_zero _ _).symm), hb1⟩
  case round =>
    obtain ⟨k, rfl, hk, hrow, hbel⟩ := hrel
    clear hr1 hb1 hz1
    by_cases hlt : k < s.size
    · have hcell := hrow.cell (j := k/4) (by omega)
      have hfr := hrow.frozen (k/4)
      go_wp2
      have q2 : ((k : Int) / 4).toNat = k / 4 := by omega
      have q9 : ((s.size : Int) - 1 - k).toNat = s.size - 1 - k := by omega
      refine wp_region_still_tail 19 (by kernel_rfl) (by kernel_rfl) ?_
      simp only [List.take_succ_cons, List.take_zero, List.drop_succ_cons, List.drop_zero]
      repeat (refine wpStill_step (fun K hK => ?_); go_simp; (try simp (disch := omega) only [ar9]); (first | (refine hK _ ?_; clear hK K) | (simp (disch := omega) only [if_pos, dif_pos, if_neg, dif_neg, ar9]; go_simp; refine hK _ ?_; clear hK K)))
      refine wpStill_nil ?_
      change wpList _ _ _ _ _ (World.drew _)
      go_wp2
      go_round
      case rel =>
        refine ⟨k+1, by go_num, by omega, ?_, (hbel.setCell (Nat.le_refl _) _).drew⟩
        have hb := byt_lt (s) k
        have hx := pw_low (byt_lt s) k
        have hy := pw_lt (byt_lt s) (k+1) (k/4)
        rw [pw_next, upd_same] at hy
        rw [byt_eq s k (by omega)]
        have e1 : ((byt s k : Int) % 4294967296) = (byt s k : Int) := by omega
        have e2 : (byt s k : Int) * 2 ^ (8 * (k % 4)) % 4294967296 = (byt s k : Int) * 2 ^ (8 * (k % 4)) := by
          have : byt s k * 2 ^ (8 * (k % 4)) < 4294967296 := by unfold LB at hy; omega
          have h3 : (byt s k : Int) * 2 ^ (8 * (k % 4)) = ((byt s k * 2 ^ (8 * (k % 4)) : Nat) : Int) := by push_cast; rfl
          rw [h3]; omega
        rw [e1, e2, or_u32 _ _ _ hx hy]
        exact (hrow.set (k/4) _).drew.congr fun j _ => (pw_next _ _ _).symm
      case measure => simp [intOf]; omega
    · obtain rfl : k = s.size := by omega
      go_wp2_with fail
      refine (trim_row w _ n 215 _ _ (by omega) hrow (fun j _ => pw_lt (byt_lt s) _ j) hbel).mono ?_
      rintro e w' ⟨a, len, cap, rfl, h1, h2, h3, h4⟩
      rw [lv_pw _ hn1, bl_byt] at h3
      go_wp2
      go_ret
      exact ⟨a, len, cap, rfl, h1, h2, h3, h4⟩

/-- The bytes of a string in a slot, for a measure. -/
def szOf : Value → Nat | .string s => s.size | _ => 0

theorem nv_tail (t : ByteArray) (h : 0 < t.size) (h0 : t[0].toNat = 0) : nv (t.extract 1 t.size) = nv t ∧ (t.extract 1 t.size).size + 1 = t.size := by
  have e : (t.extract 1 t.size).data.toList = t.data.toList.tail := by
    rw [Lib.extract_data]
    simp
    rw [List.take_of_length_le]
    rw [List.length_tail]
    exact Nat.le_refl _
  constructor
  · unfold nv
    rw [e]
    have hs : t.data.toList.length = t.size := rfl
    cases hl : t.data.toList with
    | nil => rw [hl] at hs; simp at hs; omega
    | cons x r =>
      have hx : t[0] = x := by
        have : t[0] = t.data.toList[0]'(by rw [hs]; exact h) := rfl
        rw [this]; simp [hl]
      rw [hx] at h0
      rw [List.tail_cons, bv_cons, h0]; simp
  · have h2 : (t.extract 1 t.size).data.toList.length = t.data.toList.tail.length := by rw [e]
    have h3 : t.data.toList.length = t.size := rfl
    have h4 : (t.extract 1 t.size).data.toList.length = (t.extract 1 t.size).size := rfl
    rw [List.length_tail] at h2; omega

theorem bn_head {t : ByteArray} (h : 0 < t.size) (h0 : t[0].toNat ≠ 0) : bn (nv t) = t := by
  apply bn_unique
  have hs : t.data.toList.length = t.size := rfl
  cases hl : t.data.toList with
  | nil => simp
  | cons x r =>
    have hx : t[0] = x := by
      have : t[0] = t.data.toList[0]'(by rw [hs]; exact h) := rfl
      rw [this]; simp [hl]
    rw [hx] at h0
    simp only [List.head?_cons, ne_eq, Option.some.injEq]
    intro e; apply h0; rw [e]; rfl

theorem bn_size_zero {t : ByteArray} (h : t.size = 0) : bn (nv t) = t := by
  apply bn_unique
  have hs : t.data.toList.length = t.size := rfl
  have : t.data.toList = [] := List.length_eq_zero_iff.mp (by omega)
  rw [this]; simp

set_option maxHeartbeats 400000 in
theorem trimLeftByte_walk (s : ByteArray) (w : World) (hs : s.size ≤ 9223372036854775807) :
    Calls Tryz.prog 295 #[.string s, .int .u8 0] w fun e w' => e = .returned (.string (bn (nv s))) ∧ w = w' := by
  go_enter Tryz.func295, Tryz.ntmps295
  go_wp2
  go_loop [0] (fun v => ∃ t : ByteArray, v = .string t ∧ t.size ≤ s.size ∧ nv t = nv s) (fun v => szOf v)
  case atStart => exact ⟨s, rfl, Nat.le_refl _, rfl⟩
  case round =>
    obtain ⟨t, rfl, h1, h2⟩ := hrel
    by_cases h0 : t.size = 0
    · go_wp2
      go_ret
      exact ⟨ret_str (by rw [← h2, bn_size_zero h0]), rfl⟩
    · have h3 : 0 < t.size := by omega
      have HT := nv_tail t h3
      have HB := bn_head h3
      have HH := And.intro HT HB
      have H : Hid _ := HH
      clear HT HB HH
      go_wp2
      · have hc : (t[0].toNat : Int) == 0 := by assumption
        have hc' : t[0].toNat = 0 := by simpa using hc
        obtain ⟨e1, e2⟩ := H.out.1 hc'
        go_round
        case rel => exact ⟨_, rfl, by omega, e1.trans h2⟩
        case measure => simp [szOf]; omega
      · have hc : ((t[0].toNat : Int) == 0) = false := by assumption
        have hc' : t[0].toNat ≠ 0 := by simpa using hc
        go_ret
        exact ⟨ret_str (by rw [← h2, H.out.2 hc']), rfl⟩

theorem toList_of_empty {s : ByteArray} (h : s.size = 0) : s = ⟨#[]⟩ := by
  obtain ⟨⟨l⟩⟩ := s
  have : l = [] := List.length_eq_zero_iff.mp h
  rw [this]

theorem toList_of_pos {s : ByteArray} (h : ¬ s.size = 0) : s.toList.isEmpty = false ∧ ¬ s.toList = [] := by
  obtain ⟨⟨l⟩⟩ := s
  rw [ByteArray.toList_eq]
  cases l with
  | nil => exact absurd rfl h
  | cons _ _ => exact ⟨rfl, by simp⟩

set_option maxRecDepth 100000 in
set_option maxHeartbeats 400000 in
theorem trimLeft_walk (s : ByteArray) (w : World) (hs : s.size ≤ 9223372036854775807) :
    Calls Tryz.prog 225 #[.string s, .string ⟨#[0]⟩] w fun e w' => e = .returned (.string (bn (nv s))) ∧ w = w' := by
  by_cases h0 : s.size = 0
  · have hx := bn_size_zero h0
    obtain rfl := toList_of_empty h0
    have H := Lib.hid hx
    clear h0 hs hx
    go_enter Tryz.func225, Tryz.ntmps225
    go_wp2
    go_ret
    exact ⟨ret_str H.out.symm, rfl⟩
  · obtain ⟨hd1, hd2⟩ := toList_of_pos h0
    have hlit : (({data := #[0]} : ByteArray)[0].toNat : Int) = 0 := rfl
    go_enter Tryz.func225, Tryz.ntmps225
    go_wp2_with (go_at_call 295; refine (trimLeftByte_walk s _ hs).mono ?_; rintro e w' ⟨rfl, rfl⟩)
    go_ways
    go_ret
    exact ⟨rfl, rfl⟩

set_option maxHeartbeats 400000 in
theorem normalize_any (s : ByteArray) (w : World) (hs : s.size ≤ 9223372036854775807) :
    Calls Tryz.prog 147 #[.string s] w fun e w' => e = .returned (.string (bn (nv s))) ∧ w = w' := by
  go_enter Tryz.func147, Tryz.ntmps147
  go_wp2_with (go_at_call 225; refine (trimLeft_walk s _ hs).mono ?_; rintro e w' ⟨rfl, rfl⟩)
  go_ret
  exact ⟨rfl, rfl⟩

/-- The string of n bytes. -/
def strF (g : Nat → Nat) (n : Nat) : ByteArray := ⟨((List.range n).map fun j => UInt8.ofNat (g j)).toArray⟩

theorem strF_size (g : Nat → Nat) (n : Nat) : (strF g n).size = n := by
  show ((List.range n).map fun j => UInt8.ofNat (g j)).toArray.size = n
  simp

theorem strF_nv (g : Nat → Nat) (n : Nat) (hg : ∀ j, j < n → g j < 256) : nv (strF g n) = bl (fun k => g (n - 1 - k)) n := by
  rw [← bl_byt, strF_size]
  apply bl_congr
  intro k hk
  unfold byt
  rw [strF_size]
  have : (strF g n).data.toList = (List.range n).map fun j => UInt8.ofNat (g j) := rfl
  rw [this, List.getD_eq_getElem?_getD, List.getElem?_map, List.getElem?_range (by omega)]
  have := hg (n - 1 - k) (by omega)
  simp; omega

theorem Row.str {P : Program} {w : World} {b n : Nat} {T src dst e : TypeId} {g : Nat → Nat} (h : Row w b T .u8 n g) (cap : Nat)
    (hs : P.underlying src = some (.slice e)) (he : P.underlying e = some (.int .u8)) (hd : P.underlying dst = some .string) :
    (convert src dst (.slice (some ⟨b, 0, none⟩) n cap)).run P w = .ok (.string (strF g n)) w := by
  have := run_convert_bytes_arg (P := P) w src e hs he b 0 n cap ((List.range n).map fun j => (g j : Int)) (by simp) (fun i hi => by
    rw [Nat.zero_add, h.cell hi, List.getD_eq_getElem?_getD, List.getElem?_map, List.getElem?_range hi]; rfl) dst hd
  rw [this]
  congr 2
  unfold strOfNums strF
  rw [List.map_map]
  congr 2

set_option maxRecDepth 100000 in
set_option maxHeartbeats 400000 in
theorem text_walk (b off len cap : Nat) (f : Nat → Nat) (w : World) (hl : len ≤ 1073741824) (hcap : len ≤ cap)
   (hc : Reads w b off .u32 len f) (hf : ∀ j, j < len → f j < LB) :
    Calls Tryz.prog 151 #[.slice (some ⟨b, off, none⟩) len cap] w fun e w' => e = .returned (.string (bn (lv f len))) ∧ Below w.heap.size w w' := by
  obtain ⟨n, hn⟩ : ∃ n, n = 4 * len := ⟨_, rfl⟩
  have hn1 : n ≤ 4 * len := by omega
  have hn2 : 4 * len ≤ n := by omega
  have hnn := Lib.hid hn
  clear hn
  go_enter Tryz.func151, Tryz.ntmps151
  go_wp2_with (refine wpList_makeT _ _ 285 5 .u8 1 n _ rfl rfl Tryz.underlying285 u8info rfl rfl (by omega) (by omega) (by omega) ?_; intro w1 hr1 hb1 hz1)
  go_loopw [11] (fun i wr => ∃ k : Nat, i = .int .i64 k ∧ k ≤ n ∧ Row wr w.heap.size 5 .u8 n (fun j => if n ≤ j + k then lby f (n - 1 - j) else 0) ∧ Below w.heap.size w wr) (fun i _ => n - (intOf i).toNat)
  case atStart => exact ⟨0, rfl, by omega, hr1.congr (fun j hj => by rw [if_neg (by omega)]), hb1⟩
  case round =>
    obtain ⟨k, rfl, hk, hrow, hbel⟩ := hrel
    clear hr1 hb1 hz1
    by_cases hlt : k < n
    · have hbw : b < w.heap.size := hc.lt (by omega)
      have hcell := (hc.below hbel hbw) (k/4) (by omega)
      have hfr := hrow.frozen (n - 1 - k)
      have hold := hrow.cell (j := n - 1 - k) (by omega)
      rw [if_neg (by omega)] at hold
      clear hc
      go_wp2
      go_round
      case rel =>
        refine ⟨k+1, by go_num, by omega, ?_, (hbel.setCell (Nat.le_refl _) _)⟩
        have e1 : ((f (k / 4) : Int) / 2 ^ (8 * (k % 4)) % 256) = ((lby f k : Nat) : Int) := by unfold lby; push_cast; rfl
        rw [e1]
        refine (hrow.set (n - 1 - k) _).congr fun j hj => ?_
        by_cases hj2 : j = n - 1 - k
        · subst hj2; rw [upd_same, if_pos (by omega)]; congr 1; omega
        · rw [upd_other _ _ _ hj2]
          by_cases h3 : n ≤ j + k
          · rw [if_pos h3, if_pos (by omega)]
          · rw [if_neg h3, if_neg (by omega)]
      case measure => simp [intOf]; omega
    · obtain rfl : k = n := by omega
      have hcv := hrow.str (P := Tryz.prog) (src := 285) (dst := 9) k Tryz.underlying285 Tryz.underlying5 Tryz.underlying9
      have hsz := strF_size (fun j => if k ≤ j + k then lby f (k - 1 - j) else 0) k
      have hnv : nv (strF (fun j => if k ≤ j + k then lby f (k - 1 - j) else 0) k) = lv f len := by
        rw [strF_nv _ _ (fun j _ => by split; exact Nat.mod_lt _ (by omega); omega)]
        rw [← bl_lby hf, ← hnn.out]
        apply bl_congr
        intro j hj
        rw [if_pos (by omega)]; congr 1; omega
      generalize strF (fun j => if k ≤ j + k then lby f (k - 1 - j) else 0) k = t at *
      have H := Lib.hid hnv
      have H2 : t.size ≤ 9223372036854775807 := by omega
      clear hnv hrow hc hsz hcap
      go_wp2_with (go_at_call 147; refine (normalize_any _ _ (by omega)).mono ?_; rintro e w' ⟨rfl, rfl⟩)
      go_ret
      exact ⟨ret_str (by rw [H.out]), hbel⟩
end Go.Proofs.Ins

set_option linter.unusedSimpArgs false
set_option linter.unusedVariables false
namespace Go.Proofs.Ins
open Go.RowKit

/-- The sign of x - y. -/
def cmpN (x y : Nat) : Int := if x < y then -1 else if y < x then 1 else 0

theorem cmpN_lt {x y : Nat} (h : x < y) : cmpN x y = -1 := by unfold cmpN; rw [if_pos h]
theorem cmpN_gt {x y : Nat} (h : y < x) : cmpN x y = 1 := by unfold cmpN; rw [if_neg (by omega), if_pos h]
theorem cmpN_eq (x : Nat) : cmpN x x = 0 := by unfold cmpN; rw [if_neg (by omega), if_neg (by omega)]

theorem compareBytes_bv : ∀ (l r : List UInt8), l.length = r.length → Lib.compareBytes l r = cmpN (bv l) (bv r) := by
  intro l
  induction l with
  | nil => intro r h; cases r with
    | nil => rfl
    | cons _ _ => simp at h
  | cons a l ih =>
    intro r h
    cases r with
    | nil => simp at h
    | cons b r =>
      have hl : l.length = r.length := by simpa using h
      unfold Lib.compareBytes
      have h1 := bv_lt l
      have h2 := bv_lt r
      rw [bv_cons, bv_cons, hl]
      rw [hl] at h1
      by_cases c1 : a < b
      · rw [if_pos c1]
        have : a.toNat < b.toNat := c1
        have : a.toNat * 256 ^ r.length + 256 ^ r.length ≤ b.toNat * 256 ^ r.length := by rw [← Nat.succ_mul]; exact Nat.mul_le_mul_right _ this
        rw [cmpN_lt (by omega)]
      · rw [if_neg c1]
        by_cases c2 : b < a
        · rw [if_pos c2]
          have : b.toNat < a.toNat := c2
          have : b.toNat * 256 ^ r.length + 256 ^ r.length ≤ a.toNat * 256 ^ r.length := by rw [← Nat.succ_mul]; exact Nat.mul_le_mul_right _ this
          rw [cmpN_gt (by omega)]
        · rw [if_neg c2, ih r hl]
          have e : a.toNat = b.toNat := by
            have c1' : ¬ a.toNat < b.toNat := c1
            have c2' : ¬ b.toNat < a.toNat := c2
            omega
          rw [e]; unfold cmpN
          congr 1
          · simp
          · congr 1; simp

set_option maxRecDepth 100000 in
set_option maxHeartbeats 400000 in
theorem text_zero (a : Option Addr) (cap : Nat) (w : World) :
    Calls Tryz.prog 151 #[.slice a 0 cap] w fun e w' => e = .returned (.string (bn 0)) ∧ Below w.heap.size w w' := by
  go_enter Tryz.func151, Tryz.ntmps151
  go_wp2_with (refine wpList_makeT _ _ 285 5 .u8 1 0 _ rfl rfl Tryz.underlying285 u8info rfl rfl (by omega) (by omega) (by omega) ?_; intro w1 hr1 hb1 hz1)
  go_loopw [11] (fun i wr => i = .int .i64 0 ∧ wr = w1) (fun i _ => 0)
  case atStart => exact ⟨rfl, rfl⟩
  case round =>
    obtain ⟨rfl, rfl⟩ := hrel
    have hcv := hr1.str (P := Tryz.prog) (src := 285) (dst := 9) 0 Tryz.underlying285 Tryz.underlying5 Tryz.underlying9
    clear hr1 hz1
    go_wp2_with (go_at_call 147; refine (normalize_any _ _ ?_).mono ?_; (rw [strF_size]; omega); rintro e w' ⟨rfl, rfl⟩)
    go_ret
    exact ⟨rfl, hb1⟩

theorem text_any (a : Option Addr) (len cap x : Nat) (w : World) (h : Limbs w a len x) (hl : len ≤ 1073741824) (hcap : len ≤ cap) :
    Calls Tryz.prog 151 #[.slice a len cap] w fun e w' => e = .returned (.string (bn x)) ∧ Below w.heap.size w w' := by
  obtain ⟨f, rfl, h2, h3⟩ := h
  rcases h3 with rfl | ⟨b, off, rfl, hr⟩
  · exact text_zero a cap w
  · exact text_walk b off len cap f w hl hcap hr h2.1

/-- The sign of an integer. -/
def sgnI (n : Int) : Int := if n < 0 then -1 else if 0 < n then 1 else 0
theorem sgnI_lt {n : Int} (h : n < 0) : sgnI n = -1 := by unfold sgnI; rw [if_pos h]
theorem sgnI_gt {n : Int} (h : 0 < n) : sgnI n = 1 := by unfold sgnI; rw [if_neg (by omega), if_pos h]
theorem sgnI_zero : sgnI 0 = 0 := rfl

set_option maxRecDepth 100000 in
set_option maxHeartbeats 400000 in
theorem sign_any (n : Int) (w : World) : Calls Tryz.prog 148 #[.int .i64 n] w fun e w' => e = .returned (.int .i64 (sgnI n)) ∧ w = w' := by
  rcases (show n < 0 ∨ 0 < n ∨ n = 0 by omega) with h1 | h1 | rfl
  · have h2 : decide (n < 0) = true := by simpa using h1
    go_enter Tryz.func148, Tryz.ntmps148
    go_wp2
    go_ret
    exact ⟨ret_int (sgnI_lt h1).symm, rfl⟩
  · go_enter Tryz.func148, Tryz.ntmps148
    go_wp2
    go_ret
    exact ⟨ret_int (sgnI_gt h1).symm, rfl⟩
  · go_enter Tryz.func148, Tryz.ntmps148
    go_wp2
    go_ret
    exact ⟨rfl, rfl⟩

theorem run_cmp0 (a b : ByteArray) (w : World) : Sem.run Tryz.prog (callFunc 299 #[Value.string a, Value.string b]) w = Sem.run Tryz.prog (do let v ← (Extern.BytealgCompare.compare #[.string a, .string b]); pure (Next.value v)) w := by kernel_rfl

theorem run_cmp (a b : ByteArray) (w : World) : Sem.run Tryz.prog (callFunc 299 #[Value.string a, Value.string b]) w = .ok (Next.value (.int .i64 (Lib.compareBytes a.data.toList b.data.toList))) w := by
  rw [run_cmp0, Sem.run_bind, Lib.run_compareString]; rfl

set_option maxRecDepth 100000 in
set_option maxHeartbeats 400000 in
theorem cmpstr_any (a b : ByteArray) (w : World) : Calls Tryz.prog 226 #[.string a, .string b] w fun e w' => e = .returned (.int .i64 (Lib.compareBytes a.data.toList b.data.toList)) ∧ w = w' := by
  have hx := fun w => run_cmp a b w
  go_enter Tryz.func226, Tryz.ntmps226
  go_wp2
  go_ret
  exact ⟨rfl, rfl⟩

set_option maxRecDepth 100000 in
set_option maxHeartbeats 400000 in
theorem strcmp_any (a b : ByteArray) (w : World) : Calls Tryz.prog 149 #[.string a, .string b] w fun e w' => e = .returned (.int .i64 (Lib.compareBytes a.data.toList b.data.toList)) ∧ w = w' := by
  go_enter Tryz.func149, Tryz.ntmps149
  go_wp2_with (go_at_call 226; refine (cmpstr_any _ _ _).mono ?_; rintro e w' ⟨rfl, rfl⟩)
  go_ret
  exact ⟨rfl, rfl⟩

theorem bn_len_lt {x y : Nat} (h : (bn x).size < (bn y).size) : x < y := by
  have h1 : (bnL x).length < (bnL y).length := h
  have h2 := bv_lt (bnL x)
  have h3 : 256 ^ ((bnL y).length - 1) ≤ bv (bnL y) := bv_ge (bnL_head y) (by intro e; rw [e] at h1; simp at h1)
  rw [bv_bnL] at h2 h3
  have : 256 ^ (bnL x).length ≤ 256 ^ ((bnL y).length - 1) := Nat.pow_le_pow_right (by omega) (by omega)
  omega

theorem bn_size_of (s : ByteArray) : (bn (nv s)).size ≤ s.size := bn_size_le (nv_lt s)

set_option maxRecDepth 100000 in
set_option maxHeartbeats 400000 in
theorem compareS_any (a b : ByteArray) (w : World) (ha : a.size ≤ 1073741824) (hb : b.size ≤ 1073741824) :
    Calls Tryz.prog 77 #[.string a, .string b] w fun e w' => e = .returned (.int .i64 (cmpN (nv a) (nv b))) ∧ w = w' := by
  have ha2 := bn_size_of a
  have hb2 := bn_size_of b
  obtain ⟨x, hx⟩ : ∃ x, x = bn (nv a) := ⟨_, rfl⟩
  obtain ⟨y, hy⟩ : ∃ y, y = bn (nv b) := ⟨_, rfl⟩
  have n1 : Calls Tryz.prog 147 #[.string a] w fun e w' => e = .returned (.string x) ∧ w = w' := by rw [hx]; exact normalize_any a w (by omega)
  have n2 : Calls Tryz.prog 147 #[.string b] w fun e w' => e = .returned (.string y) ∧ w = w' := by rw [hy]; exact normalize_any b w (by omega)
  rw [← hx] at ha2
  rw [← hy] at hb2
  have Hx := Lib.hid hx
  have Hy := Lib.hid hy
  have N1 := Lib.hid n1
  have N2 := Lib.hid n2
  clear hx hy n1 n2
  by_cases hlen : x.size = y.size
  · have hcmp : Lib.compareBytes x.data.toList y.data.toList = cmpN (nv a) (nv b) := by
      rw [compareBytes_bv _ _ hlen]
      have e1 : bv x.data.toList = nv a := by rw [Hx.out]; exact nv_bn _
      have e2 : bv y.data.toList = nv b := by rw [Hy.out]; exact nv_bn _
      rw [e1, e2]
    have HC := Lib.hid hcmp
    have HL : ((x.size : Int) == (y.size : Int)) = true := by simp; omega
    have HL2 : ((x.size : Int) != (y.size : Int)) = false := by simp; omega
    clear hcmp hlen
    go_enter Tryz.func77, Tryz.ntmps77
    go_wp2_with fail
    refine N1.out.mono ?_; rintro e w' ⟨rfl, rfl⟩
    go_wp2_with fail
    refine N2.out.mono ?_; rintro e w' ⟨rfl, rfl⟩
    go_wp2_with fail
    refine (strcmp_any _ _ _).mono ?_; rintro e w' ⟨rfl, rfl⟩
    go_wp2
    go_ret
    exact ⟨ret_int HC.out, rfl⟩
  · have HL2 : ((x.size : Int) != (y.size : Int)) = true := by simp; omega
    have hcmp : sgnI ((x.size : Int) - y.size) = cmpN (nv a) (nv b) := by
      rcases (show x.size < y.size ∨ y.size < x.size by omega) with h | h
      · rw [sgnI_lt (by omega)]
        rw [Hx.out, Hy.out] at h
        rw [cmpN_lt (bn_len_lt h)]
      · rw [sgnI_gt (by omega)]
        rw [Hx.out, Hy.out] at h
        rw [cmpN_gt (bn_len_lt h)]
    have HC := Lib.hid hcmp
    clear hcmp hlen
    go_enter Tryz.func77, Tryz.ntmps77
    go_wp2_with fail
    refine N1.out.mono ?_; rintro e w' ⟨rfl, rfl⟩
    go_wp2_with fail
    refine N2.out.mono ?_; rintro e w' ⟨rfl, rfl⟩
    go_wp2_with fail
    refine (sign_any _ _).mono ?_; rintro e w' ⟨rfl, rfl⟩
    go_wp2
    go_ret
    exact ⟨ret_int HC.out, rfl⟩
end Go.Proofs.Ins

set_option linter.unusedSimpArgs false
set_option linter.unusedVariables false
namespace Go.Proofs.Ins

theorem sg_cases (q : Rat) : (sg q = -1 ∧ q < 0) ∨ (sg q = 0 ∧ q = 0) ∨ (sg q = 1 ∧ 0 < q) := by
  unfold sg
  by_cases h : q = 0
  · rw [if_pos h]; exact .inr (.inl ⟨rfl, h⟩)
  · rw [if_neg h]
    by_cases h2 : q < 0
    · rw [if_pos h2]; exact .inl ⟨rfl, h2⟩
    · rw [if_neg h2]; exact .inr (.inr ⟨rfl, by grind⟩)

theorem cmpR_sg_lt {p q : Rat} (h : sg p < sg q) : cmpR p q = -1 := by
  apply cmpR_lt
  rcases sg_cases p with ⟨e1, h1⟩ | ⟨e1, h1⟩ | ⟨e1, h1⟩ <;> rcases sg_cases q with ⟨e2, h2⟩ | ⟨e2, h2⟩ | ⟨e2, h2⟩ <;> first | omega | grind

theorem cmpR_sg_gt {p q : Rat} (h : sg q < sg p) : cmpR p q = 1 := by
  apply cmpR_gt
  rcases sg_cases p with ⟨e1, h1⟩ | ⟨e1, h1⟩ | ⟨e1, h1⟩ <;> rcases sg_cases q with ⟨e2, h2⟩ | ⟨e2, h2⟩ | ⟨e2, h2⟩ <;> first | omega | grind

theorem rn_of_sg {p q : Rat} (h : sg p = sg q) : rn p = rn q := by
  rcases sg_cases p with ⟨e1, h1⟩ | ⟨e1, h1⟩ | ⟨e1, h1⟩ <;> rcases sg_cases q with ⟨e2, h2⟩ | ⟨e2, h2⟩ | ⟨e2, h2⟩ <;> first
    | omega
    | rw [rn_true.mpr h1, rn_true.mpr h2]
    | rw [rn_false.mpr (by grind), rn_false.mpr (by grind)]

theorem cmpR_same {p q : Rat} (h : sg p = sg q) : cmpR p q = if rn p = true then -(cmpN (nm p * q.den) (nm q * p.den)) else cmpN (nm p * q.den) (nm q * p.den) := by
  have hn := rn_of_sg h
  have e1 := sgn_rn p
  have e2 := sgn_rn q
  have h1 := Rat.lt_iff p q
  have h2 := Rat.lt_iff q p
  rw [← e1, ← e2, ← hn] at h1 h2
  obtain ⟨X, hX⟩ : ∃ X, X = nm p * q.den := ⟨_, rfl⟩
  obtain ⟨Y, hY⟩ : ∃ Y, Y = nm q * p.den := ⟨_, rfl⟩
  have c1 : (nm p : Int) * q.den = (X : Int) := by rw [hX, Int.natCast_mul]
  have c2 : (nm q : Int) * p.den = (Y : Int) := by rw [hY, Int.natCast_mul]
  rw [← hX, ← hY]
  have heq : X = Y → p = q := fun e => by
    rw [Rat.eq_iff_mul_eq_mul, ← e1, ← e2, ← hn]
    unfold sgn
    split
    · rw [Int.neg_mul, Int.neg_mul, c1, c2, e]
    · rw [c1, c2, e]
  cases hr : rn p
  · rw [hr] at h1 h2
    simp only [sgn, Bool.false_eq_true, if_false] at h1 h2 ⊢
    rw [c1, c2] at h1 h2
    rcases Nat.lt_trichotomy X Y with h3 | h3 | h3
    · rw [cmpN_lt h3, cmpR_lt (h1.mpr (by omega))]
    · rw [heq h3, cmpR_eq, h3, cmpN_eq]
    · rw [cmpN_gt h3, cmpR_gt (h2.mpr (by omega))]
  · rw [hr] at h1 h2
    simp only [sgn, if_true, Int.neg_mul] at h1 h2 ⊢
    rw [c1, c2] at h1 h2
    rcases Nat.lt_trichotomy X Y with h3 | h3 | h3
    · rw [cmpN_lt h3, cmpR_gt (h2.mpr (by omega))]; rfl
    · rw [heq h3, cmpR_eq, h3, cmpN_eq]; rfl
    · rw [cmpN_gt h3, cmpR_lt (h1.mpr (by omega))]
end Go.Proofs.Ins
