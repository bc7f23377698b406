/- Rational numbers as the program writes them: three fields, lowest terms. -/
import Derived.Test.YtobbllakdjampaaGreatDoorMath
set_option linter.unusedSimpArgs false
set_option linter.unusedVariables false
namespace Go.Proofs.Ins

/-- The three fields of a number. -/
def rn (q : Rat) : Bool := decide (q.num < 0)
def rs (q : Rat) : ByteArray := bn q.num.natAbs
def rd (q : Rat) : ByteArray := if q.den = 1 then ⟨#[]⟩ else bn q.den

/-- An integer out of a sign and an absolute value. -/
def sgn (n : Bool) (x : Nat) : Int := if n = true then -(x : Int) else (x : Int)
theorem sgn_natAbs (n : Bool) (x : Nat) : (sgn n x).natAbs = x := by unfold sgn; cases n <;> simp
theorem sgn_zero (n : Bool) : sgn n 0 = 0 := by unfold sgn; cases n <;> simp
theorem sgn_neg (n : Bool) {x : Nat} (h : 0 < x) : decide (sgn n x < 0) = n := by unfold sgn; cases n <;> simp; omega
theorem sgn_eq_zero {n : Bool} {x : Nat} : sgn n x = 0 ↔ x = 0 := by
  constructor
  · intro h; have := sgn_natAbs n x; rw [h] at this; exact this.symm
  · rintro rfl; exact sgn_zero n
theorem sgn_mul (n m : Bool) (x y : Nat) : sgn n x * sgn m y = sgn (n != m) (x * y) := by
  unfold sgn; cases n <;> cases m <;> simp [Int.neg_mul, Int.mul_neg]
theorem sgn_self (i : Int) : sgn (decide (i < 0)) i.natAbs = i := by
  unfold sgn; by_cases h : i < 0
  · simp [h]; omega
  · simp [h]; omega

/-- The denominator that a third field stands for. -/
def dn (d : ByteArray) : Nat := if nv d = 0 then 1 else nv d
theorem dn_pos (d : ByteArray) : 0 < dn d := by unfold dn; split <;> omega
theorem dn_rd (q : Rat) : dn (rd q) = q.den := by
  unfold dn rd
  by_cases h : q.den = 1
  · rw [if_pos h, h]; rfl
  · rw [if_neg h, nv_bn, if_neg (by have := q.den_pos; omega)]

/-- Three fields are a valid number. -/
def vld (n : Bool) (s d : ByteArray) : Prop :=
  bn (nv s) = s ∧ bn (nv d) = d ∧ (nv s = 0 → n = false ∧ nv d = 0) ∧ (nv d = 0 ∨ (nv d ≠ 1 ∧ Nat.gcd (nv s) (nv d) = 1))
instance (n : Bool) (s d : ByteArray) : Decidable (vld n s d) := by unfold vld; infer_instance

/-- The number that three fields stand for; 0 where they are not valid. -/
def rq (n : Bool) (s d : ByteArray) : Rat := if vld n s d then mkRat (sgn n (nv s)) (dn d) else 0

theorem vld_of (q : Rat) : vld (rn q) (rs q) (rd q) := by
  unfold vld
  have hd := q.den_pos
  have e : nv (rd q) = if q.den = 1 then 0 else q.den := by
    unfold rd; split
    · rfl
    · exact nv_bn _
  refine ⟨by unfold rs; rw [nv_bn], ?_, ?_, ?_⟩
  · unfold rd; split
    · rfl
    · rw [nv_bn]
  · intro h
    unfold rs at h
    rw [nv_bn] at h
    have h0 : q.num = 0 := by omega
    have h1 : q = 0 := Rat.num_eq_zero.mp h0
    subst h1
    exact ⟨rfl, rfl⟩
  · rw [e]
    by_cases h1 : q.den = 1
    · rw [if_pos h1]; exact .inl rfl
    · rw [if_neg h1]
      refine .inr ⟨h1, ?_⟩
      unfold rs; rw [nv_bn]; exact q.reduced

theorem rq_of (q : Rat) : rq (rn q) (rs q) (rd q) = q := by
  unfold rq
  rw [if_pos (vld_of q), dn_rd]
  unfold rs rn
  rw [nv_bn, sgn_self, Rat.mkRat_self]

theorem vld_num {n : Bool} {s d : ByteArray} (h : vld n s d) : (rq n s d).num = sgn n (nv s) ∧ (rq n s d).den = dn d := by
  obtain ⟨h1, h2, h3, h4⟩ := h
  unfold rq
  rw [if_pos ⟨h1, h2, h3, h4⟩]
  have hg : (dn d).gcd (sgn n (nv s)).natAbs = 1 := by
    rw [sgn_natAbs]
    unfold dn
    rcases h4 with h4 | ⟨h5, h6⟩
    · rw [if_pos h4]; exact Nat.gcd_one_left _
    · by_cases h7 : nv d = 0
      · rw [if_pos h7]; exact Nat.gcd_one_left _
      · rw [if_neg h7, Nat.gcd_comm]; exact h6
  have hd := dn_pos d
  constructor
  · rw [Rat.num_mkRat, if_neg (by omega), hg]; simp
  · rw [Rat.den_mkRat, if_neg (by omega), hg]; simp

theorem vld_fields {n : Bool} {s d : ByteArray} (h : vld n s d) : rn (rq n s d) = n ∧ rs (rq n s d) = s ∧ rd (rq n s d) = d := by
  obtain ⟨e1, e2⟩ := vld_num h
  obtain ⟨h1, h2, h3, h4⟩ := h
  refine ⟨?_, ?_, ?_⟩
  · unfold rn; rw [e1]
    rcases Nat.eq_zero_or_pos (nv s) with h5 | h5
    · rw [h5, sgn_zero, (h3 h5).1]; rfl
    · exact sgn_neg n h5
  · unfold rs; rw [e1, sgn_natAbs, h1]
  · unfold rd; rw [e2]; unfold dn
    rcases h4 with h4 | ⟨h5, h6⟩
    · rw [if_pos h4, if_pos rfl, ← h2, h4]; rfl
    · by_cases h7 : nv d = 0
      · rw [if_pos h7, if_pos rfl, ← h2, h7]; rfl
      · rw [if_neg h7, if_neg h5, h2]

theorem rq_bad {n : Bool} {s d : ByteArray} (h : ¬ vld n s d) : rq n s d = 0 := by unfold rq; rw [if_neg h]

theorem rn_zero : rn 0 = false := rfl
theorem rs_zero : rs 0 = ⟨#[]⟩ := rfl
theorem rd_zero : rd 0 = ⟨#[]⟩ := rfl

theorem fields_inj {p q : Rat} (h1 : rn p = rn q) (h2 : rs p = rs q) (h3 : rd p = rd q) : p = q := by
  rw [← rq_of p, ← rq_of q, h1, h2, h3]

/-- A fraction with a sign. -/
def fr (n : Bool) (x y : Nat) : Rat := mkRat (sgn n x) y

theorem fr_zero (n : Bool) (y : Nat) : fr n 0 y = 0 := by unfold fr; rw [sgn_zero, Rat.zero_mkRat]

theorem fr_num {n : Bool} {x y : Nat} (hy : 0 < y) : (fr n x y).num = sgn n (x / Nat.gcd x y) ∧ (fr n x y).den = y / Nat.gcd x y := by
  unfold fr
  have hg : y.gcd (sgn n x).natAbs = Nat.gcd x y := by rw [sgn_natAbs, Nat.gcd_comm]
  constructor
  · rw [Rat.num_mkRat, if_neg (by omega), hg]
    have hdv : (Nat.gcd x y) ∣ x := Nat.gcd_dvd_left x y
    unfold sgn
    cases n
    · simp
    · simp only [if_true]
      rw [Int.neg_ediv_of_dvd (by exact_mod_cast hdv), Int.natCast_ediv]
  · rw [Rat.den_mkRat, if_neg (by omega), hg]

theorem fr_fields {n : Bool} {x y : Nat} (hx : 0 < x) (hy : 0 < y) : rn (fr n x y) = n ∧ rs (fr n x y) = bn (x / Nat.gcd x y) ∧ rd (fr n x y) = if y / Nat.gcd x y = 1 then ⟨#[]⟩ else bn (y / Nat.gcd x y) := by
  obtain ⟨e1, e2⟩ := fr_num (n := n) (x := x) hy
  have h0 : 0 < x / Nat.gcd x y := Nat.div_pos (Nat.gcd_le_left y hx) (Nat.gcd_pos_of_pos_left y hx)
  refine ⟨?_, ?_, ?_⟩
  · unfold rn; rw [e1]; exact sgn_neg n h0
  · unfold rs; rw [e1, sgn_natAbs]
  · unfold rd; rw [e2]

/-- The two parts of a number. -/
def nm (q : Rat) : Nat := q.num.natAbs
theorem nm_rs (q : Rat) : nv (rs q) = nm q := nv_bn _
theorem fr_self (q : Rat) : fr (rn q) (nm q) q.den = q := by unfold fr rn nm; rw [sgn_self, Rat.mkRat_self]
theorem sgn_rn (q : Rat) : sgn (rn q) (nm q) = q.num := sgn_self _
theorem nm_zero {q : Rat} : nm q = 0 ↔ q = 0 := by
  unfold nm; rw [← Rat.num_eq_zero]; omega
theorem rs_zero_iff {q : Rat} : rs q = ⟨#[]⟩ ↔ q = 0 := by
  unfold rs; rw [bn_eq_empty]; exact nm_zero
theorem rn_true {q : Rat} : rn q = true ↔ q < 0 := by
  unfold rn; rw [decide_eq_true_iff, Rat.lt_iff]; simp
theorem rn_false {q : Rat} : rn q = false ↔ 0 ≤ q := by
  unfold rn; rw [decide_eq_false_iff_not, ← Rat.num_nonneg]; omega

theorem fr_mul (a b : Rat) : a * b = fr (rn a != rn b) (nm a * nm b) (a.den * b.den) := by
  unfold fr
  rw [← sgn_mul, sgn_rn, sgn_rn, Rat.mul_def']

theorem fr_div {a b : Rat} (hb : b ≠ 0) : a / b = fr (rn a != rn b) (nm a * b.den) (a.den * nm b) := by
  have h1 : 0 < nm b := Nat.pos_of_ne_zero fun h => hb (nm_zero.mp h)
  have h2 : fr (rn a != rn b) (nm a * b.den) (a.den * nm b) * b = a := by
    rw [fr_mul]
    have e1 := fr_self a
    have hd := a.den_pos
    have hbd := b.den_pos
    generalize hz : fr (rn a != rn b) (nm a * b.den) (a.den * nm b) = z
    have hz0 : z = mkRat (sgn (rn a != rn b) (nm a * b.den)) (a.den * nm b) := hz.symm
    rw [← fr_mul, hz0, ← fr_self b]
    unfold fr
    rw [Rat.mkRat_mul_mkRat, sgn_mul]
    rw [show nm (mkRat (sgn (rn b) (nm b)) b.den) = nm b by have := fr_self b; unfold fr at this; rw [this]]
    rw [show rn (mkRat (sgn (rn b) (nm b)) b.den) = rn b by have := fr_self b; unfold fr at this; rw [this]]
    rw [show (mkRat (sgn (rn b) (nm b)) b.den).den = b.den by have := fr_self b; unfold fr at this; rw [this]]
    have e3 : ((rn a != rn b) != rn b) = rn a := by cases rn a <;> cases rn b <;> rfl
    rw [e3]
    have e4 : sgn (rn a) (nm a * b.den * nm b) = sgn (rn a) (nm a) * ((b.den * nm b : Nat) : Int) := by
      unfold sgn; cases rn a <;> simp [Int.mul_assoc, Int.neg_mul]
    rw [e4, sgn_rn]
    rw [show a.den * nm b * b.den = a.den * (b.den * nm b) by rw [Nat.mul_assoc, Nat.mul_comm (nm b)]]
    rw [Rat.mkRat_mul_right (by have := Nat.mul_pos hbd h1; omega), Rat.mkRat_self]
  rw [Rat.div_def]
  have h3 : fr (rn a != rn b) (nm a * b.den) (a.den * nm b) * (b * b⁻¹) = a * b⁻¹ := by rw [← Rat.mul_assoc, h2]
  rw [Rat.mul_inv_cancel _ hb, Rat.mul_one] at h3
  exact h3.symm

theorem fr_add (a b : Rat) : a + b = mkRat (sgn (rn a) (nm a * b.den) + sgn (rn b) (nm b * a.den)) (a.den * b.den) := by
  rw [Rat.add_def']
  congr 2
  · rw [← sgn_rn a]; unfold sgn; cases rn a <;> simp [Int.neg_mul]
  · rw [← sgn_rn b]; unfold sgn; cases rn b <;> simp [Int.neg_mul]

theorem sgn_add_same (n : Bool) (x y : Nat) : sgn n x + sgn n y = sgn n (x + y) := by unfold sgn; cases n <;> simp; omega
theorem sgn_add_diff {n m : Bool} (h : n ≠ m) {x y : Nat} (hle : y ≤ x) : sgn n x + sgn m y = sgn n (x - y) := by
  unfold sgn; cases n <;> cases m <;> simp at h <;> simp <;> omega

/-- A sum over a common denominator. -/
theorem fr_add_same {a b : Rat} (h : a.den = b.den) : a + b = mkRat (sgn (rn a) (nm a) + sgn (rn b) (nm b)) a.den := by
  have hd := a.den_pos
  rw [fr_add, ← h]
  have e : sgn (rn a) (nm a * a.den) + sgn (rn b) (nm b * a.den) = (sgn (rn a) (nm a) + sgn (rn b) (nm b)) * (a.den : Int) := by
    rw [Int.add_mul]; congr 1
    · unfold sgn; cases rn a <;> simp [Int.neg_mul]
    · unfold sgn; cases rn b <;> simp [Int.neg_mul]
  rw [e, Rat.mkRat_mul_right (by omega)]

/-- The sign. -/
def sg (q : Rat) : Int := if q = 0 then 0 else if q < 0 then -1 else 1
/-- Go's comparison. -/
def cmpR (a b : Rat) : Int := sg (a - b)

theorem sg_zero {q : Rat} (h : nm q = 0) : sg q = 0 := by unfold sg; rw [if_pos (nm_zero.mp h)]
theorem sg_neg {q : Rat} (h : rn q = true) : sg q = -1 := by
  have h1 := rn_true.mp h
  unfold sg; rw [if_neg (by rintro rfl; exact Rat.lt_irrefl h1), if_pos h1]
theorem sg_pos {q : Rat} (h : rn q = false) (h2 : nm q ≠ 0) : sg q = 1 := by
  have h1 := rn_false.mp h
  unfold sg; rw [if_neg (fun e => h2 (nm_zero.mpr e)), if_neg (by rw [Rat.not_lt]; exact h1)]

theorem cmpR_lt {a b : Rat} (h : a < b) : cmpR a b = -1 := by
  unfold cmpR sg
  have h1 : a - b < 0 := by grind
  rw [if_neg (by intro e; rw [e] at h1; exact Rat.lt_irrefl h1), if_pos h1]
theorem cmpR_gt {a b : Rat} (h : b < a) : cmpR a b = 1 := by
  unfold cmpR sg
  have h1 : 0 < a - b := by grind
  rw [if_neg (by intro e; rw [e] at h1; exact Rat.lt_irrefl h1), if_neg (by grind)]
theorem cmpR_eq (a : Rat) : cmpR a a = 0 := by
  unfold cmpR; rw [Rat.sub_self]; rfl
theorem cmpR_le_zero {a b : Rat} : cmpR a b ≤ 0 ↔ a ≤ b := by
  rcases Rat.le_total (a := a) (b := b) with h | h
  · rcases Rat.le_iff_lt_or_eq.mp h with h1 | rfl
    · rw [cmpR_lt h1]; simp [h]
    · rw [cmpR_eq]; simp [h]
  · rcases Rat.le_iff_lt_or_eq.mp h with h1 | rfl
    · rw [cmpR_gt h1]; constructor
      · intro h; omega
      · intro h; exact absurd h (Rat.not_le.mpr h1)
    · rw [cmpR_eq]; simp [h]
theorem cmpR_lt_zero {a b : Rat} : cmpR a b < 0 ↔ a < b := by
  constructor
  · intro h
    rcases Rat.le_total (a := b) (b := a) with h1 | h1
    · rcases Rat.le_iff_lt_or_eq.mp h1 with h2 | rfl
      · rw [cmpR_gt h2] at h; omega
      · rw [cmpR_eq] at h; omega
    · rcases Rat.le_iff_lt_or_eq.mp h1 with h2 | rfl
      · exact h2
      · rw [cmpR_eq] at h; omega
  · intro h; rw [cmpR_lt h]; omega

/-- Bounds of both parts, by bytes. -/
def Sm (k : Nat) (q : Rat) : Prop := nm q < 256 ^ k ∧ q.den < 256 ^ k

theorem Sm.mono {k l : Nat} {q : Rat} (h : Sm k q) (hkl : k ≤ l) : Sm l q :=
  ⟨Nat.lt_of_lt_of_le h.1 (Nat.pow_le_pow_right (by omega) hkl), Nat.lt_of_lt_of_le h.2 (Nat.pow_le_pow_right (by omega) hkl)⟩
theorem Sm.rs {k : Nat} {q : Rat} (h : Sm k q) : (rs q).size ≤ k := bn_size_le h.1
theorem Sm.rd {k : Nat} {q : Rat} (h : Sm k q) : (rd q).size ≤ k := by
  unfold Ins.rd; split
  · exact Nat.zero_le _
  · exact bn_size_le h.2
theorem sm_zero (k : Nat) (hk : 0 < k) : Sm k 0 := ⟨Nat.pow_pos (by omega), by
  show 1 < 256 ^ k
  exact Nat.one_lt_pow (by omega) (by omega)⟩
theorem sm_rq {n : Bool} {s d : ByteArray} {k : Nat} (hs : s.size ≤ k) (hd : d.size ≤ k) (hk : 0 < k) : Sm k (rq n s d) := by
  by_cases h : vld n s d
  · obtain ⟨e1, e2⟩ := vld_num h
    constructor
    · unfold nm; rw [e1, sgn_natAbs]
      exact Nat.lt_of_lt_of_le (nv_lt s) (Nat.pow_le_pow_right (by omega) hs)
    · rw [e2]; unfold dn
      split
      · exact Nat.one_lt_pow (by omega) (by omega)
      · exact Nat.lt_of_lt_of_le (nv_lt d) (Nat.pow_le_pow_right (by omega) hd)
  · rw [rq_bad h]; exact sm_zero k hk
theorem sm_fr {n : Bool} {x y k : Nat} (hx : x < 256 ^ k) (hy : y < 256 ^ k) (hy0 : 0 < y) : Sm k (fr n x y) := by
  obtain ⟨e1, e2⟩ := fr_num (n := n) (x := x) hy0
  constructor
  · unfold nm; rw [e1, sgn_natAbs]; exact Nat.lt_of_le_of_lt (Nat.div_le_self _ _) hx
  · rw [e2]; exact Nat.lt_of_le_of_lt (Nat.div_le_self _ _) hy
theorem pow_mul_lt {x y k l : Nat} (hx : x < 256 ^ k) (hy : y < 256 ^ l) : x * y < 256 ^ (k + l) := by
  rw [Nat.pow_add]
  have h0 : 0 < 256 ^ k := Nat.pow_pos (by omega)
  rcases Nat.eq_zero_or_pos y with rfl | h
  · rw [Nat.mul_zero]; exact Nat.mul_pos h0 (Nat.pow_pos (by omega))
  · exact Nat.lt_of_lt_of_le (Nat.mul_lt_mul_of_pos_right hx h) (Nat.mul_le_mul_left _ (Nat.le_of_lt hy))
theorem Sm.mul {k l : Nat} {a b : Rat} (h : Sm k a) (h2 : Sm l b) : Sm (k + l) (a * b) := by
  rw [fr_mul]; exact sm_fr (pow_mul_lt h.1 h2.1) (pow_mul_lt h.2 h2.2) (Nat.mul_pos a.den_pos b.den_pos)
theorem Sm.div {k l : Nat} {a b : Rat} (h : Sm k a) (h2 : Sm l b) (hb : b ≠ 0) : Sm (k + l) (a / b) := by
  rw [fr_div hb]
  exact sm_fr (pow_mul_lt h.1 h2.2) (pow_mul_lt h.2 h2.1) (Nat.mul_pos a.den_pos (Nat.pos_of_ne_zero fun h => hb (nm_zero.mp h)))
theorem mkRat_fr (i : Int) (y : Nat) : mkRat i y = fr (decide (i < 0)) i.natAbs y := by unfold fr; rw [sgn_self]
theorem Sm.add {k l : Nat} {a b : Rat} (h : Sm k a) (h2 : Sm l b) : Sm (k + l + 1) (a + b) := by
  rw [fr_add, mkRat_fr]
  have h3 := pow_mul_lt h.1 h2.2
  have h4 := pow_mul_lt h2.1 h.2
  have h5 := pow_mul_lt h.2 h2.2
  rw [Nat.add_comm l k] at h4
  have e : (256 : Nat) ^ (k + l + 1) = 256 * 256 ^ (k + l) := by rw [Nat.pow_succ, Nat.mul_comm]
  refine sm_fr ?_ (by rw [e]; omega) (Nat.mul_pos a.den_pos b.den_pos)
  have h6 : (sgn (rn a) (nm a * b.den) + sgn (rn b) (nm b * a.den)).natAbs ≤ nm a * b.den + nm b * a.den := by
    have := Int.natAbs_add_le (sgn (rn a) (nm a * b.den)) (sgn (rn b) (nm b * a.den))
    rw [sgn_natAbs, sgn_natAbs] at this; exact this
  rw [e]; omega
theorem Sm.neg {k : Nat} {a : Rat} (h : Sm k a) : Sm k (-a) := by
  refine ⟨?_, h.2⟩
  have : nm (-a) = nm a := by unfold nm; rw [Rat.neg_num]; exact Int.natAbs_neg _
  rw [this]; exact h.1
theorem rn_neg {a : Rat} (h : nm a ≠ 0) : rn (-a) = !(rn a) := by
  unfold rn; rw [Rat.neg_num]; unfold nm at h
  generalize a.num = i at *
  by_cases h1 : i < 0
  · rw [decide_eq_true h1, decide_eq_false (by omega)]; rfl
  · rw [decide_eq_false h1, decide_eq_true (by omega)]; rfl
theorem rs_neg (a : Rat) : rs (-a) = rs a := by unfold rs; rw [Rat.neg_num, Int.natAbs_neg]
theorem rd_neg (a : Rat) : rd (-a) = rd a := rfl
theorem nm_neg (a : Rat) : nm (-a) = nm a := by unfold nm; rw [Rat.neg_num, Int.natAbs_neg]
theorem Sm.sub {k l : Nat} {a b : Rat} (h : Sm k a) (h2 : Sm l b) : Sm (k + l + 1) (a - b) := by
  rw [Rat.sub_eq_add_neg]; exact h.add h2.neg
end Go.Proofs.Ins
