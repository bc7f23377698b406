/- Comparing two numbers by their parts. -/
import Derived.Test.YtobbllakdjampaaGreatDoorRatM
import Derived.Test.YtobbllakdjampaaGreatDoorW2
set_option linter.unusedSimpArgs false
set_option linter.unusedVariables false
namespace Go.Proofs.Ins

theorem sg_cases (q : Rat) : (sg q = -1 ∧ q < 0) ∨ (sg q = 0 ∧ q = 0) ∨ (sg q = 1 ∧ 0 < q) := by
  unfold sg
  by_cases h : q = 0
  · rw [if_pos h]; exact .inr (.inl ⟨rfl, h⟩)
  · rw [if_neg h]
    by_cases h2 : q < 0
    · rw [if_pos h2]; exact .inl ⟨rfl, h2⟩
    · rw [if_neg h2]; exact .inr (.inr ⟨rfl, by grind⟩)

theorem cmpR_sg_lt {p q : Rat} (h : sg p < sg q) : cmpR p q = -1 := by
  apply cmpR_lt
  rcases sg_cases p with ⟨e1, h1⟩ | ⟨e1, h1⟩ | ⟨e1, h1⟩ <;> rcases sg_cases q with ⟨e2, h2⟩ | ⟨e2, h2⟩ | ⟨e2, h2⟩ <;> first | omega | grind

theorem cmpR_sg_gt {p q : Rat} (h : sg q < sg p) : cmpR p q = 1 := by
  apply cmpR_gt
  rcases sg_cases p with ⟨e1, h1⟩ | ⟨e1, h1⟩ | ⟨e1, h1⟩ <;> rcases sg_cases q with ⟨e2, h2⟩ | ⟨e2, h2⟩ | ⟨e2, h2⟩ <;> first | omega | grind

theorem rn_of_sg {p q : Rat} (h : sg p = sg q) : rn p = rn q := by
  rcases sg_cases p with ⟨e1, h1⟩ | ⟨e1, h1⟩ | ⟨e1, h1⟩ <;> rcases sg_cases q with ⟨e2, h2⟩ | ⟨e2, h2⟩ | ⟨e2, h2⟩ <;> first
    | omega
    | rw [rn_true.mpr h1, rn_true.mpr h2]
    | rw [rn_false.mpr (by grind), rn_false.mpr (by grind)]

theorem cmpR_same {p q : Rat} (h : sg p = sg q) : cmpR p q = if rn p = true then -(cmpN (nm p * q.den) (nm q * p.den)) else cmpN (nm p * q.den) (nm q * p.den) := by
  have hn := rn_of_sg h
  have e1 := sgn_rn p
  have e2 := sgn_rn q
  have h1 := Rat.lt_iff p q
  have h2 := Rat.lt_iff q p
  rw [← e1, ← e2, ← hn] at h1 h2
  obtain ⟨X, hX⟩ : ∃ X, X = nm p * q.den := ⟨_, rfl⟩
  obtain ⟨Y, hY⟩ : ∃ Y, Y = nm q * p.den := ⟨_, rfl⟩
  have c1 : (nm p : Int) * q.den = (X : Int) := by rw [hX, Int.natCast_mul]
  have c2 : (nm q : Int) * p.den = (Y : Int) := by rw [hY, Int.natCast_mul]
  rw [← hX, ← hY]
  have heq : X = Y → p = q := fun e => by
    rw [Rat.eq_iff_mul_eq_mul, ← e1, ← e2, ← hn]
    unfold sgn
    split
    · rw [Int.neg_mul, Int.neg_mul, c1, c2, e]
    · rw [c1, c2, e]
  cases hr : rn p
  · rw [hr] at h1 h2
    simp only [sgn, Bool.false_eq_true, if_false] at h1 h2 ⊢
    rw [c1, c2] at h1 h2
    rcases Nat.lt_trichotomy X Y with h3 | h3 | h3
    · rw [cmpN_lt h3, cmpR_lt (h1.mpr (by omega))]
    · rw [heq h3, cmpR_eq, h3, cmpN_eq]
    · rw [cmpN_gt h3, cmpR_gt (h2.mpr (by omega))]
  · rw [hr] at h1 h2
    simp only [sgn, if_true, Int.neg_mul] at h1 h2 ⊢
    rw [c1, c2] at h1 h2
    rcases Nat.lt_trichotomy X Y with h3 | h3 | h3
    · rw [cmpN_lt h3, cmpR_gt (h2.mpr (by omega))]; rfl
    · rw [heq h3, cmpR_eq, h3, cmpN_eq]; rfl
    · rw [cmpN_gt h3, cmpR_lt (h1.mpr (by omega))]
end Go.Proofs.Ins
