/- The data of the laws: raw numbers and voters, as lists of cells. -/
import Derived.Test.YtobbllakdjampaaGreatDoorSMem
import Derived.Test.YtobbllakdjampaaGreatDoorRatC
set_option linter.unusedSimpArgs false
set_option linter.unusedVariables false
namespace Go.Proofs.Ins
open Go.RowKit

/-- A number as it comes: three fields, valid or not. -/
structure R3 where
  n : Bool
  s : ByteArray
  d : ByteArray
instance : Inhabited R3 := ⟨⟨false, ⟨#[]⟩, ⟨#[]⟩⟩⟩
def R3.c (r : R3) : List Value := [.bool r.n, .string r.s, .string r.d]
def R3.q (r : R3) : Rat := rq r.n r.s r.d
def R3.small (r : R3) : Prop := r.s.size ≤ 24 ∧ r.d.size ≤ 24
instance (r : R3) : Decidable r.small := by unfold R3.small; infer_instance
def R3.fits (r : R3) (k : Nat) : Prop := r.s.size ≤ k ∧ r.d.size ≤ k
def ofQ (q : Rat) : R3 := ⟨rn q, rs q, rd q⟩
theorem ofQ_q (q : Rat) : (ofQ q).q = q := rq_of q
theorem ofQ_fits {q : Rat} {k : Nat} (h : Sm k q) : (ofQ q).fits k := ⟨h.rs, h.rd⟩
theorem R3.c_length (r : R3) : r.c.length = 3 := rfl

/-- A voter as it comes. -/
structure V8 where
  p : Int
  a : R3
  k : R3
  x : Bool
instance : Inhabited V8 := ⟨⟨0, default, default, false⟩⟩
def V8.c (v : V8) : List Value := [.int .i64 v.p, .bool v.a.n, .string v.a.s, .string v.a.d, .bool v.k.n, .string v.k.s, .string v.k.d, .bool v.x]
theorem V8.c_length (v : V8) : v.c.length = 8 := rfl

/-- The three cells of element i. -/
theorem SReads.r3 {w : World} {b off n : Nat} {Q : Nat → R3} (h : SReads w b off 3 n fun i => (Q i).c) {i : Nat} (hi : i < n) :
    w.cell? ⟨b, off + i * 3, none⟩ = some (.bool (Q i).n) ∧ w.cell? ⟨b, off + i * 3 + 1, none⟩ = some (.string (Q i).s) ∧ w.cell? ⟨b, off + i * 3 + 2, none⟩ = some (.string (Q i).d) :=
  ⟨h i 0 hi (by omega), h i 1 hi (by omega), h i 2 hi (by omega)⟩

/-- The eight cells of element i. -/
theorem SReads.v8 {w : World} {b off n : Nat} {V : Nat → V8} (h : SReads w b off 8 n fun i => (V i).c) {i : Nat} (hi : i < n) :
    w.cell? ⟨b, off + i * 8, none⟩ = some (.int .i64 (V i).p) ∧ w.cell? ⟨b, off + i * 8 + 1, none⟩ = some (.bool (V i).a.n) ∧ w.cell? ⟨b, off + i * 8 + 2, none⟩ = some (.string (V i).a.s) ∧ w.cell? ⟨b, off + i * 8 + 3, none⟩ = some (.string (V i).a.d) ∧
    w.cell? ⟨b, off + i * 8 + 4, none⟩ = some (.bool (V i).k.n) ∧ w.cell? ⟨b, off + i * 8 + 5, none⟩ = some (.string (V i).k.s) ∧ w.cell? ⟨b, off + i * 8 + 6, none⟩ = some (.string (V i).k.d) ∧ w.cell? ⟨b, off + i * 8 + 7, none⟩ = some (.bool (V i).x) :=
  ⟨h i 0 hi (by omega), h i 1 hi (by omega), h i 2 hi (by omega), h i 3 hi (by omega), h i 4 hi (by omega), h i 5 hi (by omega), h i 6 hi (by omega), h i 7 hi (by omega)⟩

/-- For all below n, as a truth value. -/
def allB (p : Nat → Bool) (n : Nat) : Bool := (List.range n).all p
theorem allB_true {p : Nat → Bool} {n : Nat} (h : ∀ i, i < n → p i = true) : allB p n = true := by
  unfold allB; rw [List.all_eq_true]; intro x hx; exact h x (by simpa using hx)
theorem allB_false {p : Nat → Bool} {n i : Nat} (hi : i < n) (h : p i = false) : allB p n = false := by
  unfold allB; rw [List.all_eq_false]; exact ⟨i, by simpa using hi, by simp [h]⟩
theorem allB_get {p : Nat → Bool} {n : Nat} (h : allB p n = true) : ∀ i, i < n → p i = true := by
  unfold allB at h; rw [List.all_eq_true] at h; intro i hi; exact h i (by simpa using hi)
end Go.Proofs.Ins
