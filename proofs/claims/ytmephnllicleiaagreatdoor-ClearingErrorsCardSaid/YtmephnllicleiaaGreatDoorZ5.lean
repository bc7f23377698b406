/- The walks of natural: Add32, Sub32 of math/bits; compare; Add; Subtract; Multiply. -/
import Derived.Test.YtmephnllicleiaaGreatDoorZ4
import Derived.Test.YtmephnllicleiaaGreatDoorZ3

set_option linter.unusedSimpArgs false
set_option linter.unusedVariables false
namespace Go.Proofs.Ins

/-- The first of n codes that is not 0; else 0. -/
def fnz (f : Nat → Int) : Nat → Int
  | 0 => 0
  | n + 1 => if fnz f n = 0 then f n else fnz f n
theorem fnz_none {f : Nat → Int} : ∀ {n : Nat}, (∀ i, i < n → f i = 0) → fnz f n = 0
  | 0, _ => rfl
  | n + 1, h => by
    unfold fnz; rw [if_pos (fnz_none fun i hi => h i (by omega))]; exact h n (by omega)
theorem fnz_hit {f : Nat → Int} {k : Nat} : ∀ {n : Nat}, (∀ i, i < k → f i = 0) → f k ≠ 0 → k < n → fnz f n = f k
  | 0, _, _, h => by omega
  | n + 1, h, h2, h3 => by
    unfold fnz
    by_cases e : k = n
    · subst e; rw [if_pos (fnz_none h)]
    · have := fnz_hit h h2 (show k < n by omega)
      rw [if_neg (by rw [this]; exact h2), this]
theorem fnz_zero {f : Nat → Int} : ∀ {n : Nat}, fnz f n = 0 → ∀ i, i < n → f i = 0
  | 0, _, i, hi => by omega
  | n + 1, h, i, hi => by
    unfold fnz at h
    by_cases e : fnz f n = 0
    · rw [if_pos e] at h
      by_cases e2 : i = n
      · rw [e2]; exact h
      · exact fnz_zero e i (by omega)
    · rw [if_neg e] at h; exact absurd h e
theorem fnz_congr {f g : Nat → Int} : ∀ {n : Nat}, (∀ i, i < n → f i = g i) → fnz f n = fnz g n
  | 0, _ => rfl
  | n + 1, h => by unfold fnz; rw [fnz_congr (n := n) fun i hi => h i (by omega), h n (by omega)]
/-- One more that is 0. -/
theorem fnz_next {f : Nat → Int} {k : Nat} (h : ∀ i, i < k → f i = 0) (h2 : f k = 0) : ∀ i, i < k + 1 → f i = 0 := fun i hi => by
  by_cases e : i = k
  · rw [e]; exact h2
  · exact h i (by omega)

/-- A claim. -/
def chkC (x : C5) : Int := if x.h < -1 ∨ 8 ≤ x.h then 19 else if x.r < 0 ∨ 7 < x.r then 1 else if sg x.a.q < 0 then 7 else 0
/-- Whether a claim occurs in an agreement. -/
def memT (t : Tier) (c : Int) : Bool := t.any fun p => p.k == c
def memA (a : Agr) (c : Int) : Bool := a.any fun t => memT t c
/-- Whether it occurs in one of the first k. -/
def earA (l : List Agr) (k : Nat) (c : Int) : Bool := (l.take k).any fun a => memA a c
/-- A part of the agreement k of an estate with n claims. -/
def chkP (n : Nat) (tk : Int → Bool) (p : Prt) : Int :=
  if p.k < -1 ∨ (n : Int) ≤ p.k then 1 else if p.k = -1 ∧ p.b = false then 21 else if p.b = true ∧ sg p.a.q < 0 then 7 else if p.k ≠ -1 ∧ tk p.k = true then 20 else 0
def longT (a : Agr) : Bool := decide (24 < a.length) || a.any fun t => decide (24 < t.length)
def chkT (n : Nat) (tk : Int → Bool) (t : Tier) : Int := fnz (fun i => chkP n tk (ix t i)) t.length
def chkA (n : Nat) (tk : Int → Bool) (a : Agr) : Int := if longT a = true then 2 else fnz (fun i => chkT n tk (ix a i)) a.length
/-- An estate. -/
def chkE (e : Est) : Int :=
  if 24 < e.c.length ∨ 12 < e.a.length then 2 else if sg e.m.q < 0 then 7
  else if fnz (fun i => chkC (ix e.c i)) e.c.length ≠ 0 then fnz (fun i => chkC (ix e.c i)) e.c.length
  else fnz (fun k => chkA e.c.length (earA e.a k) (ix e.a k)) e.a.length

theorem memT_ix {t : Tier} {c : Int} : memT t c = true ↔ ∃ i, i < t.length ∧ (ix t i).k = c := by
  unfold memT; rw [List.any_eq_true]
  constructor
  · rintro ⟨x, hx, h⟩
    obtain ⟨i, hi, rfl⟩ := List.getElem_of_mem hx
    exact ⟨i, hi, by rw [ix_lt hi]; simpa using h⟩
  · rintro ⟨i, hi, h⟩
    exact ⟨_, ix_mem hi, by simpa using h⟩
theorem memA_ix {a : Agr} {c : Int} : memA a c = true ↔ ∃ i, i < a.length ∧ memT (ix a i) c = true := by
  unfold memA; rw [List.any_eq_true]
  constructor
  · rintro ⟨x, hx, h⟩
    obtain ⟨i, hi, rfl⟩ := List.getElem_of_mem hx
    exact ⟨i, hi, by rw [ix_lt hi]; exact h⟩
  · rintro ⟨i, hi, h⟩
    exact ⟨_, ix_mem hi, h⟩
theorem earA_zero (l : List Agr) (c : Int) : earA l 0 c = false := by simp [earA]
theorem earA_succ {l : List Agr} {k : Nat} (h : k < l.length) (c : Int) : earA l (k + 1) c = (earA l k c || memA (ix l k) c) := by
  unfold earA; rw [take_succ_ix h, List.any_append]; simp
theorem longT_false {a : Agr} : longT a = false ↔ a.length ≤ 24 ∧ ∀ i, i < a.length → (ix a i).length ≤ 24 := by
  unfold longT
  rw [Bool.or_eq_false_iff, decide_eq_false_iff_not, List.any_eq_false]
  constructor
  · rintro ⟨h1, h2⟩
    exact ⟨by omega, fun i hi => by have := h2 _ (ix_mem hi); simp at this; omega⟩
  · rintro ⟨h1, h2⟩
    refine ⟨by omega, fun x hx => ?_⟩
    obtain ⟨i, hi, rfl⟩ := List.getElem_of_mem hx
    have := h2 i hi; rw [ix_lt hi] at this; simp; omega

/-- The legs that come before leg k of debt d. -/
def legsB (l : List Dbt) (d k : Nat) : List Lg := ((l.take d).flatMap fun x => x.l) ++ (ix l d).l.take k
def hasLg (s : List Lg) (x : Lg) : Bool := s.any fun y => y.e == x.e && y.k == x.k
/-- The holder of the claim that a leg is. -/
def holdL (l : List Est) (x : Lg) : Int := (ix (ix l x.e.toNat).c x.k.toNat).h
def chkL (g : Grp) (d k : Nat) : Int :=
  let x := ix (ix g.d d).l k
  if x.e < 0 ∨ (g.e.length : Int) ≤ x.e ∨ x.k < 0 ∨ ((ix g.e x.e.toNat).c.length : Int) ≤ x.k then 1
  else if hasLg (legsB g.d d k) x = true then 20
  else if holdL g.e x ≠ holdL g.e (ix (ix g.d d).l 0) then 19 else 0
def chkD (g : Grp) (d : Nat) : Int :=
  if 8 < (ix g.d d).l.length then 2 else if sg (ix g.d d).w.q < 0 then 7 else fnz (chkL g d) (ix g.d d).l.length
def chkH (g : Grp) (i k : Nat) : Int := if (g.e.length : Int) ≤ (ix (ix g.e i).c k).h ∨ (ix (ix g.e i).c k).h = (i : Int) then 19 else 0
/-- A group. -/
def chkG (g : Grp) : Int :=
  if 8 < g.e.length ∨ 16 < g.d.length then 2
  else if fnz (fun i => chkE (ix g.e i)) g.e.length ≠ 0 then fnz (fun i => chkE (ix g.e i)) g.e.length
  else if fnz (fun i => fnz (chkH g i) (ix g.e i).c.length) g.e.length ≠ 0 then fnz (fun i => fnz (chkH g i) (ix g.e i).c.length) g.e.length
  else fnz (chkD g) g.d.length

/-- No number of a group is long. -/
structure SmallE (k : Nat) (e : Est) : Prop where
  m : e.m.fits k
  c : ∀ i, i < e.c.length → (ix e.c i).a.fits k
  a : ∀ i j l, i < e.a.length → j < (ix e.a i).length → l < (ix (ix e.a i) j).length → (ix (ix (ix e.a i) j) l).a.fits k
  lc : e.c.length ≤ 140737488351232
  la : e.a.length ≤ 140737488351232
  lt : ∀ i, i < e.a.length → (ix e.a i).length ≤ 140737488351232
  lp : ∀ i j, i < e.a.length → j < (ix e.a i).length → (ix (ix e.a i) j).length ≤ 140737488351232
structure SmallG (k : Nat) (g : Grp) : Prop where
  e : ∀ i, i < g.e.length → SmallE k (ix g.e i)
  w : ∀ i, i < g.d.length → (ix g.d i).w.fits k
  le : g.e.length ≤ 140737488351232
  ld : g.d.length ≤ 140737488351232
  ll : ∀ i, i < g.d.length → (ix g.d i).l.length ≤ 140737488351232
end Go.Proofs.Ins

set_option linter.unusedSimpArgs false
set_option linter.unusedVariables false
namespace Go.Proofs.Ins
open Go Go.RowKit Go.ChangeShapes Go.WideShapes Go.ChangeAt Go.Deep Go.Proofs.YtmephnllicleiaaGreatDoor

section
variable {H : Type} {enc : TypeId × Value → H} {P : Program} {W : World} {sp : Nat → Bool} {held : Bool}
/-- What was there. -/
def Was (W : World) (b : Nat) : Prop := b < W.heap.size
/-- A slice, opened element by element. -/
theorem open_list {α : Type} [Inhabited α] {Q : List Value → α → Prop} {S : α → Prop} {t e : TypeId} {fuel k : Nat} {cs : List Value} {x : DataW H × List MemPlace} (ht : P.underlying t = some (.slice e)) (hk : P.cellsOf e = k) (hk0 : 0 < k) (he : 0 < P.bytesOf e)
    (hel : ∀ (n : Nat) (c : List Value) (y : DataW H × List MemPlace), DataW.trod enc P W 0 sp held n e c = some y → Light P e y.1 → ∃ a : α, Q c a ∧ S a) (h : DataW.trod enc P W 0 sp held fuel t cs = some x) (hL : Light P t x.1) :
    ∃ v l, cs = [v] ∧ RL W (Was W) k Q v l ∧ (∀ i, i < l.length → S (ix l i)) ∧ l.length ≤ 140737488351232 := by
  obtain ⟨a, len, cap, C, rfl, hn, hs, hx⟩ := open_rows ht hk hk0 he h hL
  have hcap : len ≤ cap ∧ cap ≤ 9223372036854775807 := by
    rcases open_slice ht h with ⟨e1, -⟩ | ⟨a', len', cap', m, n, D, Pl, e1, -, hl, hm, -⟩
    · simp only [List.cons.injEq, Value.slice.injEq, and_true] at e1
      omega
    · simp only [List.cons.injEq, Value.slice.injEq, and_true] at e1
      simp only [maxLen] at hm
      omega
  obtain ⟨f, hf⟩ := choose_lt (α := α) (p := fun i a => Q (C i) a ∧ S a) (fun i hi => by
    obtain ⟨_, n, y, h1, h2⟩ := hx i hi
    exact hel n (C i) y h1 h2)
  have hix : ∀ i, i < len → ix ((List.range len).map f) i = f i := fun i hi => by
    rw [ix_lt (by simpa using hi)]
    simp
  refine ⟨_, (List.range len).map f, rfl, ⟨C, ?_, fun i hi => ?_⟩, fun i hi => ?_, by simpa using hn⟩
  · rw [List.length_map, List.length_range]
    refine ⟨a, cap, rfl, hcap.1, hcap.2, ?_, fun i hi => (hx i hi).1⟩
    rcases hs with hs | ⟨b, off, e1, e2, e3⟩
    · exact .inl hs
    · exact .inr ⟨b, off, e1, e2, e2, e3⟩
  · have hi' : i < len := by simpa using hi
    rw [hix i hi']
    exact (hf i hi').1
  · have hi' : i < len := by simpa using hi
    rw [hix i hi']
    exact (hf i hi').2
end

section
variable {H : Type} {enc : TypeId × Value → H} {W : World} {sp : Nat → Bool} {held : Bool}
set_option maxRecDepth 100000 in
theorem prt_cells {fuel : Nat} {cs : List Value} {x : DataW H × List MemPlace} (h : DataW.trod enc Tryz.prog W 0 sp held fuel 82 cs = some x) (hL : Light Tryz.prog 82 x.1) : ∃ r : Prt, QV Prt.c cs r ∧ r.a.fits 140737488351232 := by
  obtain ⟨y0, y1, y2, n, rfl, hl, h0, h1, h2⟩ := trod_struct3 Tryz.underlying82 h
  have hc : Tryz.prog.cellsOf 82 = 5 := by kernel_rfl
  have hc0 : Tryz.prog.cellsOf 3 = 1 := by kernel_rfl
  have hc1 : Tryz.prog.cellsOf 4 = 1 := by kernel_rfl
  have hc2 : Tryz.prog.cellsOf 44 = 3 := by kernel_rfl
  have L2 := light_each Tryz.underlying82 hL (j := 2) rfl rfl
  simp only [hc0, hc1, hc2] at h0 h1 h2
  rw [hc] at hl
  match cs, hl with
  | [c0, c1, c2, c3, c4], _ =>
    obtain ⟨i, e0, rfl, -⟩ := DataW.trod_int Tryz.underlying3 h0
    obtain ⟨b, e1, rfl⟩ := DataW.trod_bool Tryz.underlying4 h1
    obtain ⟨r, e2, f2⟩ := rat_cells h2 L2
    simp [R3.c] at e0 e1 e2
    obtain ⟨rfl, rfl, rfl⟩ := e2
    subst e0 e1
    exact ⟨⟨i, b, r⟩, rfl, f2⟩
set_option maxRecDepth 100000 in
theorem c5_cells {fuel : Nat} {cs : List Value} {x : DataW H × List MemPlace} (h : DataW.trod enc Tryz.prog W 0 sp held fuel 56 cs = some x) (hL : Light Tryz.prog 56 x.1) : ∃ r : C5, QV C5.c cs r ∧ r.a.fits 140737488351232 := by
  obtain ⟨y0, y1, y2, n, rfl, hl, h0, h1, h2⟩ := trod_struct3 Tryz.underlying56 h
  have hc : Tryz.prog.cellsOf 56 = 5 := by kernel_rfl
  have hc0 : Tryz.prog.cellsOf 3 = 1 := by kernel_rfl
  have hc2 : Tryz.prog.cellsOf 44 = 3 := by kernel_rfl
  have L2 := light_each Tryz.underlying56 hL (j := 2) rfl rfl
  simp only [hc0, hc2] at h0 h1 h2
  rw [hc] at hl
  match cs, hl with
  | [c0, c1, c2, c3, c4], _ =>
    obtain ⟨i, e0, rfl, -⟩ := DataW.trod_int Tryz.underlying3 h0
    obtain ⟨j, e1, rfl, -⟩ := DataW.trod_int Tryz.underlying3 h1
    obtain ⟨r, e2, f2⟩ := rat_cells h2 L2
    simp [R3.c] at e0 e1 e2
    obtain ⟨rfl, rfl, rfl⟩ := e2
    subst e0 e1
    exact ⟨⟨i, j, r⟩, rfl, f2⟩
set_option maxRecDepth 100000 in
theorem lg_cells {fuel : Nat} {cs : List Value} {x : DataW H × List MemPlace} (h : DataW.trod enc Tryz.prog W 0 sp held fuel 67 cs = some x) : ∃ r : Ins.Lg, QV Lg.c cs r ∧ True := by
  obtain ⟨y0, y1, n, rfl, hl, h0, h1⟩ := trod_struct2 Tryz.underlying67 h
  have hc : Tryz.prog.cellsOf 67 = 2 := by kernel_rfl
  have hc0 : Tryz.prog.cellsOf 3 = 1 := by kernel_rfl
  simp only [hc0] at h0 h1
  rw [hc] at hl
  match cs, hl with
  | [c0, c1], _ =>
    obtain ⟨i, e0, rfl, -⟩ := DataW.trod_int Tryz.underlying3 h0
    obtain ⟨j, e1, rfl, -⟩ := DataW.trod_int Tryz.underlying3 h1
    simp at e0 e1
    subst e0 e1
    exact ⟨⟨i, j⟩, rfl, trivial⟩
/-- The sizes of an agreement's parts. -/
def FitT (t : Tier) : Prop := (∀ i, i < t.length → (ix t i).a.fits 140737488351232) ∧ t.length ≤ 140737488351232
def FitA (a : Agr) : Prop := (∀ i, i < a.length → FitT (ix a i)) ∧ a.length ≤ 140737488351232
set_option maxRecDepth 100000 in
theorem tier_cells {fuel : Nat} {cs : List Value} {x : DataW H × List MemPlace} (h : DataW.trod enc Tryz.prog W 0 sp held fuel 80 cs = some x) (hL : Light Tryz.prog 80 x.1) : ∃ t : Tier, QTier W (Was W) cs t ∧ FitT t := by
  obtain ⟨v, l, rfl, h1, h2, h3⟩ := open_list (k := 5) (Q := QV Prt.c) (S := fun r => r.a.fits 140737488351232) Tryz.underlying80 (by kernel_rfl) (by omega) (of_decide_eq_true (by kernel_rfl)) (fun n c y h hL => prt_cells h hL) h hL
  exact ⟨l, ⟨v, rfl, h1⟩, h2, h3⟩
set_option maxRecDepth 100000 in
theorem agr_cells {fuel : Nat} {cs : List Value} {x : DataW H × List MemPlace} (h : DataW.trod enc Tryz.prog W 0 sp held fuel 79 cs = some x) (hL : Light Tryz.prog 79 x.1) : ∃ t : Agr, QAgr W (Was W) cs t ∧ FitA t := by
  obtain ⟨y0, n, rfl, hl, h0⟩ := trod_struct1 Tryz.underlying79 h
  have hc : Tryz.prog.cellsOf 79 = 1 := by kernel_rfl
  have hc0 : Tryz.prog.cellsOf 77 = 1 := by kernel_rfl
  have L0 := light_each Tryz.underlying79 hL (j := 0) rfl rfl
  simp only [hc0] at h0
  rw [hc] at hl
  match cs, hl with
  | [c0], _ =>
    obtain ⟨v, l, e, h1, h2, h3⟩ := open_list (k := 1) (Q := QTier W (Was W)) (S := FitT) Tryz.underlying77 (by kernel_rfl) (by omega) (of_decide_eq_true (by kernel_rfl)) (fun n c y h hL => tier_cells h hL) h0 L0
    simp at e
    subst e
    exact ⟨l, ⟨_, rfl, h1⟩, h2, h3⟩
/-- The sizes of an estate. -/
def FitE (e : Est) : Prop := e.m.fits 140737488351232 ∧ (∀ i, i < e.c.length → (ix e.c i).a.fits 140737488351232) ∧ e.c.length ≤ 140737488351232 ∧ (∀ i, i < e.a.length → FitA (ix e.a i)) ∧ e.a.length ≤ 140737488351232
set_option maxRecDepth 100000 in
theorem est_cells {fuel : Nat} {cs : List Value} {x : DataW H × List MemPlace} (h : DataW.trod enc Tryz.prog W 0 sp held fuel 48 cs = some x) (hL : Light Tryz.prog 48 x.1) : ∃ e : Est, QEst W (Was W) cs e ∧ FitE e := by
  obtain ⟨y0, y1, y2, n, rfl, hl, h0, h1, h2⟩ := trod_struct3 Tryz.underlying48 h
  have hc : Tryz.prog.cellsOf 48 = 5 := by kernel_rfl
  have hc0 : Tryz.prog.cellsOf 44 = 3 := by kernel_rfl
  have hc1 : Tryz.prog.cellsOf 45 = 1 := by kernel_rfl
  have hc2 : Tryz.prog.cellsOf 46 = 1 := by kernel_rfl
  have L0 := light_each Tryz.underlying48 hL (j := 0) rfl rfl
  have L1 := light_each Tryz.underlying48 hL (j := 1) rfl rfl
  have L2 := light_each Tryz.underlying48 hL (j := 2) rfl rfl
  simp only [hc0, hc1, hc2] at h0 h1 h2
  rw [hc] at hl
  match cs, hl with
  | [c0, c1, c2, c3, c4], _ =>
    obtain ⟨r, e0, f0⟩ := rat_cells h0 L0
    obtain ⟨cv, lc, e1, k1, k2, k3⟩ := open_list (k := 5) (Q := QV C5.c) (S := fun r => r.a.fits 140737488351232) Tryz.underlying45 (by kernel_rfl) (by omega) (of_decide_eq_true (by kernel_rfl)) (fun n c y h hL => c5_cells h hL) h1 L1
    obtain ⟨av, la, e2, m1, m2, m3⟩ := open_list (k := 1) (Q := QAgr W (Was W)) (S := FitA) Tryz.underlying46 (by kernel_rfl) (by omega) (of_decide_eq_true (by kernel_rfl)) (fun n c y h hL => agr_cells h hL) h2 L2
    simp [R3.c] at e0 e1 e2
    obtain ⟨rfl, rfl, rfl⟩ := e0
    subst e1 e2
    exact ⟨⟨r, lc, la⟩, ⟨_, _, rfl, k1, m1⟩, f0, k2, k3, m2, m3⟩
def FitD (d : Dbt) : Prop := d.w.fits 140737488351232 ∧ d.l.length ≤ 140737488351232
set_option maxRecDepth 100000 in
theorem dbt_cells {fuel : Nat} {cs : List Value} {x : DataW H × List MemPlace} (h : DataW.trod enc Tryz.prog W 0 sp held fuel 52 cs = some x) (hL : Light Tryz.prog 52 x.1) : ∃ e : Dbt, QDbt W (Was W) cs e ∧ FitD e := by
  obtain ⟨y0, y1, n, rfl, hl, h0, h1⟩ := trod_struct2 Tryz.underlying52 h
  have hc : Tryz.prog.cellsOf 52 = 4 := by kernel_rfl
  have hc0 : Tryz.prog.cellsOf 44 = 3 := by kernel_rfl
  have hc1 : Tryz.prog.cellsOf 50 = 1 := by kernel_rfl
  have L0 := light_each Tryz.underlying52 hL (j := 0) rfl rfl
  have L1 := light_each Tryz.underlying52 hL (j := 1) rfl rfl
  simp only [hc0, hc1] at h0 h1
  rw [hc] at hl
  match cs, hl with
  | [c0, c1, c2, c3], _ =>
    obtain ⟨r, e0, f0⟩ := rat_cells h0 L0
    obtain ⟨lv, ll, e1, k1, -, k3⟩ := open_list (k := 2) (Q := QV Lg.c) (S := fun _ => True) Tryz.underlying50 (by kernel_rfl) (by omega) (of_decide_eq_true (by kernel_rfl)) (fun n c y h hL => lg_cells h) h1 L1
    simp [R3.c] at e0 e1
    obtain ⟨rfl, rfl, rfl⟩ := e0
    subst e1
    exact ⟨⟨r, ll⟩, ⟨_, rfl, k1⟩, f0, k3⟩
theorem FitE.small {e : Est} (h : FitE e) : SmallE 140737488351232 e := ⟨h.1, h.2.1, fun i j l hi hj hl => ((h.2.2.2.1 i hi).1 j hj).1 l hl, h.2.2.1, h.2.2.2.2, fun i hi => (h.2.2.2.1 i hi).2, fun i j hi hj => ((h.2.2.2.1 i hi).1 j hj).2⟩
/-- The sizes of a group. -/
structure FitG (g : Grp) : Prop where
  e : ∀ i, i < g.e.length → FitE (ix g.e i)
  le : g.e.length ≤ 140737488351232
  d : ∀ i, i < g.d.length → FitD (ix g.d i)
  ld : g.d.length ≤ 140737488351232
theorem FitG.small {g : Grp} (h : FitG g) : SmallG 140737488351232 g := ⟨fun i hi => (h.e i hi).small, fun i hi => (h.d i hi).1, h.le, h.ld, fun i hi => (h.d i hi).2⟩
set_option maxRecDepth 100000 in
theorem v_grp {r : Reach} {b : Nat} {v : Value} {d : DataW H} {p : List MemPlace} (hv : Value.okWide Tryz.prog W r b 25 v) (h : DataW.Trod enc Tryz.prog W 0 sp held 25 v d p) (hL : Light Tryz.prog 25 d) :
    ∃ g : Grp, RGrp W (Was W) v g ∧ FitG g := by
  obtain ⟨cs, rfl, -⟩ := okWide_struct Tryz.underlying25 hv
  obtain ⟨f, h9⟩ := h
  have h9 : DataW.trod enc Tryz.prog W 0 sp held f 25 cs.toList = some (d, p) := h9
  obtain ⟨y0, y1, n, ey, hl, h0, h1⟩ := trod_struct2 Tryz.underlying25 h9
  have ed : d = .agg [y0.1, y1.1] := congrArg Prod.fst ey
  subst ed
  have hc : Tryz.prog.cellsOf 25 = 2 := by kernel_rfl
  have hc0 : Tryz.prog.cellsOf 22 = 1 := by kernel_rfl
  have hc1 : Tryz.prog.cellsOf 23 = 1 := by kernel_rfl
  have L0 := light_each Tryz.underlying25 hL (j := 0) rfl rfl
  have L1 := light_each Tryz.underlying25 hL (j := 1) rfl rfl
  simp only [hc0, hc1] at h0 h1
  rw [hc] at hl
  obtain ⟨cl⟩ := cs
  match cl, hl with
  | [c0, c1], _ =>
    obtain ⟨ev, le, e0, k1, k2, k3⟩ := open_list (k := 5) (Q := QEst W (Was W)) (S := FitE) Tryz.underlying22 (by kernel_rfl) (by omega) (of_decide_eq_true (by kernel_rfl)) (fun n c y h hL => est_cells h hL) h0 L0
    obtain ⟨dv, ld, e1, m1, m2, m3⟩ := open_list (k := 4) (Q := QDbt W (Was W)) (S := FitD) Tryz.underlying23 (by kernel_rfl) (by omega) (of_decide_eq_true (by kernel_rfl)) (fun n c y h hL => dbt_cells h hL) h1 L1
    simp at e0 e1
    subst e0 e1
    exact ⟨⟨le, ld⟩, ⟨_, _, rfl, k1, m1⟩, k2, k3, m2, m3⟩
end
end Go.Proofs.Ins

set_option linter.unusedSimpArgs false
set_option linter.unusedVariables false
namespace Go.Proofs.Ins
open Go.RowKit

theorem u32_wraps (n : Int) (h0 : 0 ≤ n) (h1 : n < 2 ^ 32) : IntKind.u32.wrap n = n := by rw [IntKind.wrap_u32]; omega
theorem and_u32 (a b : Nat) (ha : a < 2 ^ 32) (hb : b < 2 ^ 32) : bits .and .u32 (a : Int) b = ((a &&& b : Nat) : Int) := (bits_nat .u32 32 (by decide) u32_wraps a b ha hb).1
theorem oru_u32 (a b : Nat) (ha : a < 2 ^ 32) (hb : b < 2 ^ 32) : bits .or .u32 (a : Int) b = ((a ||| b : Nat) : Int) := (bits_nat .u32 32 (by decide) u32_wraps a b ha hb).2
theorem xor_u32 (a b : Nat) (ha : a < 2 ^ 32) (hb : b < 2 ^ 32) : bits .xor .u32 (a : Int) b = ((a ^^^ b : Nat) : Int) := by
  have ha' : a % 2 ^ IntKind.u32.bits = a := Nat.mod_eq_of_lt ha
  have hb' : b % 2 ^ IntKind.u32.bits = b := Nat.mod_eq_of_lt hb
  simp only [bits, BitVec.ofInt_natCast, BitVec.toNat_xor, BitVec.toNat_ofNat, ha', hb']
  have h := Nat.xor_lt_two_pow ha hb
  exact u32_wraps _ (Int.natCast_nonneg _) (by exact_mod_cast h)

theorem top_lt {a : Nat} (h : a < 2 ^ 32) : a >>> 31 = 0 ∨ a >>> 31 = 1 := by
  rw [Nat.shiftRight_eq_div_pow]; omega

theorem borrow_nat (x y d : Nat) (hx : x < 2 ^ 32) (hy : y < 2 ^ 32) (hd : d < 2 ^ 32) (b : Nat) (hb : b ≤ 1) (he : (d + y + b) % 4294967296 = x) :
    (((4294967295 ^^^ x) &&& y) ||| ((4294967295 ^^^ (x ^^^ y)) &&& d)) / 2147483648 = if x < y + b then 1 else 0 := by
  have e : ∀ n, n / 2147483648 = n >>> 31 := fun n => by rw [Nat.shiftRight_eq_div_pow]
  rw [e, Nat.shiftRight_or_distrib, Nat.shiftRight_and_distrib, Nat.shiftRight_and_distrib, Nat.shiftRight_xor_distrib, Nat.shiftRight_xor_distrib, Nat.shiftRight_xor_distrib]
  have m : 4294967295 >>> 31 = 1 := by decide
  rw [m]
  have tx := top_lt hx
  have ty := top_lt hy
  have td := top_lt hd
  have fx : x >>> 31 = x / 2147483648 := (e x).symm
  have fy : y >>> 31 = y / 2147483648 := (e y).symm
  have fd : d >>> 31 = d / 2147483648 := (e d).symm
  rcases tx with tx | tx <;> rcases ty with ty | ty <;> rcases td with td | td <;> rw [tx, ty, td] <;> simp <;> omega

theorem borrow_int (x y b : Int) (hx0 : 0 ≤ x) (hx : x ≤ 4294967295) (hy0 : 0 ≤ y) (hy : y ≤ 4294967295) (hb0 : 0 ≤ b) (hb : b ≤ 1) :
    bits BinOp.or .u32 (bits BinOp.and .u32 (bits BinOp.xor .u32 IntKind.u32.max x) y) (bits BinOp.and .u32 (bits BinOp.xor .u32 IntKind.u32.max (bits BinOp.xor .u32 x y)) ((x - y - b) % 4294967296)) / 2147483648
      = if x < y + b then 1 else 0 := by
  obtain ⟨x, rfl⟩ := Int.eq_ofNat_of_zero_le hx0
  obtain ⟨y, rfl⟩ := Int.eq_ofNat_of_zero_le hy0
  obtain ⟨b, rfl⟩ := Int.eq_ofNat_of_zero_le hb0
  obtain ⟨d, hd⟩ := Int.eq_ofNat_of_zero_le (show 0 ≤ ((x : Int) - y - b) % 4294967296 by omega)
  have hd2 : d < 2 ^ 32 := by omega
  have hm : IntKind.u32.max = ((4294967295 : Nat) : Int) := by decide
  rw [hd, hm]
  have h1 : (4294967295 ^^^ x) < 2 ^ 32 := Nat.xor_lt_two_pow (by decide) (by omega)
  have h2 : (x ^^^ y) < 2 ^ 32 := Nat.xor_lt_two_pow (by omega) (by omega)
  have h3 : (4294967295 ^^^ (x ^^^ y)) < 2 ^ 32 := Nat.xor_lt_two_pow (by decide) h2
  rw [xor_u32 _ x (by decide) (by omega), xor_u32 x y (by omega) (by omega), xor_u32 _ _ (by decide) h2, and_u32 _ _ h1 (by omega), and_u32 _ _ h3 hd2,
    oru_u32 _ _ (Nat.and_lt_two_pow _ (by omega)) (Nat.and_lt_two_pow _ hd2)]
  have h4 := borrow_nat x y d (by omega) (by omega) hd2 b (by omega) (by omega)
  have h5 : ((2147483648 : Int)) = ((2147483648 : Nat) : Int) := rfl
  rw [h5, ← Int.natCast_ediv, h4]
  split <;> split <;> omega

/-- The borrow of a subtraction. -/
def brw (x y b : Int) : Int := if x < y + b then 1 else 0

set_option maxRecDepth 100000 in
set_option maxHeartbeats 400000 in
theorem sub32_any (x y b : Int) (w : World) (hx0 : 0 ≤ x) (hx : x ≤ 4294967295) (hy0 : 0 ≤ y) (hy : y ≤ 4294967295) (hb0 : 0 ≤ b) (hb : b ≤ 1) :
    Calls Tryz.prog 208 #[.int .u32 x, .int .u32 y, .int .u32 b] w fun e w' => e = .returned (.tuple #[.int .u32 ((x - y - b) % 4294967296), .int .u32 (brw x y b)]) ∧ w = w' := by
  have H := Lib.hid (borrow_int x y b hx0 hx hy0 hy hb0 hb)
  go_enter Tryz.func208, Tryz.ntmps208
  go_wp2
  go_ret2
  refine ⟨?_, rfl⟩
  unfold brw
  rw [← H.out]; rfl

set_option maxRecDepth 100000 in
set_option maxHeartbeats 400000 in
theorem add32_any (x y c : Int) (w : World) (hx0 : 0 ≤ x) (hx : x ≤ 4294967295) (hy0 : 0 ≤ y) (hy : y ≤ 4294967295) (hb0 : 0 ≤ c) (hb : c ≤ 1) :
    Calls Tryz.prog 175 #[.int .u32 x, .int .u32 y, .int .u32 c] w fun e w' => e = .returned (.tuple #[.int .u32 ((x + y + c) % 4294967296), .int .u32 ((x + y + c) / 4294967296)]) ∧ w = w' := by
  go_enter Tryz.func175, Tryz.ntmps175
  go_wp2
  go_ret2
  exact ⟨rfl, rfl⟩

set_option maxRecDepth 100000 in
set_option maxHeartbeats 400000 in
theorem compare_len (a b : Option Addr) (la lb ca cb : Nat) (w : World) (h : la ≠ lb) (h1 : la ≤ 4294967296) (h2 : lb ≤ 4294967296) :
    Calls Tryz.prog 176 #[.slice a la ca, .slice b lb cb] w fun e w' => e = .returned (.int .i64 (sgnI ((la : Int) - lb))) ∧ w = w' := by
  have HL2 : ((la : Int) != (lb : Int)) = true := by simp; omega
  clear h
  go_enter Tryz.func176, Tryz.ntmps176
  go_wp2_with (go_at_call 140; refine (sign_any _ _).mono ?_; rintro e w' ⟨rfl, rfl⟩)
  go_ret
  exact ⟨rfl, rfl⟩

set_option maxRecDepth 100000 in
set_option maxHeartbeats 400000 in
theorem compare_zero (a b : Option Addr) (ca cb : Nat) (w : World) :
    Calls Tryz.prog 176 #[.slice a 0 ca, .slice b 0 cb] w fun e w' => e = .returned (.int .i64 0) ∧ w = w' := by
  go_enter Tryz.func176, Tryz.ntmps176
  go_wp2
  go_loop [5] (fun v => v = .int .i64 (-1)) (fun _ => 0)
  case atStart => exact rfl
  case round =>
    subst hrel
    go_wp2
    go_ret
    exact ⟨rfl, rfl⟩

set_option maxRecDepth 100000 in
set_option maxHeartbeats 400000 in
theorem compare_walk (b1 o1 b2 o2 n c1 c2 : Nat) (f g : Nat → Nat) (w : World) (hn : n ≤ 4294967296) (hn0 : 0 < n) (hf : Reads w b1 o1 .u32 n f) (hg : Reads w b2 o2 .u32 n g)
    (lf : ∀ j, j < n → f j < LB) (lg : ∀ j, j < n → g j < LB) :
    Calls Tryz.prog 176 #[.slice (some ⟨b1, o1, none⟩) n c1, .slice (some ⟨b2, o2, none⟩) n c2] w fun e w' => e = .returned (.int .i64 (cmpN (lv f n) (lv g n))) ∧ Below w.heap.size w w' := by
  have Hlf := Lib.hid lf
  have Hlg := Lib.hid lg
  have Hf := Lib.hid hf
  have Hg := Lib.hid hg
  clear lf lg hf hg
  go_enter Tryz.func176, Tryz.ntmps176
  go_wp2
  go_loopw [5] (fun v wr => ∃ i : Int, v = .int .i64 i ∧ -1 ≤ i ∧ i < n ∧ Hid (∀ j : Nat, i < j → j < n → f j = g j) ∧ ∃ q, wr = w.drewN q) (fun v _ => (intOf v + 1).toNat)
  case atStart => exact ⟨(n : Int) - 1, rfl, by omega, by omega, fun j h1 h2 => by omega, 0, rfl⟩
  case round =>
    obtain ⟨i, rfl, hi1, hi2, hall, q, rfl⟩ := hrel
    by_cases h0 : i = -1
    · subst h0
      have he : lv f n = lv g n := lv_congr fun j hj => hall.out j (by omega) hj
      have HE := Lib.hid he
      clear he
      go_wp2
      go_ret
      exact ⟨ret_int (by rw [HE.out, cmpN_eq]), below_drewN (Below.refl _ _) q⟩
    · obtain ⟨m, rfl⟩ := Int.eq_ofNat_of_zero_le (show 0 ≤ i by omega)
      have hm : (m : Int) < n := hi2
      have hc1 := Hf.out m (by omega)
      have hc2 := Hg.out m (by omega)
      rcases (show f m < g m ∨ g m < f m ∨ f m = g m by omega) with h | h | h
      · have t1 : ((f m : Int) != (g m : Int)) = true := by simp; omega
        have t2 : ((f m : Int) < (g m : Int)) := by omega
        have HR := Lib.hid (lv_lt_of_top Hlf.out Hlg.out (show m < n by omega) (fun j h1 h2 => hall.out j (by omega) h2) h)
        go_wp2
        go_quiet (fail)
        go_wp2
        go_quiet (fail)
        go_wp2
        go_ret
        exact ⟨ret_int (cmpN_lt HR.out).symm, below_drewN (below_drewN (below_drewN (Below.refl _ _) _) _) _⟩
      · have t1 : ((f m : Int) != (g m : Int)) = true := by simp; omega
        have t2 : decide ((f m : Int) < (g m : Int)) = false := by simp; omega
        have HR := Lib.hid (lv_lt_of_top Hlg.out Hlf.out (show m < n by omega) (fun j h1 h2 => (hall.out j (by omega) h2).symm) h)
        go_wp2
        go_quiet (fail)
        go_wp2
        go_quiet (fail)
        go_wp2
        go_ret
        exact ⟨ret_int (cmpN_gt HR.out).symm, below_drewN (below_drewN (below_drewN (Below.refl _ _) _) _) _⟩
      · rw [h] at hc1
        have H := Lib.hid h
        clear h
        go_wp2
        go_quiet (fail)
        go_wp2
        go_roundw
        case rel => exact ⟨(m : Int) - 1, rfl, by omega, by omega, fun j h1 h2 => by
          by_cases e : j = m
          · subst e; exact H.out
          · exact hall.out j (by omega) h2, _, rfl⟩
        case measure => simp [intOf]

theorem compare_any (a b : Option Addr) (la lb ca cb x y : Nat) (w : World) (h1 : Limbs w a la x) (h2 : Limbs w b lb y) (l1 : la ≤ 4294967296) (l2 : lb ≤ 4294967296) :
    Calls Tryz.prog 176 #[.slice a la ca, .slice b lb cb] w fun e w' => e = .returned (.int .i64 (cmpN x y)) ∧ Below w.heap.size w w' := by
  obtain ⟨f, rfl, hf, rf⟩ := h1
  obtain ⟨g, rfl, hg, rg⟩ := h2
  by_cases h : la = lb
  · subst h
    by_cases h0 : la = 0
    · subst h0
      exact (compare_zero a b ca cb w).mono fun e w' ⟨he, hw⟩ => ⟨he, hw ▸ Below.refl _ _⟩
    · rcases rf with rf | ⟨b1, o1, rfl, r1⟩
      · exact absurd rf h0
      rcases rg with rg | ⟨b2, o2, rfl, r2⟩
      · exact absurd rg h0
      exact compare_walk b1 o1 b2 o2 la ca cb f g w l1 (by omega) r1 r2 hf.1 hg.1
  · refine (compare_len a b la lb ca cb w h l1 l2).mono fun e w' ⟨he, hw⟩ => ⟨he.trans (ret_int ?_), hw ▸ Below.refl _ _⟩
    rcases (show la < lb ∨ lb < la by omega) with c | c
    · rw [sgnI_lt (by omega), cmpN_lt (hf.len_lt hg c)]
    · rw [sgnI_gt (by omega), cmpN_gt (hg.len_lt hf c)]

theorem ext_upd (f : Nat → Nat) (k v : Nat) (hv : v = f k) (j : Nat) : upd (ext f k) k v j = ext f (k + 1) j := by
  by_cases e : j = k
  · subst e; rw [upd_same, ext_in (by omega), hv]
  · rw [upd_other _ _ _ e]
    by_cases h : j < k
    · rw [ext_in h, ext_in (by omega)]
    · rw [ext_out (by omega), ext_out (by omega)]

theorem Limbs.len_str {w : World} {a : Option Addr} {len : Nat} {s : ByteArray} (h : Limbs w a len (nv s)) : 4 * len ≤ s.size + 3 := by
  have h1 := nv_lt s
  have h2 : nv s < LB ^ ((s.size + 3) / 4) := by
    rw [LB_pow]
    exact Nat.lt_of_lt_of_le h1 (Nat.pow_le_pow_right (by omega) (by omega))
  have := h.len_le h2
  omega

/-- What the walk knows of limbs. -/
def LimbsF (w : World) (a : Option Addr) (len x : Nat) (f : Nat → Nat) : Prop := lv f len = x ∧ Can f len ∧ (len = 0 ∨ ∃ b off, a = some ⟨b, off, none⟩ ∧ Reads w b off .u32 len f)

theorem add_rel {F G' C : Nat} {f g : Nat → Nat} {k lx : Nat} {w2 wr : World} {T : TypeId}
    (hd : sdg f g k = (F + G' + C) % LB) (hs : cry f g (k + 1) = (F + G' + C) / LB) (hrow : Row wr w2.heap.size T .u32 (lx + 1) (ext (sdg f g) k)) (hbel : Below w2.heap.size w2 wr) (hk : k < lx) :
    ∃ k' : Nat, Value.int .i64 ((k : Int) + 1) = .int .i64 k' ∧ k' ≤ lx ∧ Value.int .u32 (((F : Int) + (G' : Nat) + C) / 4294967296) = .int .u32 (cry f g k') ∧
      Row (wr.setCell ⟨w2.heap.size, k, none⟩ (.int .u32 (((F : Int) + (G' : Nat) + C) % 4294967296))) w2.heap.size T .u32 (lx + 1) (ext (sdg f g) k') ∧
      Below w2.heap.size w2 (wr.setCell ⟨w2.heap.size, k, none⟩ (.int .u32 (((F : Int) + (G' : Nat) + C) % 4294967296))) := by
  rw [LB_eq] at hd hs
  refine ⟨k + 1, by go_num, by omega, ?_, ?_, hbel.setCell (Nat.le_refl _) _⟩
  · rw [hs]; congr 1
  · have e1 : (((F : Int) + (G' : Nat) + C) % 4294967296) = ((sdg f g k : Nat) : Int) := by rw [hd]; omega
    rw [e1]
    exact (hrow.set k _).congr fun j _ => ext_upd _ k _ rfl j

set_option maxRecDepth 100000 in
set_option maxHeartbeats 1600000 in
theorem add_any (a b : ByteArray) (w : World) (ha : a.size ≤ 1073741824) (hb : b.size ≤ 1073741824) :
    Calls Tryz.prog 121 #[.string a, .string b] w fun e w' => e = .returned (.string (bn (nv a + nv b))) ∧ Below w.heap.size w w' := by
  go_enter Tryz.func121, Tryz.ntmps121
  go_wp2_with fail
  refine (parse_any a _ ha).mono ?_; rintro e w1 ⟨ax, lx, cx, rfl, lcx, ccx, hX1, hb1⟩
  go_wp2_with fail
  refine (parse_any b _ hb).mono ?_; rintro e w2 ⟨ay, ly, cy, rfl, lcy, ccy, hY, hb2⟩
  have hX := hX1.below hb2 (Nat.le_refl _)
  have hll := hX.len_str
  have hlm := hY.len_str
  obtain ⟨fx, hX⟩ := hX
  obtain ⟨fy, hY⟩ := hY
  have HX : Hid (LimbsF w2 ax lx (nv a) fx) := hX
  have HY : Hid (LimbsF w2 ay ly (nv b) fy) := hY
  clear hX hY hX1
  by_cases hsw : lx < ly
  · have hsw' : decide ((lx : Int) < (ly : Int)) = true := by simp; omega
    go_wp2_with (refine wpList_makeT _ _ 205 207 .u32 4 (ly + 1) _ rfl rfl Tryz.underlying205 u32info rfl rfl (by omega) (by omega) (by omega) ?_; intro w3 hr3 hb3 hz3)
    go_loopw [8, 9, 10, 28] (fun c _ _ i wr => ∃ k : Nat, i = .int .i64 k ∧ k ≤ ly ∧ c = .int .u32 (cry (ext fy ly) (ext fx lx) k) ∧ Row wr w2.heap.size 207 .u32 (ly + 1) (ext (sdg (ext fy ly) (ext fx lx)) k) ∧ Below w2.heap.size w2 wr) (fun _ _ _ i _ => ly - (intOf i).toNat)
    case atStart => exact ⟨0, rfl, by omega, rfl, hr3.congr (fun j _ => by rw [ext_out (by omega)]), hb3⟩
    case round =>
      obtain ⟨k, rfl, hk, rfl, hrow, hbel⟩ := hrel
      clear hr3 hb3 hz3
      have c0 := cry_le (ext_lt HY.out.2.1.1) (ext_lt HX.out.2.1.1) k
      have fk := ext_lt HY.out.2.1.1 k
      have gk := ext_lt HX.out.2.1.1 k
      have hs := Lib.hid (cry_succ (ext fy ly) (ext fx lx) k)
      have hd : Hid (sdg (ext fy ly) (ext fx lx) k = (ext fy ly k + ext fx lx k + cry (ext fy ly) (ext fx lx) k) % LB) := rfl
      rw [LB_eq] at fk gk
      have q0 : (0 : Int) ≤ (cry (ext fy ly) (ext fx lx) k : Int) := by omega
      have q1 : (cry (ext fy ly) (ext fx lx) k : Int) ≤ 1 := by omega
      by_cases hlt : k < ly
      · rcases HY.out.2.2 with h0 | ⟨b1, o1, rfl, r1⟩
        · omega
        have hcx := (r1.below hbel (by have := r1.lt (by omega); omega)) k hlt
        rw [← ext_in (f := fy) hlt] at hcx
        have hold := hrow.cell (j := k) (by omega)
        have hfr := hrow.frozen k
        rw [ext_out (Nat.le_refl k)] at hold
        have f0 : (0 : Int) ≤ (ext fy ly k : Int) := by omega
        have f1 : (ext fy ly k : Int) ≤ 4294967295 := by omega
        have g0 : (0 : Int) ≤ (ext fx lx k : Int) := by omega
        have g1 : (ext fx lx k : Int) ≤ 4294967295 := by omega
        generalize hC : cry (ext fy ly) (ext fx lx) k = C at *
        generalize hF : ext fy ly k = F at *
        have HC := Lib.hid hC
        have HF := Lib.hid hF
        clear hC hF
        by_cases hlt2 : k < lx
        · rcases HX.out.2.2 with h0 | ⟨b2, o2, rfl, r2⟩
          · omega
          have hcy := (r2.below hbel (by have := r2.lt (by omega); omega)) k hlt2
          rw [← ext_in (f := fx) hlt2] at hcy
          generalize hG : ext fx lx k = G at *
          have HG := Lib.hid hG
          clear hG
          go_wp2_with (go_at_call 175; refine (add32_any _ _ _ _ f0 f1 g0 g1 q0 q1).mono ?_; rintro e w' ⟨rfl, rfl⟩)
          go_roundw
          case rel => exact add_rel hd.out hs.out hrow hbel hlt
          case measure => simp [intOf]; omega
        · have hG0 : ext fx lx k = 0 := ext_out (by omega)
          have hnn : decide ((k : Int) < (lx : Int)) = false := by simp; omega
          rw [hG0] at hd hs g0 g1
          have HG := Lib.hid hG0
          clear hG0
          go_wp2_with (go_at_call 175; refine (add32_any _ _ _ _ f0 f1 (by omega) (by omega) q0 q1).mono ?_; rintro e w' ⟨rfl, rfl⟩)
          go_roundw
          case rel => exact add_rel (G' := 0) hd.out hs.out hrow hbel hlt
          case measure => simp [intOf]; omega
      · obtain rfl : k = ly := by omega
        have hold := hrow.cell (j := k) (by omega)
        have hfr := hrow.frozen k
        rw [ext_out (Nat.le_refl k)] at hold
        have hfin : lv (upd (ext (sdg (ext fy k) (ext fx lx)) k) k (cry (ext fy k) (ext fx lx) k)) (k + 1) = nv a + nv b := by
          rw [Nat.add_comm (nv a)]
          rw [lv_succ, lv_upd_ge _ (Nat.le_refl k), upd_same, lv_ext (Nat.le_refl k), sdg_lv, lv_ext (Nat.le_refl k), lv_ext (by omega), HY.out.1, HX.out.1]
        have hlim : ∀ j, j < k + 1 → upd (ext (sdg (ext fy k) (ext fx lx)) k) k (cry (ext fy k) (ext fx lx) k) j < LB := by
          intro j hj
          by_cases e : j = k
          · subst e; rw [upd_same]; unfold LB; omega
          · rw [upd_other _ _ _ e]; exact ext_lt (fun j _ => Nat.mod_lt _ LB_pos) j
        have hrow2 := hrow.set k (cry (ext fy k) (ext fx lx) k)
        have hb3 : Below w.heap.size w (wr.setCell ⟨w2.heap.size, k, none⟩ (.int .u32 (cry (ext fy k) (ext fx lx) k))) :=
          (hb1.trans (hb2.mono hb1.size)).trans ((hbel.mono (Nat.le_trans hb1.size hb2.size)).setCell (by have := hb1.size; have := hb2.size; simp; omega) _)
        have HR := Lib.hid hrow2
        have HB := Lib.hid hb3
        have HF := Lib.hid hfin
        have HL := Lib.hid hlim
        clear hrow2 hb3 hfin hlim hrow hs hd
        go_wp2_with fail
        refine (text_walk w2.heap.size 0 (k + 1) (k + 1) _ _ (by omega) (by omega) HR.out.reads HL.out).mono ?_
        rintro e w' ⟨rfl, hbt⟩
        rw [HF.out]
        go_wp2
        go_ret
        exact ⟨rfl, HB.out.trans (hbt.mono HB.out.size)⟩
  · have hsw' : decide ((lx : Int) < (ly : Int)) = false := by simp; omega
    go_wp2_with (refine wpList_makeT _ _ 205 207 .u32 4 (lx + 1) _ rfl rfl Tryz.underlying205 u32info rfl rfl (by omega) (by omega) (by omega) ?_; intro w3 hr3 hb3 hz3)
    go_loopw [8, 9, 10, 28] (fun c _ _ i wr => ∃ k : Nat, i = .int .i64 k ∧ k ≤ lx ∧ c = .int .u32 (cry (ext fx lx) (ext fy ly) k) ∧ Row wr w2.heap.size 207 .u32 (lx + 1) (ext (sdg (ext fx lx) (ext fy ly)) k) ∧ Below w2.heap.size w2 wr) (fun _ _ _ i _ => lx - (intOf i).toNat)
    case atStart => exact ⟨0, rfl, by omega, rfl, hr3.congr (fun j _ => by rw [ext_out (by omega)]), hb3⟩
    case round =>
      obtain ⟨k, rfl, hk, rfl, hrow, hbel⟩ := hrel
      clear hr3 hb3 hz3
      have c0 := cry_le (ext_lt HX.out.2.1.1) (ext_lt HY.out.2.1.1) k
      have fk := ext_lt HX.out.2.1.1 k
      have gk := ext_lt HY.out.2.1.1 k
      have hs := Lib.hid (cry_succ (ext fx lx) (ext fy ly) k)
      have hd : Hid (sdg (ext fx lx) (ext fy ly) k = (ext fx lx k + ext fy ly k + cry (ext fx lx) (ext fy ly) k) % LB) := rfl
      rw [LB_eq] at fk gk
      have q0 : (0 : Int) ≤ (cry (ext fx lx) (ext fy ly) k : Int) := by omega
      have q1 : (cry (ext fx lx) (ext fy ly) k : Int) ≤ 1 := by omega
      by_cases hlt : k < lx
      · rcases HX.out.2.2 with h0 | ⟨b1, o1, rfl, r1⟩
        · omega
        have hcx := (r1.below hbel (by have := r1.lt (by omega); omega)) k hlt
        rw [← ext_in (f := fx) hlt] at hcx
        have hold := hrow.cell (j := k) (by omega)
        have hfr := hrow.frozen k
        rw [ext_out (Nat.le_refl k)] at hold
        have f0 : (0 : Int) ≤ (ext fx lx k : Int) := by omega
        have f1 : (ext fx lx k : Int) ≤ 4294967295 := by omega
        have g0 : (0 : Int) ≤ (ext fy ly k : Int) := by omega
        have g1 : (ext fy ly k : Int) ≤ 4294967295 := by omega
        generalize hC : cry (ext fx lx) (ext fy ly) k = C at *
        generalize hF : ext fx lx k = F at *
        have HC := Lib.hid hC
        have HF := Lib.hid hF
        clear hC hF
        by_cases hlt2 : k < ly
        · rcases HY.out.2.2 with h0 | ⟨b2, o2, rfl, r2⟩
          · omega
          have hcy := (r2.below hbel (by have := r2.lt (by omega); omega)) k hlt2
          rw [← ext_in (f := fy) hlt2] at hcy
          generalize hG : ext fy ly k = G at *
          have HG := Lib.hid hG
          clear hG
          go_wp2_with (go_at_call 175; refine (add32_any _ _ _ _ f0 f1 g0 g1 q0 q1).mono ?_; rintro e w' ⟨rfl, rfl⟩)
          go_roundw
          case rel => exact add_rel hd.out hs.out hrow hbel hlt
          case measure => simp [intOf]; omega
        · have hG0 : ext fy ly k = 0 := ext_out (by omega)
          have hnn : decide ((k : Int) < (ly : Int)) = false := by simp; omega
          rw [hG0] at hd hs g0 g1
          have HG := Lib.hid hG0
          clear hG0
          go_wp2_with (go_at_call 175; refine (add32_any _ _ _ _ f0 f1 (by omega) (by omega) q0 q1).mono ?_; rintro e w' ⟨rfl, rfl⟩)
          go_roundw
          case rel => exact add_rel (G' := 0) hd.out hs.out hrow hbel hlt
          case measure => simp [intOf]; omega
      · obtain rfl : k = lx := by omega
        have hold := hrow.cell (j := k) (by omega)
        have hfr := hrow.frozen k
        rw [ext_out (Nat.le_refl k)] at hold
        have hfin : lv (upd (ext (sdg (ext fx k) (ext fy ly)) k) k (cry (ext fx k) (ext fy ly) k)) (k + 1) = nv a + nv b := by
          rw [lv_succ, lv_upd_ge _ (Nat.le_refl k), upd_same, lv_ext (Nat.le_refl k), sdg_lv, lv_ext (Nat.le_refl k), lv_ext (by omega), HX.out.1, HY.out.1]
        have hlim : ∀ j, j < k + 1 → upd (ext (sdg (ext fx k) (ext fy ly)) k) k (cry (ext fx k) (ext fy ly) k) j < LB := by
          intro j hj
          by_cases e : j = k
          · subst e; rw [upd_same]; unfold LB; omega
          · rw [upd_other _ _ _ e]; exact ext_lt (fun j _ => Nat.mod_lt _ LB_pos) j
        have hrow2 := hrow.set k (cry (ext fx k) (ext fy ly) k)
        have hb3 : Below w.heap.size w (wr.setCell ⟨w2.heap.size, k, none⟩ (.int .u32 (cry (ext fx k) (ext fy ly) k))) :=
          (hb1.trans (hb2.mono hb1.size)).trans ((hbel.mono (Nat.le_trans hb1.size hb2.size)).setCell (by have := hb1.size; have := hb2.size; simp; omega) _)
        have HR := Lib.hid hrow2
        have HB := Lib.hid hb3
        have HF := Lib.hid hfin
        have HL := Lib.hid hlim
        clear hrow2 hb3 hfin hlim hrow hs hd
        go_wp2_with fail
        refine (text_walk w2.heap.size 0 (k + 1) (k + 1) _ _ (by omega) (by omega) HR.out.reads HL.out).mono ?_
        rintro e w' ⟨rfl, hbt⟩
        rw [HF.out]
        go_wp2
        go_ret
        exact ⟨rfl, HB.out.trans (hbt.mono HB.out.size)⟩

end Go.Proofs.Ins
