/- Groups of estates as data, and how they lie in memory. -/
import Derived.Test.YtmephnllicleiaaGreatDoorZ2
import Derived.Test.YtmephnllicleiaaGreatDoorZ3
import Derived.Test.YtmephnllicleiaaGreatDoorTie
import Derived.ProofKit
import Derived.OpenShut
import Derived.Deep.Slices
import Derived.Deep.Strs
import Derived.Lib.SmallJoins
import Derived.Carry
import Derived.LaidMore
import Derived.Stop.Joined
import Derived.Test.YtmephnllicleiaaGreatDoorCards
import Derived.Lay
import Derived.SevenTiedAt

set_option linter.unusedSimpArgs false
set_option linter.unusedVariables false
namespace Go.Proofs.Ins
open Go.RowKit

/-- A number as it comes: three fields, valid or not. -/
structure R3 where
  n : Bool
  s : ByteArray
  d : ByteArray
instance : Inhabited R3 := ⟨⟨false, ⟨#[]⟩, ⟨#[]⟩⟩⟩
def R3.c (r : R3) : List Value := [.bool r.n, .string r.s, .string r.d]
def R3.q (r : R3) : Rat := rq r.n r.s r.d
def R3.small (r : R3) : Prop := r.s.size ≤ 24 ∧ r.d.size ≤ 24
instance (r : R3) : Decidable r.small := by unfold R3.small; infer_instance
def R3.fits (r : R3) (k : Nat) : Prop := r.s.size ≤ k ∧ r.d.size ≤ k
def ofQ (q : Rat) : R3 := ⟨rn q, rs q, rd q⟩
theorem ofQ_q (q : Rat) : (ofQ q).q = q := rq_of q
theorem ofQ_fits {q : Rat} {k : Nat} (h : Sm k q) : (ofQ q).fits k := ⟨h.rs, h.rd⟩
theorem R3.c_length (r : R3) : r.c.length = 3 := rfl

/-- A voter as it comes. -/
structure V8 where
  p : Int
  a : R3
  k : R3
  x : Bool
instance : Inhabited V8 := ⟨⟨0, default, default, false⟩⟩
def V8.c (v : V8) : List Value := [.int .i64 v.p, .bool v.a.n, .string v.a.s, .string v.a.d, .bool v.k.n, .string v.k.s, .string v.k.d, .bool v.x]
theorem V8.c_length (v : V8) : v.c.length = 8 := rfl

/-- The three cells of element i. -/
theorem SReads.r3 {w : World} {b off n : Nat} {Q : Nat → R3} (h : SReads w b off 3 n fun i => (Q i).c) {i : Nat} (hi : i < n) :
    w.cell? ⟨b, off + i * 3, none⟩ = some (.bool (Q i).n) ∧ w.cell? ⟨b, off + i * 3 + 1, none⟩ = some (.string (Q i).s) ∧ w.cell? ⟨b, off + i * 3 + 2, none⟩ = some (.string (Q i).d) :=
  ⟨h i 0 hi (by omega), h i 1 hi (by omega), h i 2 hi (by omega)⟩

/-- The eight cells of element i. -/
theorem SReads.v8 {w : World} {b off n : Nat} {V : Nat → V8} (h : SReads w b off 8 n fun i => (V i).c) {i : Nat} (hi : i < n) :
    w.cell? ⟨b, off + i * 8, none⟩ = some (.int .i64 (V i).p) ∧ w.cell? ⟨b, off + i * 8 + 1, none⟩ = some (.bool (V i).a.n) ∧ w.cell? ⟨b, off + i * 8 + 2, none⟩ = some (.string (V i).a.s) ∧ w.cell? ⟨b, off + i * 8 + 3, none⟩ = some (.string (V i).a.d) ∧
    w.cell? ⟨b, off + i * 8 + 4, none⟩ = some (.bool (V i).k.n) ∧ w.cell? ⟨b, off + i * 8 + 5, none⟩ = some (.string (V i).k.s) ∧ w.cell? ⟨b, off + i * 8 + 6, none⟩ = some (.string (V i).k.d) ∧ w.cell? ⟨b, off + i * 8 + 7, none⟩ = some (.bool (V i).x) :=
  ⟨h i 0 hi (by omega), h i 1 hi (by omega), h i 2 hi (by omega), h i 3 hi (by omega), h i 4 hi (by omega), h i 5 hi (by omega), h i 6 hi (by omega), h i 7 hi (by omega)⟩

/-- For all below n, as a truth value. -/
def allB (p : Nat → Bool) (n : Nat) : Bool := (List.range n).all p
theorem allB_true {p : Nat → Bool} {n : Nat} (h : ∀ i, i < n → p i = true) : allB p n = true := by
  unfold allB; rw [List.all_eq_true]; intro x hx; exact h x (by simpa using hx)
theorem allB_false {p : Nat → Bool} {n i : Nat} (hi : i < n) (h : p i = false) : allB p n = false := by
  unfold allB; rw [List.all_eq_false]; exact ⟨i, by simpa using hi, by simp [h]⟩
theorem allB_get {p : Nat → Bool} {n : Nat} (h : allB p n = true) : ∀ i, i < n → p i = true := by
  unfold allB at h; rw [List.all_eq_true] at h; intro i hi; exact h i (by simpa using hi)
end Go.Proofs.Ins

set_option linter.unusedSimpArgs false
set_option linter.unusedVariables false
namespace Go.Proofs.Ins
open Go Go.RowKit Go.ChangeShapes Go.WideShapes Go.Deep

section
variable {H : Type} {enc : TypeId × Value → H} {P : Program} {W : World} {sp : Nat → Bool} {held : Bool}

/-- Nothing in the datum is greater than the form's reach. -/
def Light (P : Program) (t : TypeId) (d : DataW H) : Prop := ∀ n ∈ d.weights P t, n ≤ 140737488351232
theorem light_arg {ts : List TypeId} {ds : List (DataW H)} (h : (DataW.weightsEach P ts ds).all (· ≤ reachBytes) = true) {j : Nat} {t : TypeId} {d : DataW H} (ht : ts[j]? = some t) (hd : ds[j]? = some d) : Light P t d := fun n hn => by
  have := List.all_eq_true.1 h _ (DataW.weights_mem_each ht hd n hn)
  exact of_decide_eq_true this
theorem weightsAll_mem' {e : TypeId} : ∀ {l : List (DataW H)} {d : DataW H}, d ∈ l → ∀ n ∈ d.weights P e, n ∈ DataW.weightsAll P e l
  | d' :: r, d, hd, n, hn => by
    simp only [DataW.weightsAll, List.mem_append]
    rcases List.mem_cons.1 hd with rfl | h
    · exact Or.inl hn
    · exact Or.inr (weightsAll_mem' h n hn)
theorem light_elem {t e : TypeId} {l sp : List (DataW H)} {d : DataW H} (ht : P.underlying t = some (.slice e)) (h : Light P t (.slice l sp)) (hd : d ∈ l) : Light P e d := fun n hn => h n (by
  simp only [DataW.weights, ht, List.mem_cons, List.mem_append]
  exact .inr (.inl (weightsAll_mem' hd n hn)))
theorem light_len {t e : TypeId} {l sp : List (DataW H)} (ht : P.underlying t = some (.slice e)) (h : Light P t (.slice l sp)) (he : 0 < P.bytesOf e) : l.length ≤ 140737488351232 := by
  have := h ((l.length + sp.length) * P.bytesOf e) (by simp [DataW.weights, ht])
  have h2 := Nat.le_mul_of_pos_right (l.length + sp.length) he
  omega

/-- A slice of elements of k cells each, opened. -/
theorem open_rows {t e : TypeId} {fuel k : Nat} {cs : List Value} {x : DataW H × List MemPlace} (ht : P.underlying t = some (.slice e)) (hk : P.cellsOf e = k) (hk0 : 0 < k) (he : 0 < P.bytesOf e) (h : DataW.trod enc P W 0 sp held fuel t cs = some x) (hL : Light P t x.1) :
    ∃ (a : Option Addr) (len cap : Nat) (C : Nat → List Value), cs = [.slice a len cap] ∧ len ≤ 140737488351232 ∧ SArg W a len k C ∧ ∀ i, i < len → (C i).length = k ∧ ∃ n y, DataW.trod enc P W 0 sp held n e (C i) = some y ∧ Light P e y.1 := by
  rcases open_slice ht h with ⟨rfl, -⟩ | ⟨a, len, cap, m, n, D, Pl, rfl, -, hl, hm, hmm, rfl, hx⟩
  · exact ⟨none, 0, 0, fun _ => [], rfl, by omega, .inl rfl, fun i hi => by omega⟩
  · have hlm : len ≤ m := by rw [hmm]; split <;> omega
    obtain ⟨C, hC⟩ := choose_lt (α := List Value) (p := fun i c => W.cells? 0 (a.add (i * P.cellsOf e)) (P.cellsOf e) = some c ∧ DataW.trod enc P W 0 sp held n e c = some (D i, Pl i)) (fun i hi => hx i hi)
    have hlen := light_len ht hL he
    rw [List.length_map, List.length_range] at hlen
    refine ⟨some a, len, cap, C, rfl, hlen, ?_, fun i hi => ⟨?_, n, _, (hC i (by omega)).2, light_elem ht hL (List.mem_map.2 ⟨i, by simpa using hi, rfl⟩)⟩⟩
    · rcases Nat.eq_zero_or_pos len with h0 | h0
      · exact .inl h0
      · obtain ⟨b, off, spot⟩ := a
        obtain ⟨_, hlen, hget⟩ := World.cells?_some (hC 0 (by omega)).1
        have h00 := hget 0 (by omega)
        rw [List.getElem?_eq_getElem (by omega)] at h00
        have hspot : spot = none := by simpa [Addr.add] using World.cell?_spot h00
        subst hspot
        have hadd : ∀ i j, ((⟨b, off, none⟩ : Addr).add (i * k)).add j = ⟨b, off + i * k + j, none⟩ := fun i j => by
          unfold Addr.add
          by_cases h1 : i * k = 0 <;> by_cases h2 : j = 0 <;> simp [h1, h2]
        refine .inr ⟨b, off, rfl, ?_, fun i j hi hj => ?_⟩
        · have := block_lt_of_cell h00
          simpa [Addr.add] using this
        · obtain ⟨_, _, hg⟩ := World.cells?_some (hC i (by omega)).1
          have := hg j (by omega)
          rw [hk, hadd] at this
          exact this
    · obtain ⟨_, hlen, _⟩ := World.cells?_some (hC i (by omega)).1
      rw [hlen, hk]
end

section
variable {H : Type} {enc : TypeId × Value → H} {W : World} {sp : Nat → Bool} {held : Bool}

theorem light_each {P : Program} {t : TypeId} {fs : Array Field} {parts : List (DataW H)} (ht : P.underlying t = some (.struct fs)) (h : Light P t (.agg parts)) {j : Nat} {f : Field} {d : DataW H} (hf : fs[j]? = some f) (hd : parts[j]? = some d) : Light P f.type d := fun n hn => h n (by
  simp only [DataW.weights, ht]
  exact DataW.weights_mem_each (j := j) (by simp [hf]) hd n hn)
theorem str_size {P : Program} {t : TypeId} {s : ByteArray} (h : Light P t (.lit (.string s.data.toList) : DataW H)) : s.size ≤ 140737488351232 := by
  have := h s.data.toList.length (by simp [DataW.weights])
  rw [Array.length_toList] at this; exact this

/-- A number, opened. -/
theorem rat_cells {fuel : Nat} {cs : List Value} {x : DataW H × List MemPlace} (h : DataW.trod enc Tryz.prog W 0 sp held fuel 44 cs = some x) (hL : Light Tryz.prog 44 x.1) : ∃ r : R3, cs = r.c ∧ r.fits 140737488351232 := by
  obtain ⟨y0, y1, y2, n, rfl, hl, h0, h1, h2⟩ := trod_struct3 Tryz.underlying44 h
  have hc : Tryz.prog.cellsOf 44 = 3 := by kernel_rfl
  have hc0 : Tryz.prog.cellsOf 4 = 1 := by kernel_rfl
  have hc1 : Tryz.prog.cellsOf 9 = 1 := by kernel_rfl
  have L1 := light_each Tryz.underlying44 hL (j := 1) rfl rfl
  have L2 := light_each Tryz.underlying44 hL (j := 2) rfl rfl
  simp only [hc0, hc1] at h0 h1 h2
  rw [hc] at hl
  match cs, hl with
  | [c0, c1, c2], _ =>
    obtain ⟨b, e0, rfl⟩ := DataW.trod_bool Tryz.underlying4 h0
    obtain ⟨s, e1, rfl, -⟩ := DataW.trod_string Tryz.underlying9 h1
    obtain ⟨d, e2, rfl, -⟩ := DataW.trod_string Tryz.underlying9 h2
    simp at e0 e1 e2
    subst e0 e1 e2
    exact ⟨⟨b, s, d⟩, rfl, str_size L1, str_size L2⟩


end
end Go.Proofs.Ins

set_option linter.unusedSimpArgs false
set_option linter.unusedVariables false
namespace Go.Proofs.Ins
open Go Go.RowKit Go.ChangeShapes Go.WideShapes Go.Deep

theorem SArg.congr {w : World} {a : Option Addr} {n sz : Nat} {F G : Nat → List Value} (h : SArg w a n sz F) (hg : ∀ i, i < n → F i = G i) : SArg w a n sz G := by
  rcases h with h | ⟨b, off, ha, hl, hr⟩
  · exact .inl h
  · exact .inr ⟨b, off, ha, hl, fun i j hi hj => by rw [← hg i hi]; exact hr i j hi hj⟩

section
variable {H : Type} {enc : TypeId × Value → H} {W : World} {sp : Nat → Bool} {held : Bool}

theorem arg_rats {fuel : Nat} {cs : List Value} {x : DataW H × List MemPlace} (h : DataW.trod enc Tryz.prog W 0 sp held fuel 29 cs = some x) (hL : Light Tryz.prog 29 x.1) :
    ∃ a n cap, ∃ Q : Nat → R3, cs = [.slice a n cap] ∧ n ≤ 140737488351232 ∧ (SArg W a n 3 fun i => (Q i).c) ∧ ∀ i, i < n → (Q i).fits 140737488351232 := by
  obtain ⟨a, n, cap, C, rfl, hn, hs, hx⟩ := open_rows (k := 3) Tryz.underlying29 (by kernel_rfl) (by omega) (of_decide_eq_true (by kernel_rfl)) h hL
  obtain ⟨Q, hQ⟩ := choose_lt (α := R3) (p := fun i r => C i = r.c ∧ r.fits 140737488351232) (fun i hi => by
    obtain ⟨_, n, y, h1, h2⟩ := hx i hi
    exact rat_cells h1 h2)
  exact ⟨a, n, cap, Q, rfl, hn, hs.congr fun i hi => (hQ i hi).1, fun i hi => (hQ i hi).2⟩

/-- The arguments read as they did. -/
theorem trodAll_below {P : Program} (hl : laidOutB P = true) {W W' : World} (hb : Below W.heap.size W W') : ∀ {ts : List TypeId} {vs : List Value} {ds : List (DataW H)} {p : List MemPlace},
    (ts.all fun t => P.readableRec t && decide (t < P.types.size)) = true → DataW.TrodAll enc P W 0 (fun _ => true) true ts vs ds p → (∀ x ∈ p, x.block < W.heap.size) → DataW.TrodAll enc P W' 0 (fun b => decide (b < W.heap.size)) true ts vs ds p
  | [], _, _, _, _, h, _ => by
    obtain ⟨rfl, rfl, rfl⟩ := trodAll_nil h
    exact h
  | t :: ts, _, _, _, ht, h, hp => by
    obtain ⟨v, vs1, d, ds1, a, b, rfl, rfl, rfl, h1, h2⟩ := trodAll_cons h
    simp only [List.all_cons, Bool.and_eq_true, decide_eq_true_eq] at ht
    exact ⟨a, b, Below.trod hl ht.1.1 ht.1.2 h1 hb (fun x hx => hp x (List.mem_append_left _ hx)), trodAll_below hl hb ht.2 h2 (fun x hx => hp x (List.mem_append_right _ hx)), rfl⟩
end
theorem laidOut' : laidOutB Tryz.prog = true := by kernel_rfl
end Go.Proofs.Ins

set_option linter.unusedSimpArgs false
set_option linter.unusedVariables false
namespace Go.Proofs.Ins
open Go Go.RowKit Go.ChangeShapes Go.WideShapes Go.ChangeAt Go.Proofs.YtmephnllicleiaaGreatDoor

theorem own' : ownKnob Tryz.prog.godebug = none := by kernel_rfl
def laidL : List (String × DataW Unit) := [("unicode/utf8.acceptRanges", Rows.laid_unicode_utf8_acceptRanges), ("unicode/utf8.first", Rows.laid_unicode_utf8_first)]

section
variable {H : Type} {enc : TypeId × Value → H} {W : World}

/-- A slice argument, opened. -/
theorem val_slice {P : Program} {r : Reach} {b : Nat} {t e : TypeId} {v : Value} {d : DataW H} {p : List MemPlace} {sp : Nat → Bool} {held : Bool} (ht : P.underlying t = some (.slice e)) (hv : Value.okWide P W r b t v) (h : DataW.Trod enc P W 0 sp held t v d p) :
    ∃ a n c f, v = .slice a n c ∧ DataW.trod enc P W 0 sp held f t [.slice a n c] = some (d, p) := by
  obtain ⟨a, n, c, rfl⟩ := okWide_slice ht hv
  obtain ⟨f, h⟩ := h
  exact ⟨a, n, c, f, rfl, h⟩

/-- From the walk to the row's post: the result is true, the arguments read as they did. -/
theorem law_post {f : FuncId} {fn : Func} {s : ChangeSpec} {args : Array Value} {ds : List (DataW H)} {before : List MemPlace}
    (hs : s.vars = []) (hr : fn.resultTypes = #[4]) (hfn : s.fn H (ds ++ []) = { results := [.lit (.bool true)], args := ds })
    (ht : (fn.params.toList.all fun t => Tryz.prog.readableRec t && decide (t < Tryz.prog.types.size)) = true)
    (hW : DataW.Whole enc Tryz.prog fn.params.toList s.vars false W args.toList ds [] before)
    (hw : Calls Tryz.prog f args W fun e w' => e = .returned (.bool true) ∧ Below W.heap.size W w') :
    Calls Tryz.prog f args W fun e W' => ∃ v, e = .returned v ∧ s.post enc Tryz.prog fn false true false false W args v W' := by
  refine hw.mono fun e W' ⟨he, hB⟩ => ?_
  subst he
  have hW' := hW
  obtain ⟨p, q, hA, hV, rfl, hfz, hnd⟩ := hW
  refine ⟨_, rfl, ds, [], p ++ q, [], p, [], hW', ?_, ?_, ?_, hB.frame _, fun h => by cases h⟩
  · rw [hfn, hr]
    exact trodAll_mk1 (shut_bool Tryz.underlying4 _)
  · rw [hfn]
    exact trodAll_below laidOut' hB ht hA (fun x hx => hW'.lt x (List.mem_append_left _ hx))
  · rw [hfn, hs]
    rfl
end

section
variable {H : Type} {enc : TypeId × Value → H} {W : World}
set_option maxRecDepth 100000 in
theorem v_rats {r : Reach} {b : Nat} {v : Value} {d : DataW H} {p : List MemPlace} {sp : Nat → Bool} {held : Bool} (hv : Value.okWide Tryz.prog W r b 29 v) (h : DataW.Trod enc Tryz.prog W 0 sp held 29 v d p) (hL : Light Tryz.prog 29 d) :
    ∃ a n c, ∃ Q : Nat → R3, v = .slice a n c ∧ n ≤ 140737488351232 ∧ (SArg W a n 3 fun i => (Q i).c) ∧ ∀ i, i < n → (Q i).fits 140737488351232 := by
  obtain ⟨a, n, c, f, rfl, h9⟩ := val_slice Tryz.underlying29 hv h
  obtain ⟨a', n', c', L, e, h1, h2, h3⟩ := arg_rats h9 hL
  simp only [List.cons.injEq, Value.slice.injEq, and_true] at e
  obtain ⟨rfl, rfl, rfl⟩ := e
  exact ⟨_, _, _, L, rfl, h1, h2, h3⟩
set_option maxRecDepth 100000 in
theorem v_u8 {r : Reach} {b : Nat} {v : Value} {d : DataW H} {p : List MemPlace} {sp : Nat → Bool} {held : Bool} (hv : Value.okWide Tryz.prog W r b 5 v) (h : DataW.Trod enc Tryz.prog W 0 sp held 5 v d p) :
    ∃ n : Nat, v = .int .u8 (n : Int) ∧ n ≤ 255 := by
  obtain ⟨n, rfl, -, -, hw⟩ := open_int Tryz.underlying5 hv h
  have hw2 : 0 ≤ n ∧ n ≤ 255 := by simpa [Lit.wf, IntKind.min, IntKind.max, IntKind.signed, IntKind.bits] using hw
  exact ⟨n.toNat, by rw [Int.toNat_of_nonneg hw2.1], by omega⟩
set_option maxRecDepth 100000 in
theorem v_rat {r : Reach} {b : Nat} {v : Value} {d : DataW H} {p : List MemPlace} {sp : Nat → Bool} {held : Bool} (hv : Value.okWide Tryz.prog W r b 44 v) (h : DataW.Trod enc Tryz.prog W 0 sp held 44 v d p) (hL : Light Tryz.prog 44 d) :
    ∃ r : R3, v = .agg #[.bool r.n, .string r.s, .string r.d] ∧ r.fits 140737488351232 := by
  obtain ⟨cs, rfl, -⟩ := okWide_struct Tryz.underlying44 hv
  obtain ⟨f, h9⟩ := h
  obtain ⟨r, e, hf⟩ := rat_cells h9 hL
  have e2 : cs.toList = r.c := e
  refine ⟨r, ?_, hf⟩
  rw [← Array.toArray_toList (xs := cs), e2]; rfl
end
end Go.Proofs.Ins

set_option linter.unusedSimpArgs false
set_option linter.unusedVariables false
namespace Go.Proofs.Ins
open Go.RowKit

/-- Block b holds just n elements of sz cells, and may be written. -/
def Own (w : World) (b sz n : Nat) (F : Nat → List Value) : Prop :=
  ∃ c T, w.heap[b]? = some (.cells c T (0, 0)) ∧ c.size = n * sz ∧ ∀ i j, i < n → j < sz → c[i * sz + j]? = (F i)[j]?

theorem Own.lt {w : World} {b sz n : Nat} {F : Nat → List Value} (h : Own w b sz n F) : b < w.heap.size := by
  obtain ⟨c, T, hc, _⟩ := h
  exact (Array.getElem?_eq_some_iff.mp hc).1
theorem Own.frozen {w : World} {b sz n : Nat} {F : Nat → List Value} (h : Own w b sz n F) (j : Nat) : w.frozen? ⟨b, j, none⟩ = false := by
  obtain ⟨c, T, hc, _⟩ := h
  exact frozen_of_row w b j c T hc
theorem Own.block {w w' : World} {b sz n : Nat} {F : Nat → List Value} (h : Own w b sz n F) (hb : w'.heap[b]? = w.heap[b]?) : Own w' b sz n F := by
  obtain ⟨c, T, hc, r⟩ := h
  exact ⟨c, T, hb.trans hc, r⟩
theorem Own.below {w w' : World} {b sz n B : Nat} {F : Nat → List Value} (h : Own w b sz n F) (hb : Below B w w') (hB : b < B) : Own w' b sz n F := h.block (hb.block b hB)
theorem Own.on {w w' : World} {b sz n : Nat} {F : Nat → List Value} (h : Own w b sz n F) (hb : Below w.heap.size w w') : Own w' b sz n F := h.below hb h.lt
theorem Own.alloc {w : World} {b sz n : Nat} {F : Nat → List Value} (h : Own w b sz n F) (o : Obj) : Own (w.alloc o) b sz n F := h.block (Below.heap_alloc w o b h.lt)
theorem Own.setOther {w : World} {b sz n : Nat} {F : Nat → List Value} (h : Own w b sz n F) (a : Addr) (v : Value) (ha : b ≠ a.block) : Own (w.setCell a v) b sz n F := h.block (heap_setCell_other w a b v ha)
theorem Own.congr {w : World} {b sz n : Nat} {F G : Nat → List Value} (h : Own w b sz n F) (hg : ∀ i, i < n → F i = G i) : Own w b sz n G := by
  obtain ⟨c, T, hc, hn, hf⟩ := h
  exact ⟨c, T, hc, hn, fun i j hi hj => by rw [← hg i hi]; exact hf i j hi hj⟩
theorem Own.cell {w : World} {b sz n : Nat} {F : Nat → List Value} (h : Own w b sz n F) {i j : Nat} (hi : i < n) (hj : j < sz) : w.cell? ⟨b, i * sz + j, none⟩ = (F i)[j]? := by
  obtain ⟨c, T, hc, hn, hf⟩ := h
  rw [cell_of_row w b _ c T (0, 0) hc, hf i j hi hj]
theorem Own.reads {w : World} {b sz n : Nat} {F : Nat → List Value} (h : Own w b sz n F) : SReads w b 0 sz n F := fun i j hi hj => by
  rw [Nat.zero_add]; exact h.cell hi hj
theorem Own.arg {w : World} {b sz n : Nat} {F : Nat → List Value} (h : Own w b sz n F) : SArg w (some ⟨b, 0, none⟩) n sz F := .inr ⟨b, 0, rfl, h.lt, h.reads⟩

/-- The cells behind one store. -/
theorem cells_set {c : Array Value} {k : Nat} {v : Value} {m : Nat} : (c.setIfInBounds k v)[m]? = if k = m then (if m < c.size then some v else none) else c[m]? := by
  rw [Array.getElem?_setIfInBounds]
  by_cases e : k = m
  · subst e; rfl
  · rw [if_neg e, if_neg e]

/-- F with another element at i. -/
def updF (F : Nat → List Value) (i : Nat) (x : List Value) (k : Nat) : List Value := if k = i then x else F k
theorem updF_same (F : Nat → List Value) (i : Nat) (x : List Value) : updF F i x i = x := if_pos rfl
theorem updF_other {F : Nat → List Value} {i k : Nat} {x : List Value} (h : k ≠ i) : updF F i x k = F k := if_neg h

/-- One cell of one element is stored. -/
theorem Own.setAt {w : World} {b sz n : Nat} {F : Nat → List Value} (h : Own w b sz n F) (i j : Nat) (v : Value) (hi : i < n) (hj : j < sz) (hl : (F i).length = sz) :
    Own (w.setCell ⟨b, i * sz + j, none⟩ v) b sz n (updF F i ((F i).set j v)) := by
  obtain ⟨c, T, hc, hn, hf⟩ := h
  refine ⟨c.setIfInBounds (i * sz + j) v, T, ?_, by simpa using hn, fun i' j' hi' hj' => ?_⟩
  · rw [World.setCell]
    simp only [Array.getElem?_modify]
    simp [hc]
  · have hlt : i' * sz + j' < c.size := by
      rw [hn]
      have := Nat.mul_le_mul_right sz (show i' + 1 ≤ n by omega)
      rw [Nat.succ_mul] at this; omega
    rw [cells_set]
    by_cases e : i * sz + j = i' * sz + j'
    · have e1 : i = i' := by
        have h1 : (i * sz + j) / sz = i := by rw [Nat.mul_comm, Nat.mul_add_div (by omega), Nat.div_eq_of_lt hj, Nat.add_zero]
        have h2 : (i' * sz + j') / sz = i' := by rw [Nat.mul_comm, Nat.mul_add_div (by omega), Nat.div_eq_of_lt hj', Nat.add_zero]
        rw [← h1, ← h2, e]
      subst e1
      obtain rfl : j = j' := by omega
      rw [if_pos rfl, if_pos hlt, updF_same, List.getElem?_set]
      simp [hl, hj]
    · rw [if_neg e, hf i' j' hi' hj']
      by_cases e1 : i' = i
      · subst e1
        rw [updF_same, List.getElem?_set, if_neg (by omega)]
      · rw [updF_other e1]

/-- One element of one cell is stored. -/
theorem Own.set1 {w : World} {b n : Nat} {F : Nat → List Value} (h : Own w b 1 n F) (i : Nat) (v : Value) (hi : i < n) (hl : (F i).length = 1) : Own (w.setCell ⟨b, i, none⟩ v) b 1 n (updF F i [v]) := by
  have := h.setAt i 0 v hi (by omega) hl
  rw [Nat.mul_one, Nat.add_zero] at this
  match hF : F i, hl with
  | [x], _ => rw [hF] at this; exact this

/-- One element of three cells is stored. -/
theorem Own.set3 {w : World} {b n : Nat} {F : Nat → List Value} (h : Own w b 3 n F) (i : Nat) (x y z : Value) (hi : i < n) (hl : (F i).length = 3) :
    Own (((w.setCell ⟨b, i * 3, none⟩ x).setCell ⟨b, i * 3 + 1, none⟩ y).setCell ⟨b, i * 3 + 2, none⟩ z) b 3 n (updF F i [x, y, z]) := by
  have h1 := h.setAt i 0 x hi (by omega) hl
  have h2 := h1.setAt i 1 y hi (by omega) (by rw [updF_same]; simpa using hl)
  have h3 := h2.setAt i 2 z hi (by omega) (by rw [updF_same, updF_same]; simpa using hl)
  rw [Nat.add_zero] at h3
  refine h3.congr fun k hk => ?_
  match hF : F i, hl with
  | [p, q, r], _ =>
    by_cases e : k = i
    · subst e; simp [updF, hF]
    · simp [updF, e]

theorem madeCells_get (z : Array Value) (m k : Nat) (hk : k < m) (hz : 0 < z.size) : (madeCells z m)[k]? = z[k % z.size]? := by
  unfold madeCells
  have h2 : k % z.size < z.size := Nat.mod_lt _ hz
  simp [hk, h2, getElem!_pos]

theorem info_made {P : Program} {T : TypeId} {zs : List Value} {bytes : Nat} (h : (P.info? T).map (fun i => (i.zero.map (fun z => z.cells.toList), i.size, i.bytes)) = some (some zs, zs.length, bytes)) :
    ∃ i z, P.info? T = some i ∧ i.zero = some z ∧ z.cells.toList = zs ∧ i.size = zs.length ∧ i.bytes = bytes := by
  cases hi : P.info? T with
  | none => rw [hi] at h; cases h
  | some i =>
    rw [hi] at h
    simp only [Option.map_some, Option.some.injEq, Prod.mk.injEq] at h
    obtain ⟨h1, h2, h3⟩ := h
    cases hz : i.zero with
    | none => rw [hz] at h1; cases h1
    | some z =>
      rw [hz] at h1
      exact ⟨i, z, rfl, hz, Option.some.inj h1, h2, h3⟩

/-- 'make([]T, n)': n new elements, each of zero cells. -/
theorem wpList_makeS {P : Program} {w : World} {ops : Array Oper} {rest : List Oper} {o : Oper} {a : Act} {Q : Exit → Act → World → Prop}
    (l c : Operand) (t e : TypeId) (zs : List Value) (bytes n : Nat) (C : Int) (hg : o.guard = none) (hop : o.op = Op.makeSlice t l c)
    (h1 : P.underlying t = some (.slice e)) (h2 : (P.info? e).map (fun i => (i.zero.map (fun z => z.cells.toList), i.size, i.bytes)) = some (some zs, zs.length, bytes)) (hzs : 0 < zs.length)
    (hl : a.eval l = .int .i64 C) (hc : a.eval c = .int .i64 C) (hC : C = (n : Int)) (hn : n ≤ 4294967296) (hb : bytes ≤ 1024)
    (hK : ∀ w', Own w' w.heap.size zs.length n (fun _ => zs) → Below w.heap.size w w' → w'.heap.size = w.heap.size + 1 → wpList P ops Q rest (a.put o.dst (.slice (some ⟨w.heap.size, 0, none⟩) n n)) w') :
    wpList P ops Q (o :: rest) a w := by
  obtain ⟨i, z, hi, hz, hzc, hs, hbb⟩ := info_made h2
  refine wpList_plain hg fun K hK' => ?_
  have hrun := run_make (P := P) w t e i _ h1 hi hz .i64 .i64 n n (by omega) (by omega) (by
    rw [hbb]
    have h5 := Nat.mul_le_mul hb hn
    omega) (by omega)
  subst hC
  unfold Oper.wp
  simp [execOp, hop, hl, hc, hrun, Result.andThen]
  rw [hs]
  have hzz : z.cells.size = zs.length := by rw [← Array.length_toList, hzc]
  refine hK' _ _ (hK _ ⟨madeCells z.cells (n * zs.length), e, heap_alloc_new w _, size_madeCells _ _, fun i j hi hj => ?_⟩ ((Below.refl _ _).alloc (Nat.le_refl _) _) (by simp))
  have hlt : i * zs.length + j < n * zs.length := by
    have := Nat.mul_le_mul_right zs.length (show i + 1 ≤ n by omega)
    rw [Nat.succ_mul] at this; omega
  rw [madeCells_get _ _ _ hlt (by omega), hzz, Nat.mul_comm, Nat.mul_add_mod, Nat.mod_eq_of_lt hj, ← hzc, Array.getElem?_toList]
end Go.Proofs.Ins

set_option linter.unusedSimpArgs false
set_option linter.unusedVariables false
namespace Go.Proofs.Ins
open Go.RowKit

theorem duo (w : World) (vs us : Array Value) (T U : TypeId) : Blk ((w.alloc (.cells vs T)).alloc (.cells us U)) w.heap.size vs ∧ Blk ((w.alloc (.cells vs T)).alloc (.cells us U)) (w.heap.size + 1) us ∧ Below w.heap.size w ((w.alloc (.cells vs T)).alloc (.cells us U)) := by
  refine ⟨(Blk.new w vs T).alloc _, ?_, ((Below.refl _ _).alloc (Nat.le_refl _) _).alloc (by simp) _⟩
  have := Blk.new (w.alloc (.cells vs T)) us U
  rwa [World.size_alloc] at this
theorem SOwn.on {w w' : World} {base : Nat} {T : TypeId} {sz : Nat} {v : Value} {n : Nat} {F : Nat → List Value} (h : SOwn w base T sz v n F) (hb : Below w.heap.size w w') : SOwn w' base T sz v n F := h.below hb (Nat.le_refl _)
/-- The element at i. -/
def ix {α : Type} [Inhabited α] (l : List α) (i : Nat) : α := l.getD i default
theorem ix_lt {α : Type} [Inhabited α] {l : List α} {i : Nat} (h : i < l.length) : ix l i = l[i] := by unfold ix; simp [List.getD, h]
theorem ix_append {α : Type} [Inhabited α] (l : List α) (x : α) (i : Nat) : ix (l ++ [x]) i = if i < l.length then ix l i else if i = l.length then x else default := by
  unfold ix
  by_cases h : i < l.length
  · simp [List.getD, h, List.getElem?_append_left h]
  · rw [if_neg h]
    by_cases e : i = l.length
    · subst e; simp
    · rw [if_neg e]; simp [List.getD, List.getElem?_append_right (Nat.le_of_not_lt h)]
      rw [List.getElem?_eq_none]; rfl
      simp; omega
theorem ix_mem {α : Type} [Inhabited α] {l : List α} {i : Nat} (h : i < l.length) : ix l i ∈ l := by rw [ix_lt h]; exact List.getElem_mem h
theorem ix_take {α : Type} [Inhabited α] {l : List α} {i k : Nat} (h : i < k) : ix (l.take k) i = ix l i := by unfold ix; simp [List.getD, List.getElem?_take, h]
theorem take_succ_ix {α : Type} [Inhabited α] {l : List α} {k : Nat} (h : k < l.length) : l.take (k + 1) = l.take k ++ [ix l k] := by
  rw [ix_lt h, List.take_add_one]; simp [h]

structure C5 where
  h : Int
  r : Int
  a : R3
instance : Inhabited C5 := ⟨⟨0, 0, default⟩⟩
def C5.c (x : C5) : List Value := [.int .i64 x.h, .int .i64 x.r, .bool x.a.n, .string x.a.s, .string x.a.d]
structure Prt where
  k : Int
  b : Bool
  a : R3
instance : Inhabited Prt := ⟨⟨0, false, default⟩⟩
def Prt.c (x : Prt) : List Value := [.int .i64 x.k, .bool x.b, .bool x.a.n, .string x.a.s, .string x.a.d]
structure Lg where
  e : Int
  k : Int
instance : Inhabited Lg := ⟨⟨0, 0⟩⟩
def Lg.c (x : Lg) : List Value := [.int .i64 x.e, .int .i64 x.k]
abbrev Tier := List Prt
abbrev Agr := List Tier
structure Est where
  m : R3
  c : List C5
  a : List Agr
instance : Inhabited Est := ⟨⟨default, [], []⟩⟩
structure Dbt where
  w : R3
  l : List Lg
instance : Inhabited Dbt := ⟨⟨default, []⟩⟩
structure Grp where
  e : List Est
  d : List Dbt
instance : Inhabited Grp := ⟨⟨[], []⟩⟩

/-- A slice value of n elements of sz cells; its cells lie in a block that meets p. -/
def Sl (w : World) (p : Nat → Prop) (sz : Nat) (v : Value) (n : Nat) (G : Nat → List Value) : Prop :=
  ∃ a cap, v = .slice a n cap ∧ n ≤ cap ∧ cap ≤ 9223372036854775807 ∧ (n = 0 ∨ ∃ b off, a = some ⟨b, off, none⟩ ∧ p b ∧ b < w.heap.size ∧ SReads w b off sz n G) ∧ ∀ i, i < n → (G i).length = sz

theorem Sl.nil (w : World) (p : Nat → Prop) (sz : Nat) (G : Nat → List Value) : Sl w p sz (.slice none 0 0) 0 G := ⟨none, 0, rfl, Nat.le_refl _, by omega, .inl rfl, fun i hi => by omega⟩
theorem Sl.mono {w : World} {p q : Nat → Prop} {sz : Nat} {v : Value} {n : Nat} {G : Nat → List Value} (h : Sl w p sz v n G) (hp : ∀ b, p b → q b) : Sl w q sz v n G := by
  obtain ⟨a, cap, hv, h1, h2, h3, h4⟩ := h
  refine ⟨a, cap, hv, h1, h2, ?_, h4⟩
  rcases h3 with h3 | ⟨b, off, ha, hb, r⟩
  · exact .inl h3
  · exact .inr ⟨b, off, ha, hp b hb, r⟩
/-- What of it lies where it lay. -/
theorem Sl.keep {w w' : World} {p : Nat → Prop} {sz : Nat} {v : Value} {n : Nat} {G : Nat → List Value} (h : Sl w p sz v n G) (hb : ∀ b, p b → b < w.heap.size → w'.heap[b]? = w.heap[b]?) : Sl w' p sz v n G := by
  obtain ⟨a, cap, hv, h1, h2, h3, h4⟩ := h
  refine ⟨a, cap, hv, h1, h2, ?_, h4⟩
  rcases h3 with h3 | ⟨b, off, ha, hpb, hl, r⟩
  · exact .inl h3
  · have e := hb b hpb hl
    refine .inr ⟨b, off, ha, hpb, ?_, fun i j hi hj => ?_⟩
    · by_cases hlt : b < w'.heap.size
      · exact hlt
      · rw [Array.getElem?_eq_none (by omega), Array.getElem?_eq_getElem hl] at e; cases e
    · rw [World.cell?_of_block (w := w) (a := ⟨b, off + i * sz + j, none⟩) e]; exact r i j hi hj
theorem Sl.congr {w : World} {p : Nat → Prop} {sz : Nat} {v : Value} {n : Nat} {G G' : Nat → List Value} (h : Sl w p sz v n G) (hg : ∀ i, i < n → G i = G' i) : Sl w p sz v n G' := by
  obtain ⟨a, cap, hv, h1, h2, h3, h4⟩ := h
  refine ⟨a, cap, hv, h1, h2, ?_, fun i hi => by rw [← hg i hi]; exact h4 i hi⟩
  rcases h3 with h3 | ⟨b, off, ha, hpb, hl, r⟩
  · exact .inl h3
  · exact .inr ⟨b, off, ha, hpb, hl, fun i j hi hj => by rw [← hg i hi]; exact r i j hi hj⟩
theorem Sl.arg {w : World} {p : Nat → Prop} {sz : Nat} {v : Value} {n : Nat} {G : Nat → List Value} (h : Sl w p sz v n G) : ∃ a cap, v = .slice a n cap ∧ n ≤ cap ∧ cap ≤ 9223372036854775807 ∧ SArg w a n sz G := by
  obtain ⟨a, cap, hv, h1, h2, h3, h4⟩ := h
  refine ⟨a, cap, hv, h1, h2, ?_⟩
  rcases h3 with h3 | ⟨b, off, ha, hpb, hl, r⟩
  · exact .inl h3
  · exact .inr ⟨b, off, ha, hl, r⟩

/-- A slice value that reads as the list l, each element by Q. -/
def RL {α : Type} [Inhabited α] (w : World) (p : Nat → Prop) (sz : Nat) (Q : List Value → α → Prop) (v : Value) (l : List α) : Prop :=
  ∃ G, Sl w p sz v l.length G ∧ ∀ i, i < l.length → Q (G i) (ix l i)

theorem RL.nil {α : Type} [Inhabited α] (w : World) (p : Nat → Prop) (sz : Nat) (Q : List Value → α → Prop) : RL w p sz Q (.slice none 0 0) [] := ⟨fun _ => [], Sl.nil _ _ _ _, fun i hi => by cases hi⟩
theorem RL.imp {α : Type} [Inhabited α] {w w' : World} {p q : Nat → Prop} {sz : Nat} {Q Q' : List Value → α → Prop} {v : Value} {l : List α} (h : RL w p sz Q v l) (hp : ∀ b, p b → q b)
    (hb : ∀ b, p b → b < w.heap.size → w'.heap[b]? = w.heap[b]?) (hQ : ∀ c x, Q c x → Q' c x) : RL w' q sz Q' v l := by
  obtain ⟨G, h1, h2⟩ := h
  exact ⟨G, (h1.keep hb).mono hp, fun i hi => hQ _ _ (h2 i hi)⟩

/-- The plain kinds: an element is its own cells. -/
def QV {α : Type} (c : α → List Value) (cs : List Value) (x : α) : Prop := cs = c x
theorem RL.plain {α : Type} [Inhabited α] {w : World} {p : Nat → Prop} {sz : Nat} {c : α → List Value} {v : Value} {l : List α} (h : RL w p sz (QV c) v l) : Sl w p sz v l.length (fun i => c (ix l i)) := by
  obtain ⟨G, h1, h2⟩ := h
  exact h1.congr h2
theorem RL.of_plain {α : Type} [Inhabited α] {w : World} {p : Nat → Prop} {sz : Nat} {c : α → List Value} {v : Value} {l : List α} (h : Sl w p sz v l.length (fun i => c (ix l i))) : RL w p sz (QV c) v l := ⟨_, h, fun _ _ => rfl⟩

def RParts (w : World) (p : Nat → Prop) (v : Value) (l : List Prt) : Prop := RL w p 5 (QV Prt.c) v l
def RClaims (w : World) (p : Nat → Prop) (v : Value) (l : List C5) : Prop := RL w p 5 (QV C5.c) v l
def RLegs (w : World) (p : Nat → Prop) (v : Value) (l : List Lg) : Prop := RL w p 2 (QV Lg.c) v l
def QTier (w : World) (p : Nat → Prop) (cs : List Value) (t : Tier) : Prop := ∃ v, cs = [v] ∧ RParts w p v t
def RTiers (w : World) (p : Nat → Prop) (v : Value) (l : Agr) : Prop := RL w p 1 (QTier w p) v l
def QAgr (w : World) (p : Nat → Prop) (cs : List Value) (a : Agr) : Prop := ∃ v, cs = [v] ∧ RTiers w p v a
def RAgrs (w : World) (p : Nat → Prop) (v : Value) (l : List Agr) : Prop := RL w p 1 (QAgr w p) v l
def QEst (w : World) (p : Nat → Prop) (cs : List Value) (e : Est) : Prop := ∃ cv av, cs = [.bool e.m.n, .string e.m.s, .string e.m.d, cv, av] ∧ RClaims w p cv e.c ∧ RAgrs w p av e.a
def REsts (w : World) (p : Nat → Prop) (v : Value) (l : List Est) : Prop := RL w p 5 (QEst w p) v l
def QDbt (w : World) (p : Nat → Prop) (cs : List Value) (d : Dbt) : Prop := ∃ lv, cs = [.bool d.w.n, .string d.w.s, .string d.w.d, lv] ∧ RLegs w p lv d.l
def RDbts (w : World) (p : Nat → Prop) (v : Value) (l : List Dbt) : Prop := RL w p 4 (QDbt w p) v l
/-- A group value. -/
def RGrp (w : World) (p : Nat → Prop) (v : Value) (g : Grp) : Prop := ∃ ev dv, v = .agg #[ev, dv] ∧ REsts w p ev g.e ∧ RDbts w p dv g.d

/-- Between two worlds the blocks that meet p stay. -/
structure Keeps (p : Nat → Prop) (w w' : World) : Prop where
  block : ∀ b, p b → b < w.heap.size → w'.heap[b]? = w.heap[b]?
theorem Keeps.of_below {p : Nat → Prop} {w w' : World} (h : Below w.heap.size w w') : Keeps p w w' := ⟨fun b _ hb => h.block b hb⟩
theorem Keeps.of_below' {p : Nat → Prop} {w w' : World} {B : Nat} (h : Below B w w') (hp : ∀ b, p b → b < B) : Keeps p w w' := ⟨fun b hb _ => h.block b (hp b hb)⟩

section
variable {w w' : World} {p q : Nat → Prop} {v : Value} {cs : List Value}
theorem RParts.keep {l : List Prt} (h : RParts w p v l) (k : Keeps p w w') (hp : ∀ b, p b → q b) : RParts w' q v l := RL.imp h hp k.block fun _ _ h => h
theorem RClaims.keep {l : List C5} (h : RClaims w p v l) (k : Keeps p w w') (hp : ∀ b, p b → q b) : RClaims w' q v l := RL.imp h hp k.block fun _ _ h => h
theorem RLegs.keep {l : List Lg} (h : RLegs w p v l) (k : Keeps p w w') (hp : ∀ b, p b → q b) : RLegs w' q v l := RL.imp h hp k.block fun _ _ h => h
theorem QTier.keep {t : Tier} (h : QTier w p cs t) (k : Keeps p w w') (hp : ∀ b, p b → q b) : QTier w' q cs t := by obtain ⟨v, e, h⟩ := h; exact ⟨v, e, h.keep k hp⟩
theorem RTiers.keep {l : Agr} (h : RTiers w p v l) (k : Keeps p w w') (hp : ∀ b, p b → q b) : RTiers w' q v l := RL.imp h hp k.block fun _ _ h => h.keep k hp
theorem QAgr.keep {t : Agr} (h : QAgr w p cs t) (k : Keeps p w w') (hp : ∀ b, p b → q b) : QAgr w' q cs t := by obtain ⟨v, e, h⟩ := h; exact ⟨v, e, h.keep k hp⟩
theorem RAgrs.keep {l : List Agr} (h : RAgrs w p v l) (k : Keeps p w w') (hp : ∀ b, p b → q b) : RAgrs w' q v l := RL.imp h hp k.block fun _ _ h => h.keep k hp
theorem QEst.keep {t : Est} (h : QEst w p cs t) (k : Keeps p w w') (hp : ∀ b, p b → q b) : QEst w' q cs t := by obtain ⟨v, u, e, h1, h2⟩ := h; exact ⟨v, u, e, h1.keep k hp, h2.keep k hp⟩
theorem REsts.keep {l : List Est} (h : REsts w p v l) (k : Keeps p w w') (hp : ∀ b, p b → q b) : REsts w' q v l := RL.imp h hp k.block fun _ _ h => h.keep k hp
theorem QDbt.keep {t : Dbt} (h : QDbt w p cs t) (k : Keeps p w w') (hp : ∀ b, p b → q b) : QDbt w' q cs t := by obtain ⟨v, e, h1⟩ := h; exact ⟨v, e, h1.keep k hp⟩
theorem RDbts.keep {l : List Dbt} (h : RDbts w p v l) (k : Keeps p w w') (hp : ∀ b, p b → q b) : RDbts w' q v l := RL.imp h hp k.block fun _ _ h => h.keep k hp
theorem RGrp.keep {g : Grp} (h : RGrp w p v g) (k : Keeps p w w') (hp : ∀ b, p b → q b) : RGrp w' q v g := by obtain ⟨a, b, e, h1, h2⟩ := h; exact ⟨a, b, e, h1.keep k hp, h2.keep k hp⟩

theorem RParts.on {l : List Prt} (h : RParts w p v l) (k : Below w.heap.size w w') : RParts w' p v l := h.keep (.of_below k) fun _ h => h
theorem RClaims.on {l : List C5} (h : RClaims w p v l) (k : Below w.heap.size w w') : RClaims w' p v l := h.keep (.of_below k) fun _ h => h
theorem RLegs.on {l : List Lg} (h : RLegs w p v l) (k : Below w.heap.size w w') : RLegs w' p v l := h.keep (.of_below k) fun _ h => h
theorem RTiers.on {l : Agr} (h : RTiers w p v l) (k : Below w.heap.size w w') : RTiers w' p v l := h.keep (.of_below k) fun _ h => h
theorem RAgrs.on {l : List Agr} (h : RAgrs w p v l) (k : Below w.heap.size w w') : RAgrs w' p v l := h.keep (.of_below k) fun _ h => h
theorem REsts.on {l : List Est} (h : REsts w p v l) (k : Below w.heap.size w w') : REsts w' p v l := h.keep (.of_below k) fun _ h => h
theorem RDbts.on {l : List Dbt} (h : RDbts w p v l) (k : Below w.heap.size w w') : RDbts w' p v l := h.keep (.of_below k) fun _ h => h
theorem RGrp.on {g : Grp} (h : RGrp w p v g) (k : Below w.heap.size w w') : RGrp w' p v g := h.keep (.of_below k) fun _ h => h
end

/-- The cells of element i, in this world and in later ones. -/
theorem Sl.get {w : World} {p : Nat → Prop} {sz : Nat} {a : Option Addr} {n cap : Nat} {G : Nat → List Value} (h : Sl w p sz (.slice a n cap) n G) (hn : 0 < n) :
    ∃ b off, a = some ⟨b, off, none⟩ ∧ p b ∧ b < w.heap.size ∧ SReads w b off sz n G := by
  obtain ⟨a', cap', hv, h1, h2, h3, h4⟩ := h
  simp only [Value.slice.injEq] at hv
  obtain ⟨rfl, -, rfl⟩ := hv
  rcases h3 with h3 | h3
  · omega
  · exact h3
theorem Sl.form {w : World} {p : Nat → Prop} {sz : Nat} {v : Value} {n : Nat} {G : Nat → List Value} (h : Sl w p sz v n G) : ∃ a cap, v = .slice a n cap ∧ n ≤ cap ∧ cap ≤ 9223372036854775807 := by
  obtain ⟨a, cap, hv, h1, h2, _⟩ := h
  exact ⟨a, cap, hv, h1, h2⟩
/-- A slice of the call's own, as a slice that reads. -/
theorem SOwn.sl {w : World} {base : Nat} {T : TypeId} {sz : Nat} {v : Value} {n : Nat} {F : Nat → List Value} (h : SOwn w base T sz v n F) : Sl w (fun b => base ≤ b) sz v n F := by
  rcases h.form with ⟨rfl, rfl⟩ | ⟨g, cap, rfl, hb, hn, hm, hl, hr⟩
  · exact Sl.nil _ _ _ _
  · exact ⟨_, cap, rfl, hn, hm, .inr ⟨g, 0, rfl, hb, hl, hr⟩, h.2⟩
/-- The block of a slice value. -/
def blkOf : Value → Option Nat
  | .slice (some a) _ _ => some a.block
  | _ => none
/-- The same, and the block is the value's own. -/
theorem SOwn.sl' {w : World} {base : Nat} {T : TypeId} {sz : Nat} {v : Value} {n : Nat} {F : Nat → List Value} (h : SOwn w base T sz v n F) : Sl w (fun b => base ≤ b ∧ blkOf v = some b) sz v n F := by
  rcases h.form with ⟨rfl, rfl⟩ | ⟨g, cap, rfl, hb, hn, hm, hl, hr⟩
  · exact Sl.nil _ _ _ _
  · exact ⟨_, cap, rfl, hn, hm, .inr ⟨g, 0, rfl, ⟨hb, rfl⟩, hl, hr⟩, h.2⟩
theorem Own.sl {w : World} {b sz n : Nat} {F : Nat → List Value} (h : Own w b sz n F) (hn : n ≤ 9223372036854775807) (hl : ∀ i, i < n → (F i).length = sz) : Sl w (fun x => x = b) sz (.slice (some ⟨b, 0, none⟩) n n) n F :=
  ⟨_, n, rfl, Nat.le_refl _, hn, .inr ⟨b, 0, rfl, rfl, h.lt, h.reads⟩, hl⟩
end Go.Proofs.Ins
