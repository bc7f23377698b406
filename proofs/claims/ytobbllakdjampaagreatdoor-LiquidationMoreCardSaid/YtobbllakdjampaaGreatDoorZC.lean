/- LiquidationMore: for every input the law returns true. Conditions: those of the given row alone. -/
import Derived.Test.YtobbllakdjampaaGreatDoorL9
import Derived.Test.YtobbllakdjampaaGreatDoorTie
import Derived.ProofKit
import Derived.OpenShut
import Derived.Deep.Slices
import Derived.Deep.Strs
import Derived.Lib.SmallJoins
import Derived.Carry
import Derived.LaidMore
import Derived.Stop.Joined
import Derived.Test.YtobbllakdjampaaGreatDoorCards
import Derived.Lay
import Derived.SevenTiedAt
import Derived.Test.YtobbllakdjampaaGreatDoorZB

set_option linter.unusedSimpArgs false
set_option linter.unusedVariables false
namespace Go.Proofs.Ins
open Go Go.RowKit Go.ChangeShapes Go.WideShapes Go.Deep

section
variable {H : Type} {enc : TypeId × Value → H} {P : Program} {W : World} {sp : Nat → Bool} {held : Bool}

/-- Nothing in the datum is greater than the form's reach. -/
def Light (P : Program) (t : TypeId) (d : DataW H) : Prop := ∀ n ∈ d.weights P t, n ≤ 140737488351232
theorem light_arg {ts : List TypeId} {ds : List (DataW H)} (h : (DataW.weightsEach P ts ds).all (· ≤ reachBytes) = true) {j : Nat} {t : TypeId} {d : DataW H} (ht : ts[j]? = some t) (hd : ds[j]? = some d) : Light P t d := fun n hn => by
  have := List.all_eq_true.1 h _ (DataW.weights_mem_each ht hd n hn)
  exact of_decide_eq_true this
theorem weightsAll_mem' {e : TypeId} : ∀ {l : List (DataW H)} {d : DataW H}, d ∈ l → ∀ n ∈ d.weights P e, n ∈ DataW.weightsAll P e l
  | d' :: r, d, hd, n, hn => by
    simp only [DataW.weightsAll, List.mem_append]
    rcases List.mem_cons.1 hd with rfl | h
    · exact Or.inl hn
    · exact Or.inr (weightsAll_mem' h n hn)
theorem light_elem {t e : TypeId} {l sp : List (DataW H)} {d : DataW H} (ht : P.underlying t = some (.slice e)) (h : Light P t (.slice l sp)) (hd : d ∈ l) : Light P e d := fun n hn => h n (by
  simp only [DataW.weights, ht, List.mem_cons, List.mem_append]
  exact .inr (.inl (weightsAll_mem' hd n hn)))
theorem light_len {t e : TypeId} {l sp : List (DataW H)} (ht : P.underlying t = some (.slice e)) (h : Light P t (.slice l sp)) (he : 0 < P.bytesOf e) : l.length ≤ 140737488351232 := by
  have := h ((l.length + sp.length) * P.bytesOf e) (by simp [DataW.weights, ht])
  have h2 := Nat.le_mul_of_pos_right (l.length + sp.length) he
  omega

/-- A slice of elements of k cells each, opened. -/
theorem open_rows {t e : TypeId} {fuel k : Nat} {cs : List Value} {x : DataW H × List MemPlace} (ht : P.underlying t = some (.slice e)) (hk : P.cellsOf e = k) (hk0 : 0 < k) (he : 0 < P.bytesOf e) (h : DataW.trod enc P W 0 sp held fuel t cs = some x) (hL : Light P t x.1) :
    ∃ (a : Option Addr) (len cap : Nat) (C : Nat → List Value), cs = [.slice a len cap] ∧ len ≤ 140737488351232 ∧ SArg W a len k C ∧ ∀ i, i < len → (C i).length = k ∧ ∃ n y, DataW.trod enc P W 0 sp held n e (C i) = some y ∧ Light P e y.1 := by
  rcases open_slice ht h with ⟨rfl, -⟩ | ⟨a, len, cap, m, n, D, Pl, rfl, -, hl, hm, hmm, rfl, hx⟩
  · exact ⟨none, 0, 0, fun _ => [], rfl, by omega, .inl rfl, fun i hi => by omega⟩
  · have hlm : len ≤ m := by rw [hmm]; split <;> omega
    obtain ⟨C, hC⟩ := choose_lt (α := List Value) (p := fun i c => W.cells? 0 (a.add (i * P.cellsOf e)) (P.cellsOf e) = some c ∧ DataW.trod enc P W 0 sp held n e c = some (D i, Pl i)) (fun i hi => hx i hi)
    have hlen := light_len ht hL he
    rw [List.length_map, List.length_range] at hlen
    refine ⟨some a, len, cap, C, rfl, hlen, ?_, fun i hi => ⟨?_, n, _, (hC i (by omega)).2, light_elem ht hL (List.mem_map.2 ⟨i, by simpa using hi, rfl⟩)⟩⟩
    · rcases Nat.eq_zero_or_pos len with h0 | h0
      · exact .inl h0
      · obtain ⟨b, off, spot⟩ := a
        obtain ⟨_, hlen, hget⟩ := World.cells?_some (hC 0 (by omega)).1
        have h00 := hget 0 (by omega)
        rw [List.getElem?_eq_getElem (by omega)] at h00
        have hspot : spot = none := by simpa [Addr.add] using World.cell?_spot h00
        subst hspot
        have hadd : ∀ i j, ((⟨b, off, none⟩ : Addr).add (i * k)).add j = ⟨b, off + i * k + j, none⟩ := fun i j => by
          unfold Addr.add
          by_cases h1 : i * k = 0 <;> by_cases h2 : j = 0 <;> simp [h1, h2]
        refine .inr ⟨b, off, rfl, ?_, fun i j hi hj => ?_⟩
        · have := block_lt_of_cell h00
          simpa [Addr.add] using this
        · obtain ⟨_, _, hg⟩ := World.cells?_some (hC i (by omega)).1
          have := hg j (by omega)
          rw [hk, hadd] at this
          exact this
    · obtain ⟨_, hlen, _⟩ := World.cells?_some (hC i (by omega)).1
      rw [hlen, hk]
end

section
variable {H : Type} {enc : TypeId × Value → H} {W : World} {sp : Nat → Bool} {held : Bool}

theorem light_each {P : Program} {t : TypeId} {fs : Array Field} {parts : List (DataW H)} (ht : P.underlying t = some (.struct fs)) (h : Light P t (.agg parts)) {j : Nat} {f : Field} {d : DataW H} (hf : fs[j]? = some f) (hd : parts[j]? = some d) : Light P f.type d := fun n hn => h n (by
  simp only [DataW.weights, ht]
  exact DataW.weights_mem_each (j := j) (by simp [hf]) hd n hn)
theorem str_size {P : Program} {t : TypeId} {s : ByteArray} (h : Light P t (.lit (.string s.data.toList) : DataW H)) : s.size ≤ 140737488351232 := by
  have := h s.data.toList.length (by simp [DataW.weights])
  rw [Array.length_toList] at this; exact this

/-- A number, opened. -/
theorem rat_cells {fuel : Nat} {cs : List Value} {x : DataW H × List MemPlace} (h : DataW.trod enc Tryz.prog W 0 sp held fuel 30 cs = some x) (hL : Light Tryz.prog 30 x.1) : ∃ r : R3, cs = r.c ∧ r.fits 140737488351232 := by
  obtain ⟨y0, y1, y2, n, rfl, hl, h0, h1, h2⟩ := trod_struct3 Tryz.underlying30 h
  have hc : Tryz.prog.cellsOf 30 = 3 := by kernel_rfl
  have hc0 : Tryz.prog.cellsOf 4 = 1 := by kernel_rfl
  have hc1 : Tryz.prog.cellsOf 9 = 1 := by kernel_rfl
  have L1 := light_each Tryz.underlying30 hL (j := 1) rfl rfl
  have L2 := light_each Tryz.underlying30 hL (j := 2) rfl rfl
  simp only [hc0, hc1] at h0 h1 h2
  rw [hc] at hl
  match cs, hl with
  | [c0, c1, c2], _ =>
    obtain ⟨b, e0, rfl⟩ := DataW.trod_bool Tryz.underlying4 h0
    obtain ⟨s, e1, rfl, -⟩ := DataW.trod_string Tryz.underlying9 h1
    obtain ⟨d, e2, rfl, -⟩ := DataW.trod_string Tryz.underlying9 h2
    simp at e0 e1 e2
    subst e0 e1 e2
    exact ⟨⟨b, s, d⟩, rfl, str_size L1, str_size L2⟩

/-- A voter, opened. -/
theorem voter_cells {fuel : Nat} {cs : List Value} {x : DataW H × List MemPlace} (h : DataW.trod enc Tryz.prog W 0 sp held fuel 53 cs = some x) (hL : Light Tryz.prog 53 x.1) :
    ∃ v : V8, cs = v.c ∧ v.a.fits 140737488351232 ∧ v.k.fits 140737488351232 := by
  obtain ⟨y0, y1, y2, y3, n, rfl, hl, h0, h1, h2, h3⟩ := Go.Joins.trod_struct4 Tryz.underlying53 h
  have hc : Tryz.prog.cellsOf 53 = 8 := by kernel_rfl
  have hc0 : Tryz.prog.cellsOf 4 = 1 := by kernel_rfl
  have hc1 : Tryz.prog.cellsOf 3 = 1 := by kernel_rfl
  have hc2 : Tryz.prog.cellsOf 30 = 3 := by kernel_rfl
  have L1 := light_each Tryz.underlying53 hL (j := 1) rfl rfl
  have L2 := light_each Tryz.underlying53 hL (j := 2) rfl rfl
  simp only [hc0, hc1, hc2] at h0 h1 h2 h3
  rw [hc] at hl
  match cs, hl with
  | [c0, c1, c2, c3, c4, c5, c6, c7], _ =>
    obtain ⟨i, e0, rfl, -⟩ := DataW.trod_int Tryz.underlying3 h0
    obtain ⟨r1, e1, f1⟩ := rat_cells h1 L1
    obtain ⟨r2, e2, f2⟩ := rat_cells h2 L2
    obtain ⟨b, e3, rfl⟩ := DataW.trod_bool Tryz.underlying4 h3
    simp [R3.c] at e0 e1 e2 e3
    obtain ⟨rfl, rfl, rfl⟩ := e1
    obtain ⟨rfl, rfl, rfl⟩ := e2
    subst e0 e3
    exact ⟨⟨i, r1, r2, b⟩, rfl, f1, f2⟩

/-- A letter of two bytes, opened. -/
theorem u16_cells {fuel : Nat} {cs : List Value} {x : DataW H × List MemPlace} (h : DataW.trod enc Tryz.prog W 0 sp held fuel 47 cs = some x) : ∃ m : Nat, cs = [.int .u16 (m : Int)] ∧ m ≤ 65535 := by
  obtain ⟨n, rfl, -, hw⟩ := DataW.trod_int Tryz.underlying47 h
  have hw2 : 0 ≤ n ∧ n ≤ 65535 := by simpa [Lit.wf, IntKind.min, IntKind.max, IntKind.signed, IntKind.bits] using hw
  exact ⟨n.toNat, by rw [Int.toNat_of_nonneg hw2.1], by omega⟩

set_option maxRecDepth 100000 in
/-- Four letters, opened. -/
theorem arr4_cells {fuel : Nat} {cs : List Value} {x : DataW H × List MemPlace} (h : DataW.trod enc Tryz.prog W 0 sp held fuel 68 cs = some x) :
    ∃ m : Nat → Nat, cs = [.int .u16 (m 0 : Int), .int .u16 (m 1 : Int), .int .u16 (m 2 : Int), .int .u16 (m 3 : Int)] ∧ ∀ j, m j ≤ 65535 := by
  obtain ⟨xs, n, rfl, rfl, hl, hx, hf⟩ := DataW.trod_array Tryz.underlying68 h
  have hc : Tryz.prog.cellsOf 68 = 4 := by kernel_rfl
  have hc0 : Tryz.prog.cellsOf 47 = 1 := by kernel_rfl
  simp only [hc0, Nat.mul_one] at hf
  rw [hc] at hl
  match cs, hl, xs, hx with
  | [c0, c1, c2, c3], _, [x0, x1, x2, x3], _ =>
    obtain ⟨m0, e0, l0⟩ := u16_cells (show DataW.trod enc Tryz.prog W 0 sp held n 47 [c0] = some x0 from hf 0 (by omega))
    obtain ⟨m1, e1, l1⟩ := u16_cells (show DataW.trod enc Tryz.prog W 0 sp held n 47 [c1] = some x1 from hf 1 (by omega))
    obtain ⟨m2, e2, l2⟩ := u16_cells (show DataW.trod enc Tryz.prog W 0 sp held n 47 [c2] = some x2 from hf 2 (by omega))
    obtain ⟨m3, e3, l3⟩ := u16_cells (show DataW.trod enc Tryz.prog W 0 sp held n 47 [c3] = some x3 from hf 3 (by omega))
    simp at e0 e1 e2 e3
    subst e0 e1 e2 e3
    exact ⟨fun j => if j = 0 then m0 else if j = 1 then m1 else if j = 2 then m2 else m3, rfl, fun j => by dsimp only; split; exact l0; split; exact l1; split; exact l2; exact l3⟩
end
end Go.Proofs.Ins

set_option linter.unusedSimpArgs false
set_option linter.unusedVariables false
namespace Go.Proofs.Ins
open Go Go.RowKit Go.ChangeShapes Go.WideShapes Go.Deep

theorem SArg.congr {w : World} {a : Option Addr} {n sz : Nat} {F G : Nat → List Value} (h : SArg w a n sz F) (hg : ∀ i, i < n → F i = G i) : SArg w a n sz G := by
  rcases h with h | ⟨b, off, ha, hl, hr⟩
  · exact .inl h
  · exact .inr ⟨b, off, ha, hl, fun i j hi hj => by rw [← hg i hi]; exact hr i j hi hj⟩

section
variable {H : Type} {enc : TypeId × Value → H} {W : World} {sp : Nat → Bool} {held : Bool}

theorem arg_rats {fuel : Nat} {cs : List Value} {x : DataW H × List MemPlace} (h : DataW.trod enc Tryz.prog W 0 sp held fuel 25 cs = some x) (hL : Light Tryz.prog 25 x.1) :
    ∃ a n cap, ∃ Q : Nat → R3, cs = [.slice a n cap] ∧ n ≤ 140737488351232 ∧ (SArg W a n 3 fun i => (Q i).c) ∧ ∀ i, i < n → (Q i).fits 140737488351232 := by
  obtain ⟨a, n, cap, C, rfl, hn, hs, hx⟩ := open_rows (k := 3) Tryz.underlying25 (by kernel_rfl) (by omega) (of_decide_eq_true (by kernel_rfl)) h hL
  obtain ⟨Q, hQ⟩ := choose_lt (α := R3) (p := fun i r => C i = r.c ∧ r.fits 140737488351232) (fun i hi => by
    obtain ⟨_, n, y, h1, h2⟩ := hx i hi
    exact rat_cells h1 h2)
  exact ⟨a, n, cap, Q, rfl, hn, hs.congr fun i hi => (hQ i hi).1, fun i hi => (hQ i hi).2⟩

theorem arg_u16s {fuel : Nat} {cs : List Value} {x : DataW H × List MemPlace} (h : DataW.trod enc Tryz.prog W 0 sp held fuel 23 cs = some x) (hL : Light Tryz.prog 23 x.1) :
    ∃ a n cap, ∃ M : Nat → Nat, cs = [.slice a n cap] ∧ n ≤ 140737488351232 ∧ SArg W a n 1 (c16 M) ∧ ∀ i, i < n → M i ≤ 65535 := by
  obtain ⟨a, n, cap, C, rfl, hn, hs, hx⟩ := open_rows (k := 1) Tryz.underlying23 (by kernel_rfl) (by omega) (of_decide_eq_true (by kernel_rfl)) h hL
  obtain ⟨M, hM⟩ := choose_lt (α := Nat) (p := fun i m => C i = [.int .u16 (m : Int)] ∧ m ≤ 65535) (fun i hi => by
    obtain ⟨_, n, y, h1, h2⟩ := hx i hi
    exact u16_cells h1)
  exact ⟨a, n, cap, M, rfl, hn, hs.congr fun i hi => (hM i hi).1, fun i hi => (hM i hi).2⟩

theorem arg_voters {fuel : Nat} {cs : List Value} {x : DataW H × List MemPlace} (h : DataW.trod enc Tryz.prog W 0 sp held fuel 24 cs = some x) (hL : Light Tryz.prog 24 x.1) :
    ∃ a n cap, ∃ V : Nat → V8, cs = [.slice a n cap] ∧ n ≤ 140737488351232 ∧ (SArg W a n 8 fun i => (V i).c) ∧ ∀ i, i < n → (V i).a.fits 140737488351232 ∧ (V i).k.fits 140737488351232 := by
  obtain ⟨a, n, cap, C, rfl, hn, hs, hx⟩ := open_rows (k := 8) Tryz.underlying24 (by kernel_rfl) (by omega) (of_decide_eq_true (by kernel_rfl)) h hL
  obtain ⟨V, hV⟩ := choose_lt (α := V8) (p := fun i v => C i = v.c ∧ v.a.fits 140737488351232 ∧ v.k.fits 140737488351232) (fun i hi => by
    obtain ⟨_, n, y, h1, h2⟩ := hx i hi
    exact voter_cells h1 h2)
  exact ⟨a, n, cap, V, rfl, hn, hs.congr fun i hi => (hV i hi).1, fun i hi => (hV i hi).2⟩

theorem arg_arrs {fuel : Nat} {cs : List Value} {x : DataW H × List MemPlace} (h : DataW.trod enc Tryz.prog W 0 sp held fuel 22 cs = some x) (hL : Light Tryz.prog 22 x.1) :
    ∃ a n cap, ∃ L : Nat → Nat → Nat, cs = [.slice a n cap] ∧ n ≤ 140737488351232 ∧ SArg W a n 4 (u16c L) ∧ ∀ i j, i < n → L i j ≤ 65535 := by
  obtain ⟨a, n, cap, C, rfl, hn, hs, hx⟩ := open_rows (k := 4) Tryz.underlying22 (by kernel_rfl) (by omega) (of_decide_eq_true (by kernel_rfl)) h hL
  obtain ⟨L, hLL⟩ := choose_lt (α := Nat → Nat) (p := fun i m => C i = [.int .u16 (m 0 : Int), .int .u16 (m 1 : Int), .int .u16 (m 2 : Int), .int .u16 (m 3 : Int)] ∧ ∀ j, m j ≤ 65535) (fun i hi => by
    obtain ⟨_, n, y, h1, h2⟩ := hx i hi
    exact arr4_cells h1)
  exact ⟨a, n, cap, L, rfl, hn, hs.congr fun i hi => (hLL i hi).1, fun i j hi => (hLL i hi).2 j⟩

/-- The arguments read as they did. -/
theorem trodAll_below {P : Program} (hl : laidOutB P = true) {W W' : World} (hb : Below W.heap.size W W') : ∀ {ts : List TypeId} {vs : List Value} {ds : List (DataW H)} {p : List MemPlace},
    (ts.all fun t => P.readableRec t && decide (t < P.types.size)) = true → DataW.TrodAll enc P W 0 (fun _ => true) true ts vs ds p → (∀ x ∈ p, x.block < W.heap.size) → DataW.TrodAll enc P W' 0 (fun b => decide (b < W.heap.size)) true ts vs ds p
  | [], _, _, _, _, h, _ => by
    obtain ⟨rfl, rfl, rfl⟩ := trodAll_nil h
    exact h
  | t :: ts, _, _, _, ht, h, hp => by
    obtain ⟨v, vs1, d, ds1, a, b, rfl, rfl, rfl, h1, h2⟩ := trodAll_cons h
    simp only [List.all_cons, Bool.and_eq_true, decide_eq_true_eq] at ht
    exact ⟨a, b, Below.trod hl ht.1.1 ht.1.2 h1 hb (fun x hx => hp x (List.mem_append_left _ hx)), trodAll_below hl hb ht.2 h2 (fun x hx => hp x (List.mem_append_right _ hx)), rfl⟩
end
theorem laidOut' : laidOutB Tryz.prog = true := by kernel_rfl
end Go.Proofs.Ins

set_option linter.unusedSimpArgs false
set_option linter.unusedVariables false
namespace Go.Proofs.Ins
open Go Go.RowKit Go.ChangeShapes Go.WideShapes Go.ChangeAt Go.Proofs.YtobbllakdjampaaGreatDoor

theorem own' : ownKnob Tryz.prog.godebug = none := by kernel_rfl
def laidL : List (String × DataW Unit) := [("unicode/utf8.acceptRanges", Rows.laid_unicode_utf8_acceptRanges), ("unicode/utf8.first", Rows.laid_unicode_utf8_first)]

section
variable {H : Type} {enc : TypeId × Value → H} {W : World}

/-- A slice argument, opened. -/
theorem val_slice {P : Program} {r : Reach} {b : Nat} {t e : TypeId} {v : Value} {d : DataW H} {p : List MemPlace} {sp : Nat → Bool} {held : Bool} (ht : P.underlying t = some (.slice e)) (hv : Value.okWide P W r b t v) (h : DataW.Trod enc P W 0 sp held t v d p) :
    ∃ a n c f, v = .slice a n c ∧ DataW.trod enc P W 0 sp held f t [.slice a n c] = some (d, p) := by
  obtain ⟨a, n, c, rfl⟩ := okWide_slice ht hv
  obtain ⟨f, h⟩ := h
  exact ⟨a, n, c, f, rfl, h⟩

/-- From the walk to the row's post: the result is true, the arguments read as they did. -/
theorem law_post {f : FuncId} {fn : Func} {s : ChangeSpec} {args : Array Value} {ds : List (DataW H)} {before : List MemPlace}
    (hs : s.vars = []) (hr : fn.resultTypes = #[4]) (hfn : s.fn H (ds ++ []) = { results := [.lit (.bool true)], args := ds })
    (ht : (fn.params.toList.all fun t => Tryz.prog.readableRec t && decide (t < Tryz.prog.types.size)) = true)
    (hW : DataW.Whole enc Tryz.prog fn.params.toList s.vars false W args.toList ds [] before)
    (hw : Calls Tryz.prog f args W fun e w' => e = .returned (.bool true) ∧ Below W.heap.size W w') :
    Calls Tryz.prog f args W fun e W' => ∃ v, e = .returned v ∧ s.post enc Tryz.prog fn false true false false W args v W' := by
  refine hw.mono fun e W' ⟨he, hB⟩ => ?_
  subst he
  have hW' := hW
  obtain ⟨p, q, hA, hV, rfl, hfz, hnd⟩ := hW
  refine ⟨_, rfl, ds, [], p ++ q, [], p, [], hW', ?_, ?_, ?_, hB.frame _, fun h => by cases h⟩
  · rw [hfn, hr]
    exact trodAll_mk1 (shut_bool Tryz.underlying4 _)
  · rw [hfn]
    exact trodAll_below laidOut' hB ht hA (fun x hx => hW'.lt x (List.mem_append_left _ hx))
  · rw [hfn, hs]
    rfl
end

section
variable {H : Type} {enc : TypeId × Value → H} {W : World}
set_option maxRecDepth 100000 in
theorem v_arrs {r : Reach} {b : Nat} {v : Value} {d : DataW H} {p : List MemPlace} {sp : Nat → Bool} {held : Bool} (hv : Value.okWide Tryz.prog W r b 22 v) (h : DataW.Trod enc Tryz.prog W 0 sp held 22 v d p) (hL : Light Tryz.prog 22 d) :
    ∃ a n c, ∃ L : Nat → Nat → Nat, v = .slice a n c ∧ n ≤ 140737488351232 ∧ SArg W a n 4 (u16c L) ∧ ∀ i j, i < n → L i j ≤ 65535 := by
  obtain ⟨a, n, c, f, rfl, h9⟩ := val_slice Tryz.underlying22 hv h
  obtain ⟨a', n', c', L, e, h1, h2, h3⟩ := arg_arrs h9 hL
  simp only [List.cons.injEq, Value.slice.injEq, and_true] at e
  obtain ⟨rfl, rfl, rfl⟩ := e
  exact ⟨_, _, _, L, rfl, h1, h2, h3⟩
set_option maxRecDepth 100000 in
theorem v_u16s {r : Reach} {b : Nat} {v : Value} {d : DataW H} {p : List MemPlace} {sp : Nat → Bool} {held : Bool} (hv : Value.okWide Tryz.prog W r b 23 v) (h : DataW.Trod enc Tryz.prog W 0 sp held 23 v d p) (hL : Light Tryz.prog 23 d) :
    ∃ a n c, ∃ M : Nat → Nat, v = .slice a n c ∧ n ≤ 140737488351232 ∧ SArg W a n 1 (c16 M) ∧ ∀ i, i < n → M i ≤ 65535 := by
  obtain ⟨a, n, c, f, rfl, h9⟩ := val_slice Tryz.underlying23 hv h
  obtain ⟨a', n', c', L, e, h1, h2, h3⟩ := arg_u16s h9 hL
  simp only [List.cons.injEq, Value.slice.injEq, and_true] at e
  obtain ⟨rfl, rfl, rfl⟩ := e
  exact ⟨_, _, _, L, rfl, h1, h2, h3⟩
set_option maxRecDepth 100000 in
theorem v_voters {r : Reach} {b : Nat} {v : Value} {d : DataW H} {p : List MemPlace} {sp : Nat → Bool} {held : Bool} (hv : Value.okWide Tryz.prog W r b 24 v) (h : DataW.Trod enc Tryz.prog W 0 sp held 24 v d p) (hL : Light Tryz.prog 24 d) :
    ∃ a n c, ∃ V : Nat → V8, v = .slice a n c ∧ n ≤ 140737488351232 ∧ (SArg W a n 8 fun i => (V i).c) ∧ ∀ i, i < n → (V i).a.fits 140737488351232 ∧ (V i).k.fits 140737488351232 := by
  obtain ⟨a, n, c, f, rfl, h9⟩ := val_slice Tryz.underlying24 hv h
  obtain ⟨a', n', c', L, e, h1, h2, h3⟩ := arg_voters h9 hL
  simp only [List.cons.injEq, Value.slice.injEq, and_true] at e
  obtain ⟨rfl, rfl, rfl⟩ := e
  exact ⟨_, _, _, L, rfl, h1, h2, h3⟩
set_option maxRecDepth 100000 in
theorem v_rats {r : Reach} {b : Nat} {v : Value} {d : DataW H} {p : List MemPlace} {sp : Nat → Bool} {held : Bool} (hv : Value.okWide Tryz.prog W r b 25 v) (h : DataW.Trod enc Tryz.prog W 0 sp held 25 v d p) (hL : Light Tryz.prog 25 d) :
    ∃ a n c, ∃ Q : Nat → R3, v = .slice a n c ∧ n ≤ 140737488351232 ∧ (SArg W a n 3 fun i => (Q i).c) ∧ ∀ i, i < n → (Q i).fits 140737488351232 := by
  obtain ⟨a, n, c, f, rfl, h9⟩ := val_slice Tryz.underlying25 hv h
  obtain ⟨a', n', c', L, e, h1, h2, h3⟩ := arg_rats h9 hL
  simp only [List.cons.injEq, Value.slice.injEq, and_true] at e
  obtain ⟨rfl, rfl, rfl⟩ := e
  exact ⟨_, _, _, L, rfl, h1, h2, h3⟩
set_option maxRecDepth 100000 in
theorem v_u8 {r : Reach} {b : Nat} {v : Value} {d : DataW H} {p : List MemPlace} {sp : Nat → Bool} {held : Bool} (hv : Value.okWide Tryz.prog W r b 5 v) (h : DataW.Trod enc Tryz.prog W 0 sp held 5 v d p) :
    ∃ n : Nat, v = .int .u8 (n : Int) ∧ n ≤ 255 := by
  obtain ⟨n, rfl, -, -, hw⟩ := open_int Tryz.underlying5 hv h
  have hw2 : 0 ≤ n ∧ n ≤ 255 := by simpa [Lit.wf, IntKind.min, IntKind.max, IntKind.signed, IntKind.bits] using hw
  exact ⟨n.toNat, by rw [Int.toNat_of_nonneg hw2.1], by omega⟩
set_option maxRecDepth 100000 in
theorem v_u16 {r : Reach} {b : Nat} {v : Value} {d : DataW H} {p : List MemPlace} {sp : Nat → Bool} {held : Bool} (hv : Value.okWide Tryz.prog W r b 47 v) (h : DataW.Trod enc Tryz.prog W 0 sp held 47 v d p) :
    ∃ n : Nat, v = .int .u16 (n : Int) ∧ n ≤ 65535 := by
  obtain ⟨n, rfl, -, -, hw⟩ := open_int Tryz.underlying47 hv h
  have hw2 : 0 ≤ n ∧ n ≤ 65535 := by simpa [Lit.wf, IntKind.min, IntKind.max, IntKind.signed, IntKind.bits] using hw
  exact ⟨n.toNat, by rw [Int.toNat_of_nonneg hw2.1], by omega⟩
set_option maxRecDepth 100000 in
theorem v_rat {r : Reach} {b : Nat} {v : Value} {d : DataW H} {p : List MemPlace} {sp : Nat → Bool} {held : Bool} (hv : Value.okWide Tryz.prog W r b 30 v) (h : DataW.Trod enc Tryz.prog W 0 sp held 30 v d p) (hL : Light Tryz.prog 30 d) :
    ∃ r : R3, v = .agg #[.bool r.n, .string r.s, .string r.d] ∧ r.fits 140737488351232 := by
  obtain ⟨cs, rfl, -⟩ := okWide_struct Tryz.underlying30 hv
  obtain ⟨f, h9⟩ := h
  obtain ⟨r, e, hf⟩ := rat_cells h9 hL
  have e2 : cs.toList = r.c := e
  refine ⟨r, ?_, hf⟩
  rw [← Array.toArray_toList (xs := cs), e2]; rfl
end
end Go.Proofs.Ins

set_option linter.unusedSimpArgs false
set_option linter.unusedVariables false
namespace Go.Proofs.Ins
open Go Go.RowKit Go.ChangeShapes Go.WideShapes Go.ChangeAt Go.Proofs.YtobbllakdjampaaGreatDoor

set_option maxRecDepth 100000 in
set_option maxHeartbeats 1600000 in
theorem more_lifted (os : Os) (started : os.Started) (H : Type) (enc : TypeId × Value → H) :
    ReturnsInHanded {} Tryz.checked os 6 .any (fun w args => (Rows.liquidationMoreSpec.pre enc Tryz.prog Tryz.f6 [] false w args ∧ laidMetH Tryz.prog laidL w) ∧ sizedMet enc Tryz.prog Tryz.f6 (OpenSpec.ofChange Rows.liquidationMoreSpec) false w args)
      (Rows.liquidationMoreSpec.post enc Tryz.prog Tryz.f6 false true false false) := by
  refine returnsInHanded_of_change_and (C := Tryz.checked) (X := fun w _ => laidMetH Tryz.prog laidL w) (fun _ _ _ hh h => h.of_heap hh) own' started (by kernel_rfl) Tryz.func6
    (ChangeSpec.witness_shaped (enc := enc) (C := Tryz.checked) (os := os) (X := fun w _ => laidMetH Tryz.prog laidL w) false (World.laidAll Tryz.prog os laidL) #[.slice none 0 0, .slice none 0 0, .int .u8 0, .int .u8 0] 8 (World.laidAll_os _ _ _)
      (World.shaped_of_ZipB (by kernel_rfl) (by kernel_rfl)) (by kernel_rfl) (by kernel_rfl) (by kernel_rfl)
      (by rw [MakeChecks.laidMetH_plain _ _ _ (by kernel_rfl)]; exact laidMet_laidAll _ (by kernel_rfl) (by kernel_rfl))) ?_
  intro W base args ds gs before hval0 hW hc hsz hL _
  have hval : ∀ (j : Nat) t v, Tryz.f6.params[j]? = some t → args[j]? = some v → Value.okWide Tryz.prog W .any base t v := hval0
  have hW' := hW
  obtain ⟨p, q, hA0, hV, rfl, _, _⟩ := hW
  have hA : DataW.TrodAll enc Tryz.prog W 0 (fun _ => true) true Tryz.f6.params.toList args.toList ds p := hA0
  have hsz1 : (DataW.weightsEach Tryz.prog (Tryz.f6.params.toList ++ Rows.liquidationMoreSpec.plain.varTypes Tryz.prog) (ds ++ gs)).all (· ≤ reachBytes) = true := hsz
  obtain ⟨rfl, rfl⟩ := trodVars_none hV
  rw [Tryz.params6] at hsz1 hval hA
  clear hA0 hval0 hsz hc hL hV
  obtain ⟨v1, vs1, d1, ds1, p1, q1, e1, rfl, rfl, h1, hA⟩ := trodAll_cons hA
  obtain ⟨v2, vs2, d2, ds2, p2, q2, rfl, rfl, rfl, h2, hA⟩ := trodAll_cons hA
  obtain ⟨v3, vs3, d3, ds3, p3, q3, rfl, rfl, rfl, h3, hA⟩ := trodAll_cons hA
  obtain ⟨v4, vs4, d4, ds4, p4, q4, rfl, rfl, rfl, h4, hA⟩ := trodAll_cons hA
  obtain ⟨rfl, rfl, rfl⟩ := trodAll_nil hA
  obtain rfl : args = #[v1, v2, v3, v4] := by rw [← Array.toArray_toList (xs := args), e1]
  clear hA e1
  obtain ⟨a1, n1, c1, D1, rfl, l1, s1, b1⟩ := v_arrs (hval 0 _ _ rfl rfl) h1 (light_arg hsz1 (j := 0) rfl rfl)
  obtain ⟨a2, n2, c2, D2, rfl, l2, s2, b2⟩ := v_u16s (hval 1 _ _ rfl rfl) h2 (light_arg hsz1 (j := 1) rfl rfl)
  obtain ⟨D3, rfl, b3⟩ := v_u8 (hval 2 _ _ rfl rfl) h3
  obtain ⟨D4, rfl, b4⟩ := v_u8 (hval 3 _ _ rfl rfl) h4
  exact law_post rfl rfl rfl (by kernel_rfl) hW' (law_more a1 n1 c1 a2 n2 c2 D3 D4 D1 D2 W s1 s2 b1 b2 b3 b4 l1 l2)

theorem more_holds : Rows.LiquidationMoreSaid :=
  OpenClaim.holds_of_wide 6 Tryz.f6 rfl rfl rfl rfl rfl rfl rfl ⟨rfl, rfl, rfl, rfl, rfl⟩ rfl rfl rfl rfl rfl (by kernel_rfl) Tryz.func6 (by kernel_rfl)
    (of_decide_eq_true (by kernel_rfl)) (by unfold Func.isWrapper; first | (rw [if_pos (by decide +kernel)]; kernel_rfl) | (rw [if_neg (by decide +kernel)]; exact ⟨rfl, rfl⟩))
    (fun os started H enc _ => more_lifted os started H enc)
end Go.Proofs.Ins
namespace Go.Proofs.YtobbllakdjampaaGreatDoor
open Go Go.Proofs.Ins
theorem more_card : Rows.LiquidationMoreCardSaid :=
  Claim7.holds_tied_plain_at .later [] [.data, .pinned] true (true, "282358144a85be71355ec4042cce875e25f6984de2200131c13afdb76eac9842") false
    more_holds (fun _ h => by cases h) (by kernel_rfl) (fun _ h => by cases h) liquidationMore_row_tie rfl ⟨rfl, rfl⟩ (by kernel_rfl) rfl
    (fun f fn hf hfn => by
      obtain rfl : f = 6 := Option.some.inj ((show Tryz.prog.funcNamed "insolvency/insolvencylaw31.LiquidationMore" = some 6 by kernel_rfl).symm.trans hf) |>.symm
      obtain rfl : fn = Tryz.f6 := (Option.some.inj (Tryz.func6.symm.trans hfn)).symm
      exact ⟨by kernel_rfl, fun j t ht => by
        rw [Tryz.params6] at ht
        have hm : t ∈ [22, 23, 5, 5] := by simpa using Array.mem_of_getElem? ht
        have hall : ([22, 23, 5, 5].all fun u => !Tryz.prog.wantsStandIn u) = true := by kernel_rfl
        exact (show Tryz.prog.wantsStandIn t = false by simpa using List.all_eq_true.1 hall t hm)⟩)
    (by kernel_rfl)
#print axioms more_card
end Go.Proofs.YtobbllakdjampaaGreatDoor
