/- A schedule over wpAnyL, where each operation that only reads is walked in its own class. -/
import Derived.Test.YtobbllakdjampaaGreatDoorZ1
import Derived.Test.YtobbllakdjampaaGreatDoorZ15
import Derived.Test.YtobbllakdjampaaGreatDoorZ14
import Derived.Test.YtobbllakdjampaaGreatDoorTie
import Derived.ProofKit
import Derived.OpenShut
import Derived.Deep.Slices
import Derived.Deep.Strs
import Derived.Lib.SmallJoins
import Derived.Carry
import Derived.LaidMore
import Derived.Stop.Joined
import Derived.Test.YtobbllakdjampaaGreatDoorCards
import Derived.Lay
import Derived.SevenTiedAt

set_option linter.unusedSimpArgs false
set_option linter.unusedVariables false
namespace Go.Proofs.Ins
open Go.RowKit

def awV : V8 := ⟨0, ofQ 100, ofQ ((1 : Int) / (2 : Int)), false⟩
def awA : R3 := ofQ 30
theorem sg_ge {q : Rat} (h : ¬ q < 0) : decide (sg q < 0) = false := by
  unfold sg
  by_cases h0 : q = 0
  · rw [if_pos h0]; rfl
  · rw [if_neg h0, if_neg h]; rfl
theorem aw_chk : chk 1 1 (fun _ => awV) (fun _ => awA) = 0 := by
  have h1 : negV awV = false := by
    unfold negV awV
    simp only [ofQ_q]
    rw [sg_ge (of_decide_eq_true (by kernel_rfl)), sg_ge (of_decide_eq_true (by kernel_rfl))]; rfl
  have h2 : negR awA = false := by
    unfold negR awA
    rw [ofQ_q, sg_ge (of_decide_eq_true (by kernel_rfl))]
  unfold chk
  rw [if_neg (by omega), if_neg (by omega), anyB_false (fun i _ => h1), anyB_false (fun i _ => h2)]; rfl
theorem aw_fl : flQ 1 1 (fun _ => awV) (fun _ => awA) = ((3 : Int) : Rat) / ((10 : Int) : Rat) := by
  unfold flQ
  rw [if_pos aw_chk]
  show minR (maxR 0 (leastQ awV awA)) 1 = _
  rw [leastQ_eq]
  unfold awV awA
  simp only [ofQ_q]
  exact of_decide_eq_true (by kernel_rfl)
theorem Blk.sarg {w : World} {b : Nat} {cs : List Value} {sz : Nat} (h : Blk w b cs.toArray) : SArg w (some ⟨b, 0, none⟩) 1 sz (fun _ => cs) :=
  .inr ⟨b, 0, rfl, h.lt, fun i j hi hj => by
    obtain rfl : i = 0 := by omega
    have e : 0 + 0 * sz + j = j := by omega
    rw [e, h.cell]; simp⟩
theorem aw_fits : awV.fits 1000 := ⟨ofQ_fits (k := 1000) ((show Sm 1 100 from ⟨of_decide_eq_true (by kernel_rfl), of_decide_eq_true (by kernel_rfl)⟩).mono (by omega)), ofQ_fits (k := 1000) ((show Sm 1 (((1 : Int) : Rat) / ((2 : Int) : Rat)) from ⟨of_decide_eq_true (by kernel_rfl), of_decide_eq_true (by kernel_rfl)⟩).mono (by omega))⟩
theorem awA_fits : awA.fits 1000 := ofQ_fits (k := 1000) ((show Sm 1 30 from ⟨of_decide_eq_true (by kernel_rfl), of_decide_eq_true (by kernel_rfl)⟩).mono (by omega))

set_option maxRecDepth 100000 in
set_option maxHeartbeats 1600000 in
theorem awake_any (w : World) : Calls Tryz.prog 9 #[] w fun e w' => e = .returned (.bool true) ∧ Below w.heap.size w w' := by
  have hW1 := fun w => whole_any 100 w (by omega) (by omega)
  have hR1 := fun w => ratio_any 1 2 w (by omega) (by omega) (by omega) (by omega)
  have hW2 := fun w => whole_any 30 w (by omega) (by omega)
  have hR2 := fun w => ratio_any 3 10 w (by omega) (by omega) (by omega) (by omega)
  have hF := fun b1 b2 w (h1 : Blk w b1 awV.c.toArray) (h2 : Blk w b2 awA.c.toArray) => floor_any (some ⟨b1, 0, none⟩) 1 1 (some ⟨b2, 0, none⟩) 1 1 (fun _ => awV) (fun _ => awA) w h1.sarg h2.sarg (fun _ _ => aw_fits) (fun _ _ => awA_fits) (by omega) (by omega)
  rw [aw_chk, aw_fl] at hF
  unfold rv awV awA ofQ V8.c R3.c at hF
  rw [show (((100 : Int) : Rat)) = 100 from rfl] at hW1
  rw [show (((30 : Int) : Rat)) = 30 from rfl] at hW2
  have HW1 := Lib.hid hW1
  have HR1 := Lib.hid hR1
  have HW2 := Lib.hid hW2
  have HR2 := Lib.hid hR2
  have HF := Lib.hid hF
  clear hW1 hR1 hW2 hR2 hF
  generalize ((3 : Int) : Rat) / ((10 : Int) : Rat) = T at *
  generalize ((1 : Int) : Rat) / ((2 : Int) : Rat) = U at *
  generalize (100 : Rat) = X at *
  generalize (30 : Rat) = Y at *
  generalize rn T = t1 at *
  generalize rs T = t2 at *
  generalize rd T = t3 at *
  generalize rn U = u1 at *
  generalize rs U = u2 at *
  generalize rd U = u3 at *
  generalize rn X = x1 at *
  generalize rs X = x2 at *
  generalize rd X = x3 at *
  generalize rn Y = y1 at *
  generalize rs Y = y2 at *
  generalize rd Y = y3 at *
  go_enter Tryz.func9, Tryz.ntmps9
  go_wp2_with fail
  refine (HW1.out _).mono ?_; rintro e w1 ⟨rfl, hb1⟩
  have HB1 := Lib.hid hb1
  clear hb1
  go_wp2_with fail
  refine (HR1.out _).mono ?_; rintro e w2 ⟨rfl, hb2⟩
  have HB2 := Lib.hid (chain HB1.out hb2 (Nat.le_refl _))
  have hz2 := HB2.out.size
  clear hb2
  go_wp2_with fail
  refine (HW2.out _).mono ?_; rintro e w3 ⟨rfl, hb3⟩
  obtain ⟨H1, HB⟩ := boxes1 hb3
  have hz3 := HB.size
  have hz4 := H1.lt
  have H1 := Lib.hid (H1.alloc (.cells #[.bool y1, .string y2, .string y3] 30))
  have H2 := Lib.hid (Blk.new w3 #[.bool y1, .string y2, .string y3] 30)
  have HB3 := Lib.hid ((chain HB2.out HB (Nat.le_refl _)).alloc (by omega) (.cells #[.bool y1, .string y2, .string y3] 30))
  clear hb3 HB
  go_wp2_with fail
  refine (HF.out _ _ _ H1.out H2.out).mono ?_; rintro e w5 ⟨rfl, hb5⟩
  have HB5 := Lib.hid (chain HB3.out hb5 (Nat.le_refl _))
  have hz5 := HB5.out.size
  clear hb5 H1 H2
  go_wp2
  refine wp_forget (fun W => Blk W w5.heap.size #[.bool t1, .string t2, .string t3] ∧ Below w.heap.size w W) ⟨Blk.new w5 _ _, HB5.out.alloc (by omega) _⟩ ?_
  rintro W ⟨H1, HBW⟩
  obtain ⟨k0, k1, k2⟩ := H1.later3
  refine wp_region_qb (by kernel_rfl) (by kernel_rfl) ?_
  repeat (first | go_big_quiet_skip | (refine wpQuiet_step (fun K hK => ?_); go_simp; (try simp (disch := omega) only [ar9]); (first | (refine hK _ ?_; clear hK K) | (apply Exists.intro; refine ⟨fun _ => ?_, hK _ ?_⟩; (first | with_reducible exact Calls.later (HR2.out _)); clear hK K))))
  refine wpQuiet_nil ?_
  intro W1 hb1
  have HB := Lib.hid (chain HBW hb1 (Nat.le_refl _))
  clear k0 k1 k2 H1 HBW hb1
  go_wp2
  go_ret
  exact ⟨rfl, HB.out⟩
end Go.Proofs.Ins

set_option linter.unusedSimpArgs false
set_option linter.unusedVariables false
namespace Go.Proofs.Ins
open Go.RowKit

theorem rsign_r3 (r : R3) (w : World) (h : r.fits 134217728) :
    Calls Tryz.prog 38 #[.agg #[.bool r.n, .string r.s, .string r.d]] w fun e w' => e = .returned (.int .i64 (sg r.q)) ∧ Below w.heap.size w w' := rsign_any r.n r.s r.d w h.1 h.2

end Go.Proofs.Ins

set_option linter.unusedSimpArgs false
set_option linter.unusedVariables false
namespace Go.Proofs.Ins
open Go.RowKit

end Go.Proofs.Ins

set_option linter.unusedSimpArgs false
set_option linter.unusedVariables false
namespace Go.Proofs.Ins
open Go.RowKit

theorem sm_int {i : Int} {k : Nat} (h : i.natAbs < 256 ^ k) (hk : 0 < k) : Sm k (i : Rat) := by
  refine ⟨?_, ?_⟩
  · show (i : Rat).num.natAbs < _
    rw [Rat.num_intCast]; exact h
  · rw [Rat.den_intCast]; exact Nat.one_lt_pow (by omega) (by omega)
theorem sm_frac {i j : Int} (hi : i.natAbs < 65536) (hj : j.natAbs < 65536) (h0 : j ≠ 0) : Sm 4 ((i : Rat) / (j : Rat)) :=
  Sm.div (k := 2) (l := 2) (sm_int (by omega) (by omega)) (sm_int (by omega) (by omega)) (by
    intro h; apply h0
    have : ((j : Rat)).num = (0 : Rat).num := by rw [h]
    rw [Rat.num_intCast] at this; exact this)
theorem amt_fits (x : Nat) : (ofQ (amt x)).fits 1000 := by
  refine ofQ_fits (Sm.mono (k := 4) ?_ (by omega))
  by_cases h : x % 5 = 0
  · rw [amt_0 h]; exact sm_frac (by omega) (by omega) (by omega)
  · by_cases h1 : x % 5 = 1
    · rw [amt_1 h1]; exact sm_int (by omega) (by omega)
    · rw [amt_2 h h1]; exact sm_int (by omega) (by omega)
end Go.Proofs.Ins

set_option linter.unusedSimpArgs false
set_option linter.unusedVariables false
namespace Go.Proofs.Ins
open Go Go.RowKit Go.ChangeShapes Go.WideShapes Go.Deep

section
variable {H : Type} {enc : TypeId × Value → H} {P : Program} {W : World} {sp : Nat → Bool} {held : Bool}

/-- Nothing in the datum is greater than the form's reach. -/
def Light (P : Program) (t : TypeId) (d : DataW H) : Prop := ∀ n ∈ d.weights P t, n ≤ 140737488351232
theorem light_arg {ts : List TypeId} {ds : List (DataW H)} (h : (DataW.weightsEach P ts ds).all (· ≤ reachBytes) = true) {j : Nat} {t : TypeId} {d : DataW H} (ht : ts[j]? = some t) (hd : ds[j]? = some d) : Light P t d := fun n hn => by
  have := List.all_eq_true.1 h _ (DataW.weights_mem_each ht hd n hn)
  exact of_decide_eq_true this
theorem weightsAll_mem' {e : TypeId} : ∀ {l : List (DataW H)} {d : DataW H}, d ∈ l → ∀ n ∈ d.weights P e, n ∈ DataW.weightsAll P e l
  | d' :: r, d, hd, n, hn => by
    simp only [DataW.weightsAll, List.mem_append]
    rcases List.mem_cons.1 hd with rfl | h
    · exact Or.inl hn
    · exact Or.inr (weightsAll_mem' h n hn)
theorem light_elem {t e : TypeId} {l sp : List (DataW H)} {d : DataW H} (ht : P.underlying t = some (.slice e)) (h : Light P t (.slice l sp)) (hd : d ∈ l) : Light P e d := fun n hn => h n (by
  simp only [DataW.weights, ht, List.mem_cons, List.mem_append]
  exact .inr (.inl (weightsAll_mem' hd n hn)))
theorem light_len {t e : TypeId} {l sp : List (DataW H)} (ht : P.underlying t = some (.slice e)) (h : Light P t (.slice l sp)) (he : 0 < P.bytesOf e) : l.length ≤ 140737488351232 := by
  have := h ((l.length + sp.length) * P.bytesOf e) (by simp [DataW.weights, ht])
  have h2 := Nat.le_mul_of_pos_right (l.length + sp.length) he
  omega

/-- A slice of elements of k cells each, opened. -/
theorem open_rows {t e : TypeId} {fuel k : Nat} {cs : List Value} {x : DataW H × List MemPlace} (ht : P.underlying t = some (.slice e)) (hk : P.cellsOf e = k) (hk0 : 0 < k) (he : 0 < P.bytesOf e) (h : DataW.trod enc P W 0 sp held fuel t cs = some x) (hL : Light P t x.1) :
    ∃ (a : Option Addr) (len cap : Nat) (C : Nat → List Value), cs = [.slice a len cap] ∧ len ≤ 140737488351232 ∧ SArg W a len k C ∧ ∀ i, i < len → (C i).length = k ∧ ∃ n y, DataW.trod enc P W 0 sp held n e (C i) = some y ∧ Light P e y.1 := by
  rcases open_slice ht h with ⟨rfl, -⟩ | ⟨a, len, cap, m, n, D, Pl, rfl, -, hl, hm, hmm, rfl, hx⟩
  · exact ⟨none, 0, 0, fun _ => [], rfl, by omega, .inl rfl, fun i hi => by omega⟩
  · have hlm : len ≤ m := by rw [hmm]; split <;> omega
    obtain ⟨C, hC⟩ := choose_lt (α := List Value) (p := fun i c => W.cells? 0 (a.add (i * P.cellsOf e)) (P.cellsOf e) = some c ∧ DataW.trod enc P W 0 sp held n e c = some (D i, Pl i)) (fun i hi => hx i hi)
    have hlen := light_len ht hL he
    rw [List.length_map, List.length_range] at hlen
    refine ⟨some a, len, cap, C, rfl, hlen, ?_, fun i hi => ⟨?_, n, _, (hC i (by omega)).2, light_elem ht hL (List.mem_map.2 ⟨i, by simpa using hi, rfl⟩)⟩⟩
    · rcases Nat.eq_zero_or_pos len with h0 | h0
      · exact .inl h0
      · obtain ⟨b, off, spot⟩ := a
        obtain ⟨_, hlen, hget⟩ := World.cells?_some (hC 0 (by omega)).1
        have h00 := hget 0 (by omega)
        rw [List.getElem?_eq_getElem (by omega)] at h00
        have hspot : spot = none := by simpa [Addr.add] using World.cell?_spot h00
        subst hspot
        have hadd : ∀ i j, ((⟨b, off, none⟩ : Addr).add (i * k)).add j = ⟨b, off + i * k + j, none⟩ := fun i j => by
          unfold Addr.add
          by_cases h1 : i * k = 0 <;> by_cases h2 : j = 0 <;> simp [h1, h2]
        refine .inr ⟨b, off, rfl, ?_, fun i j hi hj => ?_⟩
        · have := block_lt_of_cell h00
          simpa [Addr.add] using this
        · obtain ⟨_, _, hg⟩ := World.cells?_some (hC i (by omega)).1
          have := hg j (by omega)
          rw [hk, hadd] at this
          exact this
    · obtain ⟨_, hlen, _⟩ := World.cells?_some (hC i (by omega)).1
      rw [hlen, hk]
end

section
variable {H : Type} {enc : TypeId × Value → H} {W : World} {sp : Nat → Bool} {held : Bool}

theorem light_each {P : Program} {t : TypeId} {fs : Array Field} {parts : List (DataW H)} (ht : P.underlying t = some (.struct fs)) (h : Light P t (.agg parts)) {j : Nat} {f : Field} {d : DataW H} (hf : fs[j]? = some f) (hd : parts[j]? = some d) : Light P f.type d := fun n hn => h n (by
  simp only [DataW.weights, ht]
  exact DataW.weights_mem_each (j := j) (by simp [hf]) hd n hn)
theorem str_size {P : Program} {t : TypeId} {s : ByteArray} (h : Light P t (.lit (.string s.data.toList) : DataW H)) : s.size ≤ 140737488351232 := by
  have := h s.data.toList.length (by simp [DataW.weights])
  rw [Array.length_toList] at this; exact this

/-- A number, opened. -/
theorem rat_cells {fuel : Nat} {cs : List Value} {x : DataW H × List MemPlace} (h : DataW.trod enc Tryz.prog W 0 sp held fuel 30 cs = some x) (hL : Light Tryz.prog 30 x.1) : ∃ r : R3, cs = r.c ∧ r.fits 140737488351232 := by
  obtain ⟨y0, y1, y2, n, rfl, hl, h0, h1, h2⟩ := trod_struct3 Tryz.underlying30 h
  have hc : Tryz.prog.cellsOf 30 = 3 := by kernel_rfl
  have hc0 : Tryz.prog.cellsOf 4 = 1 := by kernel_rfl
  have hc1 : Tryz.prog.cellsOf 9 = 1 := by kernel_rfl
  have L1 := light_each Tryz.underlying30 hL (j := 1) rfl rfl
  have L2 := light_each Tryz.underlying30 hL (j := 2) rfl rfl
  simp only [hc0, hc1] at h0 h1 h2
  rw [hc] at hl
  match cs, hl with
  | [c0, c1, c2], _ =>
    obtain ⟨b, e0, rfl⟩ := DataW.trod_bool Tryz.underlying4 h0
    obtain ⟨s, e1, rfl, -⟩ := DataW.trod_string Tryz.underlying9 h1
    obtain ⟨d, e2, rfl, -⟩ := DataW.trod_string Tryz.underlying9 h2
    simp at e0 e1 e2
    subst e0 e1 e2
    exact ⟨⟨b, s, d⟩, rfl, str_size L1, str_size L2⟩

/-- A letter of two bytes, opened. -/
theorem u16_cells {fuel : Nat} {cs : List Value} {x : DataW H × List MemPlace} (h : DataW.trod enc Tryz.prog W 0 sp held fuel 47 cs = some x) : ∃ m : Nat, cs = [.int .u16 (m : Int)] ∧ m ≤ 65535 := by
  obtain ⟨n, rfl, -, hw⟩ := DataW.trod_int Tryz.underlying47 h
  have hw2 : 0 ≤ n ∧ n ≤ 65535 := by simpa [Lit.wf, IntKind.min, IntKind.max, IntKind.signed, IntKind.bits] using hw
  exact ⟨n.toNat, by rw [Int.toNat_of_nonneg hw2.1], by omega⟩

set_option maxRecDepth 100000 in
/-- Four letters, opened. -/
theorem arr4_cells {fuel : Nat} {cs : List Value} {x : DataW H × List MemPlace} (h : DataW.trod enc Tryz.prog W 0 sp held fuel 68 cs = some x) :
    ∃ m : Nat → Nat, cs = [.int .u16 (m 0 : Int), .int .u16 (m 1 : Int), .int .u16 (m 2 : Int), .int .u16 (m 3 : Int)] ∧ ∀ j, m j ≤ 65535 := by
  obtain ⟨xs, n, rfl, rfl, hl, hx, hf⟩ := DataW.trod_array Tryz.underlying68 h
  have hc : Tryz.prog.cellsOf 68 = 4 := by kernel_rfl
  have hc0 : Tryz.prog.cellsOf 47 = 1 := by kernel_rfl
  simp only [hc0, Nat.mul_one] at hf
  rw [hc] at hl
  match cs, hl, xs, hx with
  | [c0, c1, c2, c3], _, [x0, x1, x2, x3], _ =>
    obtain ⟨m0, e0, l0⟩ := u16_cells (show DataW.trod enc Tryz.prog W 0 sp held n 47 [c0] = some x0 from hf 0 (by omega))
    obtain ⟨m1, e1, l1⟩ := u16_cells (show DataW.trod enc Tryz.prog W 0 sp held n 47 [c1] = some x1 from hf 1 (by omega))
    obtain ⟨m2, e2, l2⟩ := u16_cells (show DataW.trod enc Tryz.prog W 0 sp held n 47 [c2] = some x2 from hf 2 (by omega))
    obtain ⟨m3, e3, l3⟩ := u16_cells (show DataW.trod enc Tryz.prog W 0 sp held n 47 [c3] = some x3 from hf 3 (by omega))
    simp at e0 e1 e2 e3
    subst e0 e1 e2 e3
    exact ⟨fun j => if j = 0 then m0 else if j = 1 then m1 else if j = 2 then m2 else m3, rfl, fun j => by dsimp only; split; exact l0; split; exact l1; split; exact l2; exact l3⟩
end
end Go.Proofs.Ins

set_option linter.unusedSimpArgs false
set_option linter.unusedVariables false
namespace Go.Proofs.Ins
open Go Go.RowKit Go.ChangeShapes Go.WideShapes Go.Deep

theorem SArg.congr {w : World} {a : Option Addr} {n sz : Nat} {F G : Nat → List Value} (h : SArg w a n sz F) (hg : ∀ i, i < n → F i = G i) : SArg w a n sz G := by
  rcases h with h | ⟨b, off, ha, hl, hr⟩
  · exact .inl h
  · exact .inr ⟨b, off, ha, hl, fun i j hi hj => by rw [← hg i hi]; exact hr i j hi hj⟩

section
variable {H : Type} {enc : TypeId × Value → H} {W : World} {sp : Nat → Bool} {held : Bool}

theorem arg_u16s {fuel : Nat} {cs : List Value} {x : DataW H × List MemPlace} (h : DataW.trod enc Tryz.prog W 0 sp held fuel 23 cs = some x) (hL : Light Tryz.prog 23 x.1) :
    ∃ a n cap, ∃ M : Nat → Nat, cs = [.slice a n cap] ∧ n ≤ 140737488351232 ∧ SArg W a n 1 (c16 M) ∧ ∀ i, i < n → M i ≤ 65535 := by
  obtain ⟨a, n, cap, C, rfl, hn, hs, hx⟩ := open_rows (k := 1) Tryz.underlying23 (by kernel_rfl) (by omega) (of_decide_eq_true (by kernel_rfl)) h hL
  obtain ⟨M, hM⟩ := choose_lt (α := Nat) (p := fun i m => C i = [.int .u16 (m : Int)] ∧ m ≤ 65535) (fun i hi => by
    obtain ⟨_, n, y, h1, h2⟩ := hx i hi
    exact u16_cells h1)
  exact ⟨a, n, cap, M, rfl, hn, hs.congr fun i hi => (hM i hi).1, fun i hi => (hM i hi).2⟩

theorem arg_arrs {fuel : Nat} {cs : List Value} {x : DataW H × List MemPlace} (h : DataW.trod enc Tryz.prog W 0 sp held fuel 22 cs = some x) (hL : Light Tryz.prog 22 x.1) :
    ∃ a n cap, ∃ L : Nat → Nat → Nat, cs = [.slice a n cap] ∧ n ≤ 140737488351232 ∧ SArg W a n 4 (u16c L) ∧ ∀ i j, i < n → L i j ≤ 65535 := by
  obtain ⟨a, n, cap, C, rfl, hn, hs, hx⟩ := open_rows (k := 4) Tryz.underlying22 (by kernel_rfl) (by omega) (of_decide_eq_true (by kernel_rfl)) h hL
  obtain ⟨L, hLL⟩ := choose_lt (α := Nat → Nat) (p := fun i m => C i = [.int .u16 (m 0 : Int), .int .u16 (m 1 : Int), .int .u16 (m 2 : Int), .int .u16 (m 3 : Int)] ∧ ∀ j, m j ≤ 65535) (fun i hi => by
    obtain ⟨_, n, y, h1, h2⟩ := hx i hi
    exact arr4_cells h1)
  exact ⟨a, n, cap, L, rfl, hn, hs.congr fun i hi => (hLL i hi).1, fun i j hi => (hLL i hi).2 j⟩

/-- The arguments read as they did. -/
theorem trodAll_below {P : Program} (hl : laidOutB P = true) {W W' : World} (hb : Below W.heap.size W W') : ∀ {ts : List TypeId} {vs : List Value} {ds : List (DataW H)} {p : List MemPlace},
    (ts.all fun t => P.readableRec t && decide (t < P.types.size)) = true → DataW.TrodAll enc P W 0 (fun _ => true) true ts vs ds p → (∀ x ∈ p, x.block < W.heap.size) → DataW.TrodAll enc P W' 0 (fun b => decide (b < W.heap.size)) true ts vs ds p
  | [], _, _, _, _, h, _ => by
    obtain ⟨rfl, rfl, rfl⟩ := trodAll_nil h
    exact h
  | t :: ts, _, _, _, ht, h, hp => by
    obtain ⟨v, vs1, d, ds1, a, b, rfl, rfl, rfl, h1, h2⟩ := trodAll_cons h
    simp only [List.all_cons, Bool.and_eq_true, decide_eq_true_eq] at ht
    exact ⟨a, b, Below.trod hl ht.1.1 ht.1.2 h1 hb (fun x hx => hp x (List.mem_append_left _ hx)), trodAll_below hl hb ht.2 h2 (fun x hx => hp x (List.mem_append_right _ hx)), rfl⟩
end
theorem laidOut' : laidOutB Tryz.prog = true := by kernel_rfl
end Go.Proofs.Ins

set_option linter.unusedSimpArgs false
set_option linter.unusedVariables false
namespace Go.Proofs.Ins
open Go Go.RowKit Go.ChangeShapes Go.WideShapes Go.ChangeAt Go.Proofs.YtobbllakdjampaaGreatDoor

theorem own' : ownKnob Tryz.prog.godebug = none := by kernel_rfl
def laidL : List (String × DataW Unit) := [("unicode/utf8.acceptRanges", Rows.laid_unicode_utf8_acceptRanges), ("unicode/utf8.first", Rows.laid_unicode_utf8_first)]

section
variable {H : Type} {enc : TypeId × Value → H} {W : World}

/-- A slice argument, opened. -/
theorem val_slice {P : Program} {r : Reach} {b : Nat} {t e : TypeId} {v : Value} {d : DataW H} {p : List MemPlace} {sp : Nat → Bool} {held : Bool} (ht : P.underlying t = some (.slice e)) (hv : Value.okWide P W r b t v) (h : DataW.Trod enc P W 0 sp held t v d p) :
    ∃ a n c f, v = .slice a n c ∧ DataW.trod enc P W 0 sp held f t [.slice a n c] = some (d, p) := by
  obtain ⟨a, n, c, rfl⟩ := okWide_slice ht hv
  obtain ⟨f, h⟩ := h
  exact ⟨a, n, c, f, rfl, h⟩

/-- From the walk to the row's post: the result is true, the arguments read as they did. -/
theorem law_post {f : FuncId} {fn : Func} {s : ChangeSpec} {args : Array Value} {ds : List (DataW H)} {before : List MemPlace}
    (hs : s.vars = []) (hr : fn.resultTypes = #[4]) (hfn : s.fn H (ds ++ []) = { results := [.lit (.bool true)], args := ds })
    (ht : (fn.params.toList.all fun t => Tryz.prog.readableRec t && decide (t < Tryz.prog.types.size)) = true)
    (hW : DataW.Whole enc Tryz.prog fn.params.toList s.vars false W args.toList ds [] before)
    (hw : Calls Tryz.prog f args W fun e w' => e = .returned (.bool true) ∧ Below W.heap.size W w') :
    Calls Tryz.prog f args W fun e W' => ∃ v, e = .returned v ∧ s.post enc Tryz.prog fn false true false false W args v W' := by
  refine hw.mono fun e W' ⟨he, hB⟩ => ?_
  subst he
  have hW' := hW
  obtain ⟨p, q, hA, hV, rfl, hfz, hnd⟩ := hW
  refine ⟨_, rfl, ds, [], p ++ q, [], p, [], hW', ?_, ?_, ?_, hB.frame _, fun h => by cases h⟩
  · rw [hfn, hr]
    exact trodAll_mk1 (shut_bool Tryz.underlying4 _)
  · rw [hfn]
    exact trodAll_below laidOut' hB ht hA (fun x hx => hW'.lt x (List.mem_append_left _ hx))
  · rw [hfn, hs]
    rfl
end

section
variable {H : Type} {enc : TypeId × Value → H} {W : World}
set_option maxRecDepth 100000 in
theorem v_arrs {r : Reach} {b : Nat} {v : Value} {d : DataW H} {p : List MemPlace} {sp : Nat → Bool} {held : Bool} (hv : Value.okWide Tryz.prog W r b 22 v) (h : DataW.Trod enc Tryz.prog W 0 sp held 22 v d p) (hL : Light Tryz.prog 22 d) :
    ∃ a n c, ∃ L : Nat → Nat → Nat, v = .slice a n c ∧ n ≤ 140737488351232 ∧ SArg W a n 4 (u16c L) ∧ ∀ i j, i < n → L i j ≤ 65535 := by
  obtain ⟨a, n, c, f, rfl, h9⟩ := val_slice Tryz.underlying22 hv h
  obtain ⟨a', n', c', L, e, h1, h2, h3⟩ := arg_arrs h9 hL
  simp only [List.cons.injEq, Value.slice.injEq, and_true] at e
  obtain ⟨rfl, rfl, rfl⟩ := e
  exact ⟨_, _, _, L, rfl, h1, h2, h3⟩
set_option maxRecDepth 100000 in
theorem v_u16s {r : Reach} {b : Nat} {v : Value} {d : DataW H} {p : List MemPlace} {sp : Nat → Bool} {held : Bool} (hv : Value.okWide Tryz.prog W r b 23 v) (h : DataW.Trod enc Tryz.prog W 0 sp held 23 v d p) (hL : Light Tryz.prog 23 d) :
    ∃ a n c, ∃ M : Nat → Nat, v = .slice a n c ∧ n ≤ 140737488351232 ∧ SArg W a n 1 (c16 M) ∧ ∀ i, i < n → M i ≤ 65535 := by
  obtain ⟨a, n, c, f, rfl, h9⟩ := val_slice Tryz.underlying23 hv h
  obtain ⟨a', n', c', L, e, h1, h2, h3⟩ := arg_u16s h9 hL
  simp only [List.cons.injEq, Value.slice.injEq, and_true] at e
  obtain ⟨rfl, rfl, rfl⟩ := e
  exact ⟨_, _, _, L, rfl, h1, h2, h3⟩
set_option maxRecDepth 100000 in
theorem v_u8 {r : Reach} {b : Nat} {v : Value} {d : DataW H} {p : List MemPlace} {sp : Nat → Bool} {held : Bool} (hv : Value.okWide Tryz.prog W r b 5 v) (h : DataW.Trod enc Tryz.prog W 0 sp held 5 v d p) :
    ∃ n : Nat, v = .int .u8 (n : Int) ∧ n ≤ 255 := by
  obtain ⟨n, rfl, -, -, hw⟩ := open_int Tryz.underlying5 hv h
  have hw2 : 0 ≤ n ∧ n ≤ 255 := by simpa [Lit.wf, IntKind.min, IntKind.max, IntKind.signed, IntKind.bits] using hw
  exact ⟨n.toNat, by rw [Int.toNat_of_nonneg hw2.1], by omega⟩
set_option maxRecDepth 100000 in
theorem v_rat {r : Reach} {b : Nat} {v : Value} {d : DataW H} {p : List MemPlace} {sp : Nat → Bool} {held : Bool} (hv : Value.okWide Tryz.prog W r b 30 v) (h : DataW.Trod enc Tryz.prog W 0 sp held 30 v d p) (hL : Light Tryz.prog 30 d) :
    ∃ r : R3, v = .agg #[.bool r.n, .string r.s, .string r.d] ∧ r.fits 140737488351232 := by
  obtain ⟨cs, rfl, -⟩ := okWide_struct Tryz.underlying30 hv
  obtain ⟨f, h9⟩ := h
  obtain ⟨r, e, hf⟩ := rat_cells h9 hL
  have e2 : cs.toList = r.c := e
  refine ⟨r, ?_, hf⟩
  rw [← Array.toArray_toList (xs := cs), e2]; rfl
end
end Go.Proofs.Ins

set_option linter.unusedSimpArgs false
set_option linter.unusedVariables false
namespace Go.Proofs.Ins
open Go.RowKit

section
variable {P : Program} {ops : Array Oper} {Q : Exit → Act → World → Prop} {md : Region.Mode} {S : Nat → World → Prop} {act : Nat → Bool}

/-- Number j does not wait for number k. -/
def Unb (md : Region.Mode) (ops : Array Oper) (j k : Nat) : Prop := ∀ oj, ops[j]? = some oj → ∀ e ∈ oj.after, Region.binds md e = true → e.on ≠ k
/-- No act that has come up waits for k. -/
def OkS (md : Region.Mode) (ops : Array Oper) (act : Nat → Bool) (listed : Array Bool) (k : Nat) : Prop := ∀ m, listed.getD m false = true → act m = true → Unb md ops m k
def SL (md : Region.Mode) (ops : Array Oper) (act : Nat → Bool) (S : Nat → World → Prop) (listed : Array Bool) (w : World) : Prop := ∀ k, OkS md ops act listed k → S k w

theorem getD_set_other {l : Array Bool} {i m : Nat} (h : i ≠ m) (d v : Bool) : (l.setIfInBounds i v).getD m d = l.getD m d := by
  simp only [Array.getD_eq_getD_getElem?, Array.getElem?_setIfInBounds_ne h]
theorem OkS.set {listed : Array Bool} {j k : Nat} (h : OkS md ops act listed k) (hj : Unb md ops j k) : OkS md ops act (listed.setIfInBounds j true) k := fun m hm ha => by
  by_cases e : j = m
  · subst e; exact hj
  · rw [getD_set_other e] at hm; exact h m hm ha
theorem OkS.quiet {listed : Array Bool} {i k : Nat} (hi : act i = false) (h : OkS md ops act listed k) : OkS md ops act (listed.setIfInBounds i true) k := fun m hm ha => by
  by_cases e : i = m
  · subst e; rw [hi] at ha; cases ha
  · rw [getD_set_other e] at hm; exact h m hm ha
theorem SL.quiet {listed : Array Bool} {i : Nat} {w : World} (hi : act i = false) (h : SL md ops act S (listed.setIfInBounds i true) w) : SL md ops act S listed w := fun k hk => h k (hk.quiet hi)
theorem SL.quiet' {listed : Array Bool} {i : Nat} {w : World} (hi : act i = false) (hu : listed.getD i false = false) (h : SL md ops act S listed w) : SL md ops act S (listed.setIfInBounds i true) w := fun k hk => h k fun m hm ha => by
  by_cases e : i = m
  · subst e; rw [hu] at hm; cases hm
  · exact hk m (by rw [getD_set_other e]; exact hm) ha

/-- Whatever order is picked from here on. -/
def wpAnyL (P : Program) (md : Region.Mode) (ops : Array Oper) (Q : Exit → Act → World → Prop) (S : Nat → World → Prop) (act : Nat → Bool) : Nat → Array Bool → Act → World → Prop
  | 0, listed, a, w => Region.ready md ops listed = [] ∧ Q .normal a w
  | fuel + 1, listed, a, w =>
    (Region.ready md ops listed = [] → Q .normal a w) ∧
    ∀ i ∈ Region.ready md ops listed, wpOp P ops Q i (fun a' w' => SL md ops act S (listed.setIfInBounds i true) w' ∧ wpAnyL P md ops Q S act fuel (listed.setIfInBounds i true) a' w') a w

theorem wpAny_of_L : ∀ (fuel : Nat) (listed : Array Bool) (a : Act) (w : World), wpAnyL P md ops Q S act fuel listed a w → wpAny P md ops Q fuel listed a w
  | 0, _, _, _, h => h
  | fuel + 1, _, _, _, h => ⟨h.1, fun i hi => wpOp_mono (fun a' w' h' => wpAny_of_L fuel _ a' w' h'.2) (h.2 i hi)⟩

theorem wpAnyL_first {i : Nat} {oi : Oper} {v : Value} (hi : ops[i]? = some oi) (hq : act i = false) (hsel : ∀ (j : Nat) (o : Oper) cs b, ops[j]? = some o → o.op ≠ .select cs b)
    (hQ : ∀ c a w, Q (.panic c) (a.put oi.dst v) w → Q (.panic c) a w) :
    ∀ (fuel : Nat) (listed : Array Bool) (a : Act) (w : World),
      (∀ j oj, ops[j]? = some oj → j ≠ i → listed.getD j true = false → (∀ e ∈ oj.after, Region.binds md e = true → e.on ≠ i) → oi.apart ops oj = true) →
      i ∈ Region.ready md ops listed → YieldsIf P ops (S i) oi v a → OkS md ops act listed i → SL md ops act S (listed.setIfInBounds i true) w →
      wpAnyL P md ops Q S act fuel (listed.setIfInBounds i true) (a.put oi.dst v) w → wpAnyL P md ops Q S act (fuel + 1) listed a w := by
  intro fuel
  induction fuel with
  | zero =>
    intro listed a w _ hr hy hok hS H
    refine ⟨fun h => (by rw [h] at hr; cases hr), fun j hj => ?_⟩
    by_cases hji : j = i
    · subst hji; exact hy.wpOp hi (hS _ (hok.quiet hq)) ⟨hS, H⟩
    · have := ready_mono hj hji
      rw [H.1] at this
      cases this
  | succ fuel ih =>
    intro listed a w hfree hr hy hok hS H
    refine ⟨fun h => (by rw [h] at hr; cases hr), fun j hj => ?_⟩
    by_cases hji : j = i
    · subst hji; exact hy.wpOp hi (hS _ (hok.quiet hq)) ⟨hS, H⟩
    · have h1 := H.2 j (ready_mono hj hji)
      obtain ⟨hjun, oj, hoj, hall⟩ := mem_ready.1 hj
      have hnot : ∀ e ∈ oj.after, Region.binds md e = true → e.on ≠ i := fun e he hb heq => by
        have h1 := hall e he hb
        have h0 := (mem_ready.1 hr).1
        rw [heq] at h1
        rcases Nat.lt_or_ge i listed.size with h' | h'
        · simp [h'] at h0 h1; rw [h0] at h1; cases h1
        · simp [Array.getElem?_eq_none h'] at h1
      have h2 := wpOp_putIf hoj (hfree j oj hoj hji hjun hnot) (fun cs b => hsel i oi cs b hi) (fun cs b => hsel j oj cs b hoj) hQ hy h1
      have hfree' : ∀ k ok, ops[k]? = some ok → k ≠ i → (listed.setIfInBounds j true).getD k true = false →
          (∀ e ∈ ok.after, Region.binds md e = true → e.on ≠ i) → oi.apart ops ok = true := fun k ok hk hki hun hno => by
        refine hfree k ok hk hki ?_ hno
        by_cases hjk : j = k
        · subst hjk; exact hjun
        · rw [getD_set_ne true hjk] at hun; exact hun
      have hok' : OkS md ops act (listed.setIfInBounds j true) i := hok.set fun oj' hoj' => by
        rw [hoj] at hoj'; cases hoj'; exact hnot
      refine wpOp_mono (fun a' w' h3 => ?_) h2
      have hc : (listed.setIfInBounds i true).setIfInBounds j true = (listed.setIfInBounds j true).setIfInBounds i true := Array.setIfInBounds_comm _ _ (Ne.symm hji)
      have h4 := h3.2.1
      have h5 := h3.2.2
      rw [hc] at h4 h5
      exact ⟨h4.quiet hq, ih (listed.setIfInBounds j true) a' w' hfree' (ready_mono hr (Ne.symm hji)) h3.1 hok' h4 h5⟩

theorem wpAnyL_take {i : Nat} {oi : Oper} {v : Value} {fuel : Nat} {listed : Array Bool} {a : Act} {w : World} (hi : ops[i]? = some oi) (hq : act i = false)
    (hs : Region.noSelect ops = true) (hf : Region.free md ops listed i = true) (hr : (Region.ready md ops listed).contains i = true)
    (hQ : ∀ c a w, Q (.panic c) (a.put oi.dst v) w → Q (.panic c) a w) (hy : YieldsIf P ops (S i) oi v a) (hok : OkS md ops act listed i) (hS : SL md ops act S (listed.setIfInBounds i true) w)
    (h : wpAnyL P md ops Q S act fuel (listed.setIfInBounds i true) (a.put oi.dst v) w) : wpAnyL P md ops Q S act (fuel + 1) listed a w :=
  wpAnyL_first hi hq (Region.noSelect_spec hs) hQ fuel listed a w (Region.free_spec hi hf) (by simpa using hr) hy hok hS h
theorem wpAnyL_all {rs : List Nat} {fuel : Nat} {listed : Array Bool} {a : Act} {w : World} (hr : Region.ready md ops listed = rs) (hne : rs ≠ [])
    (h : ∀ i ∈ rs, wpOp P ops Q i (fun a' w' => SL md ops act S (listed.setIfInBounds i true) w' ∧ wpAnyL P md ops Q S act fuel (listed.setIfInBounds i true) a' w') a w) : wpAnyL P md ops Q S act (fuel + 1) listed a w :=
  ⟨fun h0 => absurd (hr ▸ h0) hne, hr ▸ h⟩
theorem wpAnyL_done {listed : Array Bool} {a : Act} {w : World} (hr : Region.ready md ops listed = []) (h : Q .normal a w) : ∀ fuel, wpAnyL P md ops Q S act fuel listed a w
  | 0 => ⟨hr, h⟩
  | _ + 1 => ⟨fun _ => h, by rw [hr]; simp⟩
theorem wp_region_L {id : Nat} {a : Act} {w : World} (hm : P.follows .mixedOrders = true)
    (h : wpAnyL P .any ops Q S act ops.size (Array.replicate ops.size false) a { w with drawn := w.drawn + 1 }) : (Code.region id ops true).wp P Q a w :=
  wp_region_any hm (wpAny_of_L _ _ _ _ h)
end
end Go.Proofs.Ins

set_option linter.unusedSimpArgs false
set_option linter.unusedVariables false
namespace Go.Proofs.Ins
open Go.RowKit

/-- No act that has come up waits for k. -/
def okB (md : Region.Mode) (ops : Array Oper) (acts : List Nat) (listed : Array Bool) (k : Nat) : Bool :=
  (List.range ops.size).all fun m => !(listed.getD m false && acts.contains m && (match ops[m]? with | some o => o.after.any fun e => Region.binds md e && e.on == k | none => false))
theorem okB_iff {md : Region.Mode} {ops : Array Oper} {acts : List Nat} {listed : Array Bool} {k : Nat} : okB md ops acts listed k = true ↔ OkS md ops (fun m => acts.contains m) listed k := by
  unfold okB OkS Unb
  rw [List.all_eq_true]
  constructor
  · intro h m hm ha oj hoj e he hb heq
    have hlt : m < ops.size := (Array.getElem?_eq_some_iff.mp hoj).1
    have := h m (List.mem_range.mpr hlt)
    rw [hoj] at this
    have h2 : (oj.after.any fun e => Region.binds md e && e.on == k) = true := Array.any_eq_true'.mpr ⟨e, he, by simp [hb, heq]⟩
    simp only [hm, ha, h2] at this
    cases this
  · intro h m hm
    cases h1 : listed.getD m false with
    | false => simp
    | true =>
      cases h2 : acts.contains m with
      | false => simp
      | true =>
        cases ho : ops[m]? with
        | none => simp
        | some o =>
          have h3 : (o.after.any fun e => Region.binds md e && e.on == k) = false := by
            cases h4 : (o.after.any fun e => Region.binds md e && e.on == k) with
            | false => rfl
            | true =>
              obtain ⟨e, he, h5⟩ := Array.any_eq_true'.mp h4
              simp only [Bool.and_eq_true, beq_iff_eq] at h5
              exact absurd h5.2 (h m h1 h2 o ho e he h5.1)
          simp only [h3]; rfl

section
variable {P : Program} {ops : Array Oper} {md : Region.Mode} {Q : Exit → Act → World → Prop} {S : Nat → World → Prop} {acts : List Nat} {C : World → Prop}

/-- A plan's checks: K are the operations whose reading hangs on the world; behind act i the classes of 'ks' are to be shown. -/
def segsLB (md : Region.Mode) (ops : Array Oper) (acts K : List Nat) : List (List Nat × Nat × List Nat) → List Nat → Array Bool → Bool
  | [], fin, listed => fin.all (fun q => !acts.contains q && okB md ops acts listed q) && (match quietB md ops fin listed with
    | some l' => (Region.ready md ops l').isEmpty
    | none => false)
  | (qs, i, ks) :: rest, fin, listed => qs.all (fun q => !acts.contains q && okB md ops acts listed q) && (match quietB md ops qs listed with
    | some l' => decide (Region.ready md ops l' = [i]) && (K.all (fun k => ks.contains k || !okB md ops acts (l'.setIfInBounds i true) k) && segsLB md ops acts K rest fin (l'.setIfInBounds i true))
    | none => false)
end

end Go.Proofs.Ins

set_option linter.unusedSimpArgs false
set_option linter.unusedVariables false
namespace Go.Proofs.Ins
open Go.RowKit

/-- Operations that only read, one after the other, each in its own class. -/
def wpQS (P : Program) (l : List Oper) (S : Nat → World → Prop) (M : Act → Prop) : List Nat → Act → Prop
  | [], a => M a
  | q :: qs, a => wpQuiet P l.toArray (S q) (wpQS P l S M qs) (getOps l [q]) a
def wpSegsN (P : Program) (l : List Oper) (Q : Exit → Act → World → Prop) (S : Nat → World → Prop) : List (List Nat × Nat × List Nat) → List Nat → Act → World → Prop
  | [], fin, a, w => wpQS P l S (fun a' => Q .normal a' w) fin a
  | (qs, i, ks) :: rest, fin, a, w => wpQS P l S (fun a' => wpList P l.toArray (segQ Q fun a2 w2 => (∀ k ∈ ks, S k w2) ∧ wpSegsN P l Q S rest fin a2 w2) (getOps l [i]) a' w) qs a

section
variable {P : Program} {l : List Oper} {S : Nat → World → Prop} {Q : Exit → Act → World → Prop} {M : Act → Prop} {a : Act} {w : World}
theorem wpQS_nil (h : M a) : wpQS P l S M [] a := h
theorem wpQS_cons {q : Nat} {qs : List Nat} (h : wpQuiet P l.toArray (S q) (wpQS P l S M qs) (getOps l [q]) a) : wpQS P l S M (q :: qs) a := h
theorem wpSegsN_cons {qs : List Nat} {i : Nat} {ks : List Nat} {rest : List (List Nat × Nat × List Nat)} {fin : List Nat}
    (h : wpQS P l S (fun a' => wpList P l.toArray (segQ Q fun a2 w2 => (∀ k ∈ ks, S k w2) ∧ wpSegsN P l Q S rest fin a2 w2) (getOps l [i]) a' w) qs a) : wpSegsN P l Q S ((qs, i, ks) :: rest) fin a w := h
theorem wpSegsN_nil {fin : List Nat} (h : wpQS P l S (fun a' => Q .normal a' w) fin a) : wpSegsN P l (NoPan Q) S [] fin a w := h
end

section
variable {P : Program} {ops : Array Oper} {md : Region.Mode} {Q : Exit → Act → World → Prop} {S : Nat → World → Prop} {acts : List Nat}

theorem segsN_quiet (hs : Region.noSelect ops = true) (hQ : ∀ c a d v w, Q (.panic c) (Act.put a d v) w → Q (.panic c) a w) {M : Act → Prop} {w : World} (l : List Oper) (hl : l.toArray = ops) :
    ∀ (qs : List Nat) (listed l' : Array Bool) (a : Act) (f : Nat), (∀ q ∈ qs, acts.contains q = false) → (∀ q ∈ qs, OkS md ops (fun m => acts.contains m) listed q) → SL md ops (fun m => acts.contains m) S listed w → quietB md ops qs listed = some l' → wpQS P l S M qs a →
      (∀ a', M a' → SL md ops (fun m => acts.contains m) S l' w → wpAnyL P md ops Q S (fun m => acts.contains m) f l' a' w) → wpAnyL P md ops Q S (fun m => acts.contains m) (f + qs.length) listed a w
  | [], listed, l', a, f, _, _, hS, hB, h, hM => by
    simp only [quietB, Option.some.injEq] at hB
    subst hB
    exact hM a h hS
  | q :: qs, listed, l', a, f, hna, hok, hS, hB, h, hM => by
    unfold quietB at hB
    cases hq : ops[q]? with
    | none => rw [hq] at hB; cases hB
    | some o =>
      rw [hq] at hB
      simp only [] at hB
      by_cases hc : ((Region.ready md ops listed).contains q && Region.free md ops listed q && plainOp o.op) = true
      · rw [if_pos hc] at hB
        simp only [Bool.and_eq_true] at hc
        obtain ⟨⟨h1, h2⟩, h3⟩ := hc
        have hlq : l[q]? = some o := by rw [← hl] at hq; simpa using hq
        have hg : getOps l [q] = [o] := by unfold getOps; rw [List.filterMap_cons, hlq]; rfl
        have hun : listed.getD q false = false := by
          have hr := (mem_ready.1 (show q ∈ Region.ready md ops listed by simpa using h1)).1
          rcases Nat.lt_or_ge q listed.size with h' | h'
          · simp [h'] at hr ⊢; exact hr
          · simp [Array.getElem?_eq_none h'] at hr
        have hnq := hna q (by simp)
        have hS2 : SL md ops (fun m => acts.contains m) S (listed.setIfInBounds q true) w := SL.quiet' hnq hun hS
        have h := wpQS_cons (P := P) (l := l) (S := S) (M := M) h
        unfold wpQS at h
        rw [hg, hl] at h
        unfold wpQuiet at h
        have go : ∀ v, YieldsIf P ops (S q) o v a → wpQS P l S M qs (a.put o.dst v) → wpAnyL P md ops Q S (fun m => acts.contains m) (f + (q :: qs).length) listed a w := fun v hy hn => by
          rw [List.length_cons, ← Nat.add_assoc]
          exact wpAnyL_take hq hnq hs h2 h1 (fun c a w => hQ c a o.dst v w) hy (hok q (by simp)) hS2
            (segsN_quiet hs hQ l hl qs _ l' _ f (fun q' hq' => hna q' (by simp [hq'])) (fun q' hq' => (hok q' (by simp [hq'])).quiet hnq) hS2 hB hn hM)
        by_cases hw : Region.wanted o (yielded ops a.tmps) = true
        · rw [if_pos hw] at h
          obtain ⟨v, hv, hn⟩ := h
          unfold wpQuiet at hn
          exact go v (.inl ⟨hw, fun w' hw' => quiet_plain h3 (hv w' hw')⟩) hn
        · rw [if_neg hw] at h
          unfold wpQuiet at h
          exact go undef (.inr ⟨by simpa using hw, rfl⟩) h
      · rw [if_neg hc] at hB; cases hB

theorem segsN_all (hs : Region.noSelect ops = true) (hQ : ∀ c a d v w, Q (.panic c) (Act.put a d v) w → Q (.panic c) a w) (l : List Oper) (hl : l.toArray = ops) (K : List Nat) (hK : ∀ k, k ∉ K → ∀ w, S k w) (fin : List Nat) :
    ∀ (sg : List (List Nat × Nat × List Nat)) (listed : Array Bool) (a : Act) (w : World) (f : Nat), segsLB md ops acts K sg fin listed = true → SL md ops (fun m => acts.contains m) S listed w → wpSegsN P l Q S sg fin a w →
      wpAnyL P md ops Q S (fun m => acts.contains m) (f + (sg.map fun x => x.1.length + 1).sum + fin.length) listed a w
  | [], listed, a, w, f, hB, hS, h => by
    unfold segsLB at hB
    rw [Bool.and_eq_true, List.all_eq_true] at hB
    obtain ⟨hA, hB⟩ := hB
    cases hq : quietB md ops fin listed with
    | none => rw [hq] at hB; cases hB
    | some l' =>
      rw [hq] at hB
      unfold wpSegsN at h
      simp only [List.map_nil, List.sum_nil, Nat.add_zero]
      refine segsN_quiet hs hQ l hl fin listed l' a f (fun q hq => by have := hA q hq; simp at this; simpa using this.1) (fun q hq => okB_iff.mp (by have := hA q hq; simp at this; exact this.2)) hS hq h (fun a' ha _ => wpAnyL_done (by simpa using hB) ha f)
  | (qs, i, ks) :: rest, listed, a, w, f, hB, hS, h => by
    unfold segsLB at hB
    rw [Bool.and_eq_true, List.all_eq_true] at hB
    obtain ⟨hA, hB⟩ := hB
    cases hq : quietB md ops qs listed with
    | none => rw [hq] at hB; cases hB
    | some l' =>
      rw [hq] at hB
      simp only [Bool.and_eq_true, decide_eq_true_eq] at hB
      obtain ⟨hr, hkk, hB2⟩ := hB
      unfold wpSegsN at h
      rw [hl] at h
      have e : f + (((qs, i, ks) :: rest).map fun x => x.1.length + 1).sum + fin.length = (f + (rest.map fun x => x.1.length + 1).sum + fin.length + 1) + qs.length := by
        simp only [List.map_cons, List.sum_cons]; omega
      rw [e]
      refine segsN_quiet hs hQ l hl qs listed l' a _ (fun q hq => by have := hA q hq; simp at this; simpa using this.1) (fun q hq => okB_iff.mp (by have := hA q hq; simp at this; exact this.2)) hS hq h (fun a' ha hS2 => ?_)
      have hi : i ∈ Region.ready md ops l' := by rw [hr]; simp
      obtain ⟨_, o, ho, _⟩ := mem_ready.1 hi
      have hlo : l[i]? = some o := by rw [← hl] at ho; simpa using ho
      have hg : getOps l [i] = [o] := by unfold getOps; rw [List.filterMap_cons, hlo]; rfl
      rw [hg] at ha
      refine wpAnyL_all hr (by simp) (fun j hj => ?_)
      have hji : j = i := by simpa using hj
      subst hji
      refine wpOp_mono (fun a2 w2 h2 => ?_) (wpOp_of_list ho ha)
      have hSL : SL md ops (fun m => acts.contains m) S (l'.setIfInBounds j true) w2 := fun k hk => by
        by_cases hmem : k ∈ K
        · have h4 := (List.all_eq_true.mp hkk) k hmem
          rw [okB_iff.mpr hk] at h4
          simp at h4
          exact h2.1 k h4
        · exact hK k hmem w2
      exact ⟨hSL, segsN_all hs hQ l hl K hK fin rest _ a2 w2 f hB2 hSL h2.2⟩
end

/-- A region by a schedule, with a class for each operation that reads. -/
theorem wp_region_segsN {P : Program} {id : Nat} {Q : Exit → Act → World → Prop} {a : Act} {w : World} {l : List Oper} (S : Nat → World → Prop) (acts K : List Nat) (sg : List (List Nat × Nat × List Nat)) (fin : List Nat) (hm : P.follows .mixedOrders = true)
    (hs : Region.noSelect l.toArray = true) (hB : segsLB .any l.toArray acts K sg fin (Array.replicate l.toArray.size false) = true) (hn : (sg.map fun x => x.1.length + 1).sum + fin.length = l.toArray.size)
    (hK : ∀ k, k ∉ K → ∀ w, S k w) (hS : ∀ k, S k w.drew)
    (h : wpSegsN P l (NoPan Q) S sg fin a w.drew) : (Code.region id l.toArray true).wp P Q a w := by
  refine Code.wp_mono NoPan.imp (wp_region_L (S := S) (act := fun m => acts.contains m) hm ?_)
  have := segsN_all (md := .any) (P := P) (S := S) (Q := NoPan Q) (acts := acts) hs (fun _ _ _ _ _ h => h) l rfl K hK fin sg (Array.replicate l.toArray.size false) a w.drew 0 hB (fun k _ => hS k) h
  rw [Nat.zero_add, hn] at this
  exact this

/-- Block b alone stays. -/
def butB (b : Nat) : Nat → Bool := fun k => !(k == b)
theorem exc_but {b : Nat} {W w' : World} (h1 : w'.os = W.os) (h2 : w'.tape = W.tape) (h3 : w'.output = W.output) (h4 : W.heap.size ≤ w'.heap.size) (h5 : w'.heap[b]? = W.heap[b]?) : Exc W (butB b) w' :=
  exc_of h1 h2 h3 h4 fun k _ hk => by
    unfold butB at hk
    have e : k = b := by simpa using hk
    subst e; exact h5
theorem exc_but_cell {W : World} {b : Nat} {a : Addr} {v : Value} (h : W.cell? a = some v) (hb : a.block = b) : ∀ p : ExcP W (butB b), p.w.cell? a = some v := fun p => by
  subst hb
  rw [World.cell?_of_block (w := W) (p.block a.block (block_lt_of_cell h) (by unfold butB; simp))]; exact h
end Go.Proofs.Ins
