/- The walk of waterfall.members. -/
import Derived.Shelf.Sort.Plain
import Derived.Shelf.Slices.CompactI
import Derived.Shelf.Slices.In.SortNone
import Derived.Test.YtmephnllicleiaaGreatDoorProg
import Derived.Test.YtmephnllicleiaaGreatDoorZ16
import Derived.Test.YtmephnllicleiaaGreatDoorZ20
import Derived.Lib.OwnBridge

namespace Go.Proofs
open Go.Shelf
def Tryz.lays189_ren : Go.Shelf.Ren := ⟨fun | 189 => 134 | 125 => 192 | 257 => 191 | 128 => 229 | 129 => 230 | 294 => 220 | 295 => 221 | 296 => 222 | 297 => 223 | 298 => 224 | 299 => 225 | 216 => 226 | 300 => 227 | 301 => 228 | 328 => 243 | 329 => 244 | 330 => 245 | 331 => 246 | 332 => 247 | 215 => 248 | 343 => 254 | n => n, fun | 28 => 116 | 3 => 3 | 46 => 208 | 0 => 0 | 51 => 207 | 53 => 168 | 4 => 4 | 183 => 283 | 182 => 282 | 131 => 288 | 5 => 5 | 9 => 9 | 218 => 300 | 222 => 304 | 228 => 308 | 229 => 309 | n => n, fun | n => n⟩
theorem Tryz.lays189 : Go.Proofs.Lays.n189 Tryz.prog Tryz.lays189_ren := {
  mixed := by kernel_rfl
  f125 := Tryz.func192.trans (congrArg some (by kernel_rfl))
  f128 := Tryz.func229.trans (congrArg some (by kernel_rfl))
  f129 := Tryz.func230.trans (congrArg some (by kernel_rfl))
  f189 := Tryz.func134.trans (congrArg some (by kernel_rfl))
  f215 := Tryz.func248.trans (congrArg some (by kernel_rfl))
  f216 := Tryz.func226.trans (congrArg some (by kernel_rfl))
  f257 := Tryz.func191.trans (congrArg some (by kernel_rfl))
  f294 := Tryz.func220.trans (congrArg some (by kernel_rfl))
  f295 := Tryz.func221.trans (congrArg some (by kernel_rfl))
  f296 := Tryz.func222.trans (congrArg some (by kernel_rfl))
  f297 := Tryz.func223.trans (congrArg some (by kernel_rfl))
  f298 := Tryz.func224.trans (congrArg some (by kernel_rfl))
  f299 := Tryz.func225.trans (congrArg some (by kernel_rfl))
  f300 := Tryz.func227.trans (congrArg some (by kernel_rfl))
  f301 := Tryz.func228.trans (congrArg some (by kernel_rfl))
  f328 := Tryz.func243.trans (congrArg some (by kernel_rfl))
  f329 := Tryz.func244.trans (congrArg some (by kernel_rfl))
  f330 := Tryz.func245.trans (congrArg some (by kernel_rfl))
  f331 := Tryz.func246.trans (congrArg some (by kernel_rfl))
  f332 := Tryz.func247.trans (congrArg some (by kernel_rfl))
  f343 := Tryz.func254.trans (congrArg some (by kernel_rfl))
  t0 := Tryz.underlying0
  a0 := Tryz.isAgg0
  z0 := Tryz.sizeOf0
  v0 := Tryz.zeroValue0
  t3 := Tryz.underlying3
  a3 := Tryz.isAgg3
  z3 := Tryz.sizeOf3
  v3 := Tryz.zeroValue3
  t4 := Tryz.underlying4
  a4 := Tryz.isAgg4
  z4 := Tryz.sizeOf4
  v4 := Tryz.zeroValue4
  t5 := Tryz.underlying5
  a5 := Tryz.isAgg5
  z5 := Tryz.sizeOf5
  v5 := Tryz.zeroValue5
  t9 := Tryz.underlying9
  a9 := Tryz.isAgg9
  z9 := Tryz.sizeOf9
  v9 := Tryz.zeroValue9
  t28 := Tryz.underlying116
  a28 := Tryz.isAgg116
  z28 := Tryz.sizeOf116
  v28 := Tryz.zeroValue116
  t46 := Tryz.underlying208
  a46 := Tryz.isAgg208
  z46 := Tryz.sizeOf208
  v46 := Tryz.zeroValue208
  t51 := Tryz.underlying207
  a51 := Tryz.isAgg207
  z51 := Tryz.sizeOf207
  v51 := Tryz.zeroValue207
  t53 := Tryz.underlying168
  a53 := Tryz.isAgg168
  z53 := Tryz.sizeOf168
  v53 := Tryz.zeroValue168
  t131 := Tryz.underlying288
  a131 := Tryz.isAgg288
  z131 := Tryz.sizeOf288
  v131 := Tryz.zeroValue288
  t182 := Tryz.underlying282
  a182 := Tryz.isAgg282
  z182 := Tryz.sizeOf282
  v182 := Tryz.zeroValue282
  t183 := Tryz.underlying283
  a183 := Tryz.isAgg283
  z183 := Tryz.sizeOf283
  v183 := Tryz.zeroValue283
  t218 := Tryz.underlying300
  a218 := Tryz.isAgg300
  z218 := Tryz.sizeOf300
  v218 := Tryz.zeroValue300
  t222 := Tryz.underlying304
  a222 := Tryz.isAgg304
  z222 := Tryz.sizeOf304
  v222 := Tryz.zeroValue304
  t228 := Tryz.underlying308
  a228 := Tryz.isAgg308
  z228 := Tryz.sizeOf308
  v228 := Tryz.zeroValue308
  t229 := Tryz.underlying309
  a229 := Tryz.isAgg309
  z229 := Tryz.sizeOf309
  v229 := Tryz.zeroValue309 }
open Go.Sort Go.RowKit in
theorem Tryz.slices_Sort_int (blk off cap : Nat) (zs : List Int) (w : World) (hH : Holds (Value.int .i64) w blk off zs.toArray) (hblk : blk < w.heap.size) (hsz : zs.length < 4611686018427387904) :
    Calls Tryz.prog 134 #[.slice (some ⟨blk, off, none⟩) zs.length cap] w fun e w' =>
      e = .returned (.tuple #[]) ∧ ∃ n os, w' = grow (putRow (Value.int .i64) (Sort.ahead w n) blk off (zs.mergeSort fun x y => decide (x ≤ y)).toArray) os := Any.slices_Sort_int Tryz.lays189 blk off cap zs w hH hblk hsz
open Go.RowKit Go.Sort in
/-- .. and plain. (LAID: no walk: one application.) -/
theorem Tryz.slices_Sort_int_none (p : Option Addr) (cap : Nat) (w : World) :
    Calls Tryz.prog 134 #[.slice p 0 cap] w fun e w' => e = .returned (.tuple #[]) ∧ w' = w := Any.slices_Sort_int_none Tryz.lays189 p cap w
def Tryz.laysNm220_ren : Go.Shelf.Ren := ⟨fun | 20 => 135 | n => n, fun | 22 => 116 | 3 => 3 | 4 => 4 | 0 => 0 | n => n, fun | n => n⟩
theorem Tryz.laysNm220 : Go.Proofs.Lays2.n20 Tryz.prog Tryz.laysNm220_ren := {
  mixed := by kernel_rfl
  f20 := Tryz.func135.trans (congrArg some (by kernel_rfl))
  t0 := Tryz.underlying0
  a0 := Tryz.isAgg0
  z0 := Tryz.sizeOf0
  v0 := Tryz.zeroValue0
  t3 := Tryz.underlying3
  a3 := Tryz.isAgg3
  z3 := Tryz.sizeOf3
  v3 := Tryz.zeroValue3
  t4 := Tryz.underlying4
  a4 := Tryz.isAgg4
  z4 := Tryz.sizeOf4
  v4 := Tryz.zeroValue4
  t22 := Tryz.underlying116
  a22 := Tryz.isAgg116
  z22 := Tryz.sizeOf116
  v22 := Tryz.zeroValue116
  i3 := by kernel_rfl }
open Go.RowKit Go.Lib Go.Sort in
/-- slices.Compact at []int: "Compact replaces consecutive runs of equal elements with a single copy. This is like the uniq command found on Unix. Compact modifies the contents of the slice s and returns the modified slice, which may have a smaller length. Compact zeroes the elements between the new length and the original length. The result preserves the nilness of s.": IT RETURNS THE SLICE CUT TO 'Lib.compact zs'; ITS CELLS HOLD 'Lib.compact zs', THEN ZERO VALUES up to the old length; all else is as it was, but for the count of draws. IN THE WORDS OF slices.Sort's CONTRACT ('Holds', 'putRow'): so the everyday 'slices.Sort(xs); xs = slices.Compact(xs)' goes from the one contract to the other. It asks 'zs.length ≤ cap' (every slice's: the reslicing 's[:k]' looks at it). Length 0, nil: '.._empty'. (LAID: no walk: one application.) -/
theorem Tryz.slices_Compact_int (blk off cap : Nat) (zs : List Int) (w : World) (hH : Holds (Value.int .i64) w blk off zs.toArray) (hsz : zs.length ≤ 9223372036854775807) (hcap : zs.length ≤ cap) :
    Calls Tryz.prog 135 #[.slice (some ⟨blk, off, none⟩) zs.length cap] w fun e w' => e = .returned (.slice (some ⟨blk, off, none⟩) (Lib.compact zs).length cap) ∧ ∃ q, w' = putRow (Value.int .i64) (Sort.ahead w q) blk off (Lib.compact zs ++ List.replicate (zs.length - (Lib.compact zs).length) 0).toArray := Any.slices_Compact_int Tryz.laysNm220 blk off cap zs w hH hsz hcap
open Go.RowKit Go.Lib Go.Sort in
/-- The same at a slice of length 0, a nil one too: it comes back as it is. (LAID: no walk: one application.) -/
theorem Tryz.slices_Compact_int_empty (a : Option Addr) (cap : Nat) (w : World) :
    Calls Tryz.prog 135 #[.slice a 0 cap] w fun e w' => e = .returned (.slice a 0 cap) ∧ w' = w := Any.slices_Compact_int_empty Tryz.laysNm220 a cap w
end Go.Proofs

set_option linter.unusedSimpArgs false
set_option linter.unusedVariables false
namespace Go.Proofs.Ins
open Go.RowKit

theorem maxR_or (p q : Rat) : maxR p q = p ∨ maxR p q = q := by unfold maxR; split <;> simp
theorem minR_or (p q : Rat) : minR p q = p ∨ minR p q = q := by unfold minR; split <;> simp
theorem sm_maxR {k : Nat} {p q : Rat} (h : Sm k p) (h2 : Sm k q) : Sm k (maxR p q) := by rcases maxR_or p q with e | e <;> rw [e] <;> assumption
theorem sm_minR {k : Nat} {p q : Rat} (h : Sm k p) (h2 : Sm k q) : Sm k (minR p q) := by rcases minR_or p q with e | e <;> rw [e] <;> assumption
def leastQ (v : V8) (x : R3) : Rat := (leastR v x).q
theorem leastQ_eq (v : V8) (x : R3) : leastQ v x = if x.q = 0 then 0 else if v.a.q = 0 then v.k.q else minR (x.q / v.a.q) v.k.q := by
  unfold leastQ leastR
  split
  · exact ofQ_q 0
  · split
    · rfl
    · exact ofQ_q _
theorem sm_r3 {r : R3} {k : Nat} (h : r.fits k) : Sm (k + k + 1) r.q := (sm_raw r.n r.s r.d).mono (by have := h.1; have := h.2; omega)
theorem sm_least {v : V8} {x : R3} (hv : v.fits 1000) (hx : x.fits 1000) : Sm 4002 (leastQ v x) := by
  rw [leastQ_eq]
  split
  · exact sm_zero _ (by omega)
  · split
    · exact (sm_r3 hv.2).mono (by omega)
    · rename_i h
      exact sm_minR (((sm_r3 hx).div (sm_r3 hv.1) h).mono (by omega)) ((sm_r3 hv.2).mono (by omega))
theorem least_fits {v : V8} {x : R3} (hv : v.fits 1000) (hx : x.fits 1000) : (leastR v x).fits 4002 := by
  unfold leastR
  split
  · exact ofQ_fits (sm_zero _ (by omega))
  · split
    · exact ⟨Nat.le_trans hv.2.1 (by omega), Nat.le_trans hv.2.2 (by omega)⟩
    · rename_i h
      exact ofQ_fits (sm_minR (((sm_r3 hx).div (sm_r3 hv.1) h).mono (by omega)) ((sm_r3 hv.2).mono (by omega)))
/-- The greatest of the least shares. -/
def flo (V : Nat → V8) (A : Nat → R3) : Nat → Rat
  | 0 => 0
  | k + 1 => maxR (flo V A k) (leastQ (V k) (A k))
theorem sm_flo {V : Nat → V8} {A : Nat → R3} : ∀ n, (∀ i, i < n → (V i).fits 1000) → (∀ i, i < n → (A i).fits 1000) → Sm 4002 (flo V A n)
  | 0, _, _ => sm_zero _ (by omega)
  | n + 1, h1, h2 => sm_maxR (sm_flo n (fun i hi => h1 i (by omega)) fun i hi => h2 i (by omega)) (sm_least (h1 n (by omega)) (h2 n (by omega)))
/-- The floor. -/
def flQ (n m : Nat) (V : Nat → V8) (A : Nat → R3) : Rat := if chk n m V A = 0 then minR (flo V A n) 1 else 0

end Go.Proofs.Ins

set_option linter.unusedSimpArgs false
set_option linter.unusedVariables false
namespace Go.Proofs.Ins
open Go.RowKit

/-- Whether a voter is worse off and does not accept. -/
def worB (v : V8) (x r : R3) : Bool := decide (0 < cmpR v.k.q r.q) && decide (0 < cmpR x.q (v.a.q * r.q))
/-- Whether a number lies between 0 and 1. -/
def inRB (q : Rat) : Bool := decide (0 ≤ sg q) && decide (cmpR q 1 ≤ 0)

theorem boxes_two (w : World) (vs us : Array Value) (T U : TypeId) : Blk ((w.alloc (.cells vs T)).alloc (.cells us U)) w.heap.size vs ∧ Blk ((w.alloc (.cells vs T)).alloc (.cells us U)) (w.heap.size + 1) us ∧ Below w.heap.size w ((w.alloc (.cells vs T)).alloc (.cells us U)) := by
  refine ⟨(Blk.new w vs T).alloc _, ?_, ((Below.refl _ _).alloc (Nat.le_refl _) _).alloc (by simp) _⟩
  have := Blk.new (w.alloc (.cells vs T)) us U
  rwa [World.size_alloc] at this
theorem boxes_three (w : World) (vs us ts : Array Value) (T U V : TypeId) : Blk (((w.alloc (.cells vs T)).alloc (.cells us U)).alloc (.cells ts V)) w.heap.size vs ∧ Blk (((w.alloc (.cells vs T)).alloc (.cells us U)).alloc (.cells ts V)) (w.heap.size + 1) us ∧ Blk (((w.alloc (.cells vs T)).alloc (.cells us U)).alloc (.cells ts V)) (w.heap.size + 1 + 1) ts ∧ Below w.heap.size w (((w.alloc (.cells vs T)).alloc (.cells us U)).alloc (.cells ts V)) := by
  obtain ⟨h1, h2, h3⟩ := boxes_two w vs us T U
  refine ⟨h1.alloc _, h2.alloc _, ?_, h3.alloc (by simp; omega) _⟩
  have := Blk.new ((w.alloc (.cells vs T)).alloc (.cells us U)) ts V
  rwa [World.size_alloc, World.size_alloc] at this
theorem Blk.later8 {w : World} {b : Nat} {v0 v1 v2 v3 v4 v5 v6 v7 : Value} (h : Blk w b #[v0, v1, v2, v3, v4, v5, v6, v7]) :
    (∀ d os, (Sort.grow (redrawn w d) os).cell? ⟨b, 0, none⟩ = some v0) ∧ (∀ d os, (Sort.grow (redrawn w d) os).cell? ⟨b, 1, none⟩ = some v1) ∧ (∀ d os, (Sort.grow (redrawn w d) os).cell? ⟨b, 2, none⟩ = some v2) ∧ (∀ d os, (Sort.grow (redrawn w d) os).cell? ⟨b, 3, none⟩ = some v3) ∧
    (∀ d os, (Sort.grow (redrawn w d) os).cell? ⟨b, 4, none⟩ = some v4) ∧ (∀ d os, (Sort.grow (redrawn w d) os).cell? ⟨b, 5, none⟩ = some v5) ∧ (∀ d os, (Sort.grow (redrawn w d) os).cell? ⟨b, 6, none⟩ = some v6) ∧ (∀ d os, (Sort.grow (redrawn w d) os).cell? ⟨b, 7, none⟩ = some v7) :=
  ⟨cell_regrown (h.cell 0), cell_regrown (h.cell 1), cell_regrown (h.cell 2), cell_regrown (h.cell 3), cell_regrown (h.cell 4), cell_regrown (h.cell 5), cell_regrown (h.cell 6), cell_regrown (h.cell 7)⟩


end Go.Proofs.Ins

set_option linter.unusedSimpArgs false
set_option linter.unusedVariables false
namespace Go.Proofs.Ins
open Go.RowKit

/-- The voters that are worse off, of the first k. -/
def wixs (V : Nat → V8) (A : Nat → R3) (r : R3) (k : Nat) : List Nat := (List.range k).filter fun i => worB (V i) (A i) r
theorem wixs_zero (V : Nat → V8) (A : Nat → R3) (r : R3) : wixs V A r 0 = [] := rfl
theorem wixs_yes {V : Nat → V8} {A : Nat → R3} {r : R3} {k : Nat} (h : worB (V k) (A k) r = true) : wixs V A r (k + 1) = wixs V A r k ++ [k] := by
  unfold wixs; rw [List.range_succ, List.filter_append]; simp [h]
theorem wixs_no {V : Nat → V8} {A : Nat → R3} {r : R3} {k : Nat} (h : worB (V k) (A k) r = false) : wixs V A r (k + 1) = wixs V A r k := by
  unfold wixs; rw [List.range_succ, List.filter_append]; simp [h]
theorem wixs_len (V : Nat → V8) (A : Nat → R3) (r : R3) (k : Nat) : (wixs V A r k).length ≤ k := by
  have := List.length_filter_le (fun i => worB (V i) (A i) r) (List.range k)
  rwa [List.length_range] at this
/-- A list of numbers, as cells. -/
def cI (l : List Nat) (j : Nat) : List Value := [.int .i64 ((l.getD j 0 : Nat) : Int)]
theorem cI_snoc (l : List Nat) (k j : Nat) (hj : j < l.length + 1) : (if j < l.length then cI l j else [.int .i64 (k : Int)]) = cI (l ++ [k]) j := by
  unfold cI
  by_cases h : j < l.length
  · rw [if_pos h]; simp [List.getElem?_append_left h]
  · obtain rfl : j = l.length := by omega
    rw [if_neg h]; simp
theorem SOwn.mono {w : World} {base base' : Nat} {T : TypeId} {sz : Nat} {v : Value} {n : Nat} {F : Nat → List Value} (h : SOwn w base T sz v n F) (hb : base' ≤ base) : SOwn w base' T sz v n F := by
  obtain ⟨⟨h1, h2⟩, h3⟩ := h
  refine ⟨⟨h1, ?_⟩, h3⟩
  rcases h2 with h2 | ⟨g, cap, cur, hv, hg, r⟩
  · exact .inl h2
  · exact .inr ⟨g, cap, cur, hv, Nat.le_trans hb hg, r⟩
/-- What Worse gives. -/
def wrsL (n m : Nat) (V : Nat → V8) (A : Nat → R3) (r : R3) : List Nat := if chk n m V A = 0 ∧ inRB r.q = true then wixs V A r n else []
def wrsE (n m : Nat) (V : Nat → V8) (A : Nat → R3) (r : R3) : Int := if chk n m V A = 0 then (if inRB r.q = true then 0 else 1) else chk n m V A
/-- A list of numbers and an error, handed back. -/
def RetW (w : World) (T : TypeId) (l : List Nat) (x : Int) (e : Ending) (w' : World) : Prop :=
  ∃ v, e = .returned (.tuple #[v, .int .i64 x]) ∧ SOwn w' w.heap.size T 1 v l.length (cI l) ∧ Below w.heap.size w w'
theorem RetW.nil {w w' : World} {T : TypeId} {x : Int} (h : Below w.heap.size w w') : RetW w T [] x (.returned (.tuple #[.slice none 0 0, .int .i64 x])) w' :=
  ⟨_, rfl, SOwn.nil _ _ _ _ _, h⟩
theorem intInfo : (Tryz.prog.info? 3).map (fun i => (i.zero.map (fun z => z.cells.size), i.size, i.bytes)) = some (some 1, 1, 8) := by kernel_rfl

end Go.Proofs.Ins

set_option linter.unusedSimpArgs false
set_option linter.unusedVariables false
namespace Go.Proofs.Ins
open Go.RowKit

theorem mem_compact {zs : List Int} {x : Int} : x ∈ Lib.compact zs ↔ x ∈ zs := by
  unfold Lib.compact Lib.compactUpTo
  rw [List.mem_map]
  constructor
  · rintro ⟨j, hj, rfl⟩
    rw [List.mem_filter] at hj
    have : j < zs.length := by simpa using hj.1
    simp [getElem!_pos, this]
  · intro hx
    obtain ⟨i, hi, rfl⟩ := List.getElem_of_mem hx
    have : ∀ j, j < zs.length → ∃ k, k ≤ j ∧ Lib.keeps zs.toArray k = true ∧ zs.toArray[k]! = zs.toArray[j]! := by
      intro j
      induction j with
      | zero => intro _; exact ⟨0, Nat.le_refl _, by simp [Lib.keeps], rfl⟩
      | succ j ih =>
        intro hj
        by_cases e : zs.toArray[j + 1]! = zs.toArray[j]!
        · obtain ⟨k, h1, h2, h3⟩ := ih (by omega)
          exact ⟨k, by omega, h2, by rw [h3, e]⟩
        · exact ⟨j + 1, Nat.le_refl _, by simp only [Lib.keeps]; exact decide_eq_true (.inr (by simpa using e)), rfl⟩
    obtain ⟨k, h1, h2, h3⟩ := this i hi
    refine ⟨k, List.mem_filter.mpr ⟨by simp; omega, h2⟩, ?_⟩
    rw [h3]; simp [getElem!_pos, hi]

theorem flat_len {F : Nat → List Value} {sz : Nat} : ∀ (n : Nat), (∀ i, i < n → (F i).length = sz) → ((List.range n).flatMap F).length = n * sz
  | 0, _ => by simp
  | n + 1, h => by
    rw [List.range_succ, List.flatMap_append, List.length_append, flat_len n (fun i hi => h i (by omega))]
    simp [h n (by omega), Nat.succ_mul]
/-- Integers, as cells. -/
def cJ (l : List Int) (j : Nat) : List Value := [.int .i64 (l.getD j 0)]
theorem cJ_flat (l : List Int) : (List.range l.length).flatMap (cJ l) = l.map (Value.int .i64) := by
  apply List.ext_getElem?
  intro j
  by_cases h : j < l.length
  · have := flatMap_get (sz := 1) (F := cJ l) l.length (fun i _ => rfl) j 0 h (by omega)
    rw [Nat.mul_one, Nat.add_zero] at this
    rw [this]; simp [cJ, h]
  · rw [List.getElem?_eq_none, List.getElem?_eq_none]
    · simpa using h
    · rw [flat_len (sz := 1) l.length (fun i _ => rfl)]; omega
theorem cJ_snoc (l : List Int) (x : Int) (j : Nat) (hj : j < l.length + 1) : (if j < l.length then cJ l j else [.int .i64 x]) = cJ (l ++ [x]) j := by
  unfold cJ
  by_cases h : j < l.length
  · rw [if_pos h]; simp [List.getElem?_append_left h]
  · obtain rfl : j = l.length := by omega
    rw [if_neg h]; simp
theorem sown_row {w : World} {base : Nat} {T : TypeId} {v : Value} {l : List Int} : SOwn w base T 1 v l.length (cJ l) ↔ w.ownsRow base T 1 v l.length (l.map (Value.int .i64)) := by
  unfold SOwn
  rw [cJ_flat]
  exact ⟨fun h => h.1, fun h => ⟨h, fun _ _ => rfl⟩⟩
theorem below_grow {B : Nat} {w0 w : World} {os : Array Obj} (h : Below B w0 w) (hB : B ≤ w.heap.size) : Below B w0 (Sort.grow w os) :=
  ⟨h.os, h.tape, h.output, by have := h.size; simp [Sort.grow]; omega, fun k hk => by rw [← h.block k hk]; exact Sort.heap_grow_old w os (by omega)⟩
theorem ownsRow_grow {w : World} {base : Nat} {T : TypeId} {v : Value} {n : Nat} {xs : List Value} {os : Array Obj} (h : w.ownsRow base T 1 v n xs) : (Sort.grow w os).ownsRow base T 1 v n xs := by
  obtain ⟨h1, h2⟩ := h
  refine ⟨h1, ?_⟩
  rcases h2 with h2 | ⟨g, cap, cur, hv, hb, hg, r⟩
  · exact .inl h2
  · exact .inr ⟨g, cap, cur, hv, hb, by rw [Sort.heap_grow_old w os (Array.getElem?_eq_some_iff.mp hg).1]; exact hg, r⟩

/-- slices.Sort of integers of the call's own. -/
theorem sort_own (w : World) (base : Nat) (v : Value) (l : List Int) (h : SOwn w base 3 1 v l.length (cJ l)) (hb : base ≤ w.heap.size) (hl : l.length < 4611686018427387904) :
    Calls Tryz.prog 134 #[v] w fun e w' => e = .returned (.tuple #[]) ∧ ∃ l' : List Int, l'.length = l.length ∧ (∀ x, x ∈ l' ↔ x ∈ l) ∧ SOwn w' base 3 1 v l'.length (cJ l') ∧ Below base w w' := by
  by_cases hv : v = .slice none 0 0
  · subst hv
    refine (Tryz.slices_Sort_int_none none 0 w).mono fun e w' ⟨he, hw⟩ => ⟨he, l, rfl, fun _ => Iff.rfl, by rw [hw]; exact h, by rw [hw]; exact Below.refl _ _⟩
  · have hr := sown_row.mp h
    obtain ⟨g, cap, rfl, h1, h2, h3, h4, h5, h6⟩ := Lib.holds_of_ownsRow hr hv
    refine (Tryz.slices_Sort_int g 0 cap l w h6 h2 hl).mono ?_
    rintro e w' ⟨he, n, os, rfl⟩
    refine ⟨he, l.mergeSort fun x y => decide (x ≤ y), by rw [List.length_mergeSort], fun x => List.mem_mergeSort, sown_row.mpr ?_, below_grow (Lib.below_putRow (Below.refl base w) h1) (by simpa [Sort.putRow, Sort.mapBlock, Sort.ahead] using hb)⟩
    refine ownsRow_grow ?_
    have := Lib.ownsRow_putRow (q := n) (k := l.length) (ys := l.mergeSort fun x y => decide (x ≤ y)) hr (by rw [List.length_mergeSort]) (Nat.le_refl _)
    rw [List.take_of_length_le (by rw [List.length_mergeSort]; omega)] at this
    rw [List.length_mergeSort]; exact this

/-- slices.Compact of integers of the call's own. -/
theorem compact_own (w : World) (base : Nat) (v : Value) (l : List Int) (h : SOwn w base 3 1 v l.length (cJ l)) (hl : l.length ≤ 9223372036854775807) :
    Calls Tryz.prog 135 #[v] w fun e w' => ∃ v' l', e = .returned v' ∧ l'.length ≤ l.length ∧ (∀ x, x ∈ l' ↔ x ∈ l) ∧ SOwn w' base 3 1 v' l'.length (cJ l') ∧ Below base w w' := by
  by_cases hv : v = .slice none 0 0
  · subst hv
    refine (Tryz.slices_Compact_int_empty none 0 w).mono fun e w' ⟨he, hw⟩ => ⟨_, l, he, Nat.le_refl _, fun _ => Iff.rfl, by rw [hw]; exact h, by rw [hw]; exact Below.refl _ _⟩
  · have hr := sown_row.mp h
    obtain ⟨g, cap, rfl, h1, h2, h3, h4, h5, h6⟩ := Lib.holds_of_ownsRow hr hv
    refine (Tryz.slices_Compact_int g 0 cap l w h6 hl h3).mono ?_
    rintro e w' ⟨he, q, rfl⟩
    have hle := Lib.compact_length_le l
    refine ⟨_, Lib.compact l, he, hle, fun x => mem_compact, sown_row.mpr ?_, Lib.below_putRow (Below.refl base w) h1⟩
    have := Lib.ownsRow_putRow (q := q) (k := (Lib.compact l).length) (ys := Lib.compact l ++ List.replicate (l.length - (Lib.compact l).length) 0) hr (by simp; omega) hle
    rw [List.take_left] at this
    exact this

/-- The claims of the first k parts. -/
def mks (l : List Prt) (k : Nat) : List Int := ((l.take k).map fun x => x.k).filter fun x => x != -1
theorem mks_zero (l : List Prt) : mks l 0 = [] := by simp [mks]
theorem mks_yes {l : List Prt} {k : Nat} (h : k < l.length) (h2 : (ix l k).k ≠ -1) : mks l (k + 1) = mks l k ++ [(ix l k).k] := by
  unfold mks; rw [take_succ_ix h]; simp [h2]
theorem mks_no {l : List Prt} {k : Nat} (h : k < l.length) (h2 : (ix l k).k = -1) : mks l (k + 1) = mks l k := by
  unfold mks; rw [take_succ_ix h]; simp [h2]
theorem mks_len (l : List Prt) (k : Nat) : (mks l k).length ≤ k := by
  unfold mks
  refine Nat.le_trans (List.length_filter_le _ _) ?_
  simp; omega
theorem mks_all {a : Agr} {c : Int} : c ∈ mks a.flatten a.flatten.length ↔ c ≠ -1 ∧ memA a c = true := by
  unfold mks memA memT
  rw [List.take_length, List.mem_filter, List.mem_map, List.any_eq_true]
  constructor
  · rintro ⟨⟨x, hx, rfl⟩, h⟩
    obtain ⟨t, ht, hx⟩ := List.mem_flatten.mp hx
    exact ⟨by simpa using h, t, ht, List.any_eq_true.mpr ⟨x, hx, by simp⟩⟩
  · rintro ⟨h, t, ht, h2⟩
    obtain ⟨x, hx, e⟩ := List.any_eq_true.mp h2
    have e : x.k = c := by simpa using e
    exact ⟨⟨x, List.mem_flatten.mpr ⟨t, ht, hx⟩, e⟩, by simpa using h⟩
/-- What members hands back. -/
def RetM (w : World) (T : TypeId) (a : Agr) (e : Ending) (w' : World) : Prop :=
  ∃ v l, e = .returned v ∧ l.length ≤ a.flatten.length ∧ (∀ c, c ∈ l ↔ c ≠ -1 ∧ memA a c = true) ∧ SOwn w' w.heap.size T 1 v l.length (cJ l) ∧ Below w.heap.size w w'

set_option maxRecDepth 100000 in
set_option maxHeartbeats 3200000 in
theorem members_any (p : Nat → Prop) (v : Value) (a : Agr) (w : World) (hA : RTiers w p v a) (la : a.length ≤ 140737488351232) (lf : a.flatten.length ≤ 1000000) :
    Calls Tryz.prog 73 #[.agg #[v]] w (RetM w 3 a) := by
  have HC := Lib.hid (fun w' (h : RTiers w' p v a) => concat_part p v a w' h la lf)
  have HA := Lib.hid hA
  have HM := Lib.hid (fun c => mks_all (a := a) (c := c))
  have HY := Lib.hid (fun k h h2 => mks_yes (l := a.flatten) (k := k) h h2)
  have HN := Lib.hid (fun k h h2 => mks_no (l := a.flatten) (k := k) h h2)
  have HL := Lib.hid (mks_len a.flatten)
  have H0 := Lib.hid (mks_zero a.flatten)
  unfold RetM
  clear hA
  generalize hmm : mks a.flatten = MK at *
  generalize hfl : a.flatten = fl at *
  clear hmm hfl
  generalize hN : fl.length = N at *
  go_enter Tryz.func73, Tryz.ntmps73
  go_wp2_with fail
  refine (HC.out _ (HA.out.on ((Below.refl _ _).alloc (Nat.le_refl _) _))).mono ?_
  rintro e w1 ⟨v1, rfl, ho1, hb1⟩
  obtain ⟨-, HB⟩ := boxes1 hb1
  have HB := Lib.hid HB
  have hz1 := HB.out.size
  have hsl := ho1.sl
  obtain ⟨a1, cap1, rfl, -, -⟩ := hsl.form
  have HSL := Lib.hid hsl
  clear ho1 hb1 hsl HC HA
  go_wp2_with fail
  go_loopw [3, 10] (fun v i wr => ∃ k : Nat, i = .int .i64 k ∧ k ≤ N ∧ SOwn wr w1.heap.size 3 1 v (MK k).length (cJ (MK k)) ∧ Below w1.heap.size w1 wr) (fun _ i _ => N - (intOf i).toNat)
  case atStart => exact ⟨0, rfl, by omega, by rw [H0.out]; exact SOwn.nil _ _ _ _ _, Below.refl _ _⟩
  case round =>
    obtain ⟨k, rfl, hk, hown, hbel⟩ := hrel
    have HO := Lib.hid hown
    have HBR := Lib.hid hbel
    have hsz := hbel.size
    by_cases hlt : k < N
    · obtain ⟨b, off, rfl, -, -, -⟩ := HSL.out.get (by omega)
      have e0 := HSL.out.cellAt rfl hbel (i := k) (j := 0) hlt (by omega)
      have e1 : wr.cell? ⟨b, off + k * 5 + 1, none⟩ = some (Value.bool (ix fl k).b) := HSL.out.cellAt rfl hbel (i := k) (j := 1) hlt (by omega)
      have e2 : wr.cell? ⟨b, off + k * 5 + 2, none⟩ = some (Value.bool (ix fl k).a.n) := HSL.out.cellAt rfl hbel (i := k) (j := 2) hlt (by omega)
      have e3 : wr.cell? ⟨b, off + k * 5 + 3, none⟩ = some (Value.string (ix fl k).a.s) := HSL.out.cellAt rfl hbel (i := k) (j := 3) hlt (by omega)
      have e4 : wr.cell? ⟨b, off + k * 5 + 4, none⟩ = some (Value.string (ix fl k).a.d) := HSL.out.cellAt rfl hbel (i := k) (j := 4) hlt (by omega)
      rw [Nat.add_zero] at e0
      have e0' : wr.cell? ⟨b, off + k * 5, none⟩ = some (Value.int .i64 (ix fl k).k) := e0
      have HYK := Lib.hid (HY.out k (by omega))
      have HNK := Lib.hid (HN.out k (by omega))
      have hlk := HL.out k
      have i1 : (0 : Int) ≤ (k : Int) := by omega
      have i2 : (k : Int) < (N : Int) := by omega
      clear e0 hown hbel HY HN HL HM
      generalize hmk1 : MK (k + 1) = M1 at *
      have HM1 := Lib.hid hmk1
      generalize hmk0 : MK k = M0 at *
      clear hmk1 hmk0
      generalize (ix fl k).k = x at *
      generalize (ix fl k).b = pb at *
      generalize (ix fl k).a.n = an at *
      generalize (ix fl k).a.s = as' at *
      generalize (ix fl k).a.d = ad at *
      by_cases hx : x = -1
      · have h1 : (x != -1) = false := by simp [hx]
        have HX := Lib.hid (HNK.out hx)
        clear HYK HNK
        go_wp2
        go_roundw
        case rel => exact ⟨k + 1, by go_num, by omega, by rw [HM1.out, HX.out]; exact HO.out.below ((Below.refl _ _).alloc (Nat.le_refl _) _) (Nat.le_refl _), HBR.out.alloc (by omega) _⟩
        case measure => simp [intOf]; omega
      · have h1 : (x != -1) = true := by simp [hx]
        have HX := Lib.hid (HYK.out hx)
        have HO2 := Lib.hid (HO.out.below ((Below.refl wr.heap.size wr).alloc (Nat.le_refl _) (.cells #[.int .i64 x, .bool pb, .bool an, .string as', .string ad] 82)) (Nat.le_refl _))
        have hz2 : (wr.alloc (.cells #[.int .i64 x, .bool pb, .bool an, .string as', .string ad] 82)).heap.size = wr.heap.size + 1 := by simp
        clear HYK HNK
        go_wp2_with (refine wpList_appendS _ _ 116 3 1 8 w1.heap.size _ _ _ [.int .i64 x] (by rfl) (by rfl) Tryz.underlying116 intInfo (by omega) (by rfl) (by rfl) (by simp [Value.oneCell']) (by rw [World.size_alloc]; rfl) HO2.out (by omega) (by omega) (by rw [World.size_alloc]; omega) ?_; intro v9 w9 ho9 hb9; have HO9 := Lib.hid ho9; have HB9 := Lib.hid hb9; clear ho9 hb9)
        go_roundw
        case rel =>
          refine ⟨k + 1, by go_num, by omega, ?_, (HBR.out.alloc (by omega) _).trans HB9.out⟩
          rw [HM1.out, HX.out, List.length_append]
          exact HO9.out.congr fun j hj => cJ_snoc _ _ j hj
        case measure => simp [intOf]; omega
    · obtain rfl : k = N := by omega
      have hnl : decide ((k : Int) < (k : Int)) = false := by simp
      have hlk := HL.out k
      have HST := Lib.hid (sort_own wr w1.heap.size u3 (MK k) hown (by omega) (by omega))
      go_wp2_with fail
      refine HST.out.mono ?_
      rintro e w2 ⟨rfl, l2, hl2, hm2, ho2, hb2⟩
      have HCP := Lib.hid (compact_own w2 w1.heap.size u3 l2 ho2 (by omega))
      have HB2 := Lib.hid (HBR.out.trans hb2)
      have HM2 := Lib.hid hm2
      clear ho2 hb2 HST hm2 hown hbel
      go_wp2_with fail
      refine HCP.out.mono ?_
      rintro e w3 ⟨v3, l3, rfl, hl3, hm3, ho3, hb3⟩
      have HO3 := Lib.hid ho3
      have HM3 := Lib.hid hm3
      have HB3 := Lib.hid (HB2.out.trans hb3)
      clear ho3 hm3 hb3
      go_wp2
      go_ret
      exact ⟨_, l3, rfl, by omega, fun c => by rw [HM3.out, HM2.out, HM.out], HO3.out.mono (by omega), chain HB.out HB3.out (Nat.le_refl _)⟩
end Go.Proofs.Ins
