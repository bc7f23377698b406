/- The walk of waterfall.members. -/
import Derived.Test.YtobbllakdjampaaGreatDoorZ21
import Derived.Shelf.Sort.Plain
import Derived.Shelf.Slices.CompactI
import Derived.Shelf.Slices.In.SortNone
import Derived.Test.YtobbllakdjampaaGreatDoorProg
import Derived.Test.YtobbllakdjampaaGreatDoorZ1
import Derived.Test.YtobbllakdjampaaGreatDoorZ15
import Derived.Lib.OwnBridge

set_option linter.unusedSimpArgs false
set_option linter.unusedVariables false
namespace Go.Proofs.Ins
open Go.RowKit

/-- How many parts the first k tiers have. -/
def tot (a : Agr) (k : Nat) : Nat := (a.take k).flatten.length
theorem tot_zero (a : Agr) : tot a 0 = 0 := by simp [tot]
theorem tot_succ {a : Agr} {k : Nat} (h : k < a.length) : tot a (k + 1) = tot a k + (ix a k).length := by
  unfold tot; rw [take_succ_ix h]; simp
theorem tot_le {a : Agr} {k : Nat} : tot a k ≤ a.flatten.length := by
  unfold tot
  conv => rhs; rw [← List.take_append_drop k a]
  rw [List.flatten_append, List.length_append]; omega
theorem tot_all (a : Agr) : tot a a.length = a.flatten.length := by unfold tot; rw [List.take_length]
/-- Part j of the first k tiers. -/
def prt (a : Agr) (k j : Nat) : List Value := (ix (a.take k).flatten j).c
theorem prt_succ {a : Agr} {k : Nat} (h : k < a.length) (j : Nat) : (if j < tot a k then prt a k j else (ix (ix a k) (j - tot a k)).c) = prt a (k + 1) j := by
  unfold prt tot
  rw [take_succ_ix h, List.flatten_append, List.flatten_singleton, ix_app]
  split <;> rfl
theorem prt_all (a : Agr) (j : Nat) : prt a a.length j = (ix a.flatten j).c := by unfold prt; rw [List.take_length]
theorem prt_one (x : Prt) : ∀ u ∈ x.c, u.oneCell' = true := by unfold Prt.c; simp [Value.oneCell']

set_option maxRecDepth 100000 in
set_option maxHeartbeats 3200000 in
theorem concat_part (p : Nat → Prop) (v : Value) (a : Agr) (w : World) (hA : RTiers w p v a) (la : a.length ≤ 140737488351232) (lf : a.flatten.length ≤ 1000000) :
    Calls Tryz.prog 130 #[v] w (RetO w 112 a.flatten.length 5 fun i => (ix a.flatten i).c) := by
  obtain ⟨G, hS, hQ⟩ := hA
  obtain ⟨aa, cap, rfl, -, -⟩ := hS.form
  have HS := Lib.hid hS
  have HQ := Lib.hid hQ
  have HTS := Lib.hid (fun k h => tot_succ (a := a) (k := k) h)
  have HTL := Lib.hid (fun k => tot_le (a := a) (k := k))
  have HT0 := Lib.hid (tot_zero a)
  have HPS := Lib.hid (fun k h => prt_succ (a := a) (k := k) h)
  have HTA := Lib.hid (tot_all a)
  have HPA := Lib.hid (prt_all a)
  clear hS hQ
  generalize hfl : a.flatten.length = N at *
  generalize hff : (fun i => (ix a.flatten i).c) = FF at *
  have HPA := Lib.hid (show ∀ j, prt a a.length j = FF j from fun j => by rw [HPA.out, ← hff])
  clear hff hfl
  generalize tot a = TT at *
  generalize hpp : prt a = PP at *
  clear hpp
  generalize hn : a.length = n at *
  go_enter Tryz.func130, Tryz.ntmps130
  go_wp2_with fail
  go_loopw [3, 11] (fun s i wr => ∃ k : Nat, i = .int .i64 k ∧ k ≤ n ∧ s = .int .i64 (TT k : Int) ∧ w = wr) (fun _ i _ => n - (intOf i).toNat)
  case atStart => exact ⟨0, rfl, by omega, by rw [HT0.out]; rfl, rfl⟩
  case round =>
    obtain ⟨k, rfl, hk, rfl, rfl⟩ := hrel
    by_cases hlt : k < n
    · obtain ⟨b, off, rfl, -, -, -⟩ := HS.out.get (by omega)
      have c0 := HS.out.cellAt rfl (Below.refl _ _) (i := k) (j := 0) hlt (by omega)
      obtain ⟨v2, hG, hR⟩ := HQ.out k hlt
      obtain ⟨a2, cap2, rfl, -, -⟩ := hR.plain.form
      rw [hG, Nat.mul_one, Nat.add_zero] at c0
      have c1 : w.cell? ⟨b, off + k, none⟩ = some (Value.slice a2 (ix a k).length cap2) := c0
      have e1 := HTS.out k (by omega)
      have e2 := HTL.out (k + 1)
      have hb9 : TT k + (ix a k).length ≤ 1000000 := by omega
      have HE1 := Lib.hid e1
      have i1 : (0 : Int) ≤ (k : Int) := by omega
      have i2 : (k : Int) < (n : Int) := by omega
      clear c0 hG hR HTS HTL HPS HTA HPA
      generalize (ix a k).length = m at *
      clear e1 e2
      generalize ht1 : TT (k + 1) = t1 at *
      have HT1 := Lib.hid ht1
      clear ht1
      generalize TT k = t0 at *
      have e3 : IntKind.i64.wrap ((t0 : Int) + (m : Int)) = (t0 : Int) + (m : Int) := IntWalk.i64_in _ (by omega)
      have e6 : decide ((t0 : Int) + (m : Int) < 0) = false := decide_eq_false (by omega)
      go_wp2
      go_roundw
      case rel => exact ⟨k + 1, by go_num, by omega, by rw [HT1.out, HE1.out]; simp, by simp⟩
      case measure => simp [intOf]; omega
    · obtain rfl : k = n := by omega
      have hnl : decide ((k : Int) < (k : Int)) = false := by simp
      have hle := HTL.out k
      have HGR := Lib.hid (grow_part (TT k) w (by omega))
      go_wp2_with fail
      refine HGR.out.mono ?_
      rintro e w1 ⟨v1, rfl, ho1, hb1⟩
      have HO1 := Lib.hid (ho1.congr (G := PP 0) fun i hi => by omega)
      have HB1 := Lib.hid hb1
      clear ho1 hb1 HGR
      go_wp2_with fail
      go_loopw [6, 27] (fun v i W => ∃ q : Nat, i = .int .i64 q ∧ q ≤ k ∧ SOwn W w.heap.size 112 5 v (TT q) (PP q) ∧ Below w.heap.size w W) (fun _ i _ => k - (intOf i).toNat)
      case atStart => exact ⟨0, rfl, by omega, by rw [HT0.out]; exact HO1.out, HB1.out⟩
      case round =>
        obtain ⟨q, rfl, hq, hown, hbel⟩ := hrel
        have HB := Lib.hid hbel
        have hsz := hbel.size
        by_cases hlt : q < k
        · obtain ⟨b, off, rfl, -, -, -⟩ := HS.out.get (by omega)
          have c0 := HS.out.cellAt rfl HB.out (i := q) (j := 0) hlt (by omega)
          obtain ⟨v2, hG, hR⟩ := HQ.out q hlt
          rw [hG, Nat.mul_one, Nat.add_zero] at c0
          have e1 := HTS.out q (by omega)
          have e2 := HTL.out (q + 1)
          have hap := append_sl (t := 113) Tryz.underlying113 partInfo (by omega) hown (hR.on hbel).plain (fun i hi u hu => prt_one _ u hu) (by omega) (by omega) hsz
          obtain ⟨a2, cap2, rfl, -, -⟩ := hR.plain.form
          obtain ⟨v9, w9, hr9, ho9, hb9⟩ := hap
          have c1 : wr.cell? ⟨b, off + q, none⟩ = some (Value.slice a2 (ix a q).length cap2) := c0
          have HO9 := Lib.hid (show SOwn w9 w.heap.size 112 5 v9 (TT (q + 1)) (PP (q + 1)) from by rw [e1]; exact ho9.congr fun i hi => HPS.out q (by omega) i)
          have HB9 := Lib.hid (HB.out.trans hb9)
          have i1 : (0 : Int) ≤ (q : Int) := by omega
          have i2 : (q : Int) < (k : Int) := by omega
          clear c0 hG hR ho9 hb9 hown hbel HTS HTL HPS HTA HPA HT0
          go_wp2_with (at_builtin; refine Lib.wpList_append_run _ rfl _ _ _ _ rfl _ _ rfl rfl _ _ (hr9 _) ?_)
          go_roundw
          case rel => exact ⟨q + 1, by go_num, by omega, HO9.out, HB9.out⟩
          case measure => simp [intOf]; omega
        · obtain rfl : q = k := by omega
          have hnl : decide ((q : Int) < (q : Int)) = false := by simp
          have HR := Lib.hid (show SOwn wr w.heap.size 112 5 u6 N FF from by rw [← HTA.out]; exact hown.congr fun i _ => HPA.out i)
          go_wp2
          go_ret
          exact ⟨_, rfl, HR.out, HB.out⟩
end Go.Proofs.Ins

namespace Go.Proofs
open Go.Shelf
def Tryz.lays189_ren : Go.Shelf.Ren := ⟨fun | 189 => 131 | 125 => 152 | 257 => 151 | 128 => 160 | 129 => 173 | 294 => 164 | 295 => 165 | 296 => 166 | 297 => 167 | 298 => 168 | 299 => 169 | 216 => 170 | 300 => 171 | 301 => 172 | 328 => 177 | 329 => 178 | 330 => 179 | 331 => 180 | 332 => 181 | 215 => 182 | 343 => 187 | n => n, fun | 28 => 39 | 3 => 3 | 46 => 109 | 0 => 0 | 51 => 142 | 53 => 106 | 4 => 4 | 183 => 202 | 182 => 201 | 131 => 207 | 5 => 5 | 9 => 9 | 218 => 212 | 222 => 216 | 228 => 225 | 229 => 226 | n => n, fun | n => n⟩
theorem Tryz.lays189 : Go.Proofs.Lays.n189 Tryz.prog Tryz.lays189_ren := {
  mixed := by kernel_rfl
  f125 := Tryz.func152.trans (congrArg some (by kernel_rfl))
  f128 := Tryz.func160.trans (congrArg some (by kernel_rfl))
  f129 := Tryz.func173.trans (congrArg some (by kernel_rfl))
  f189 := Tryz.func131.trans (congrArg some (by kernel_rfl))
  f215 := Tryz.func182.trans (congrArg some (by kernel_rfl))
  f216 := Tryz.func170.trans (congrArg some (by kernel_rfl))
  f257 := Tryz.func151.trans (congrArg some (by kernel_rfl))
  f294 := Tryz.func164.trans (congrArg some (by kernel_rfl))
  f295 := Tryz.func165.trans (congrArg some (by kernel_rfl))
  f296 := Tryz.func166.trans (congrArg some (by kernel_rfl))
  f297 := Tryz.func167.trans (congrArg some (by kernel_rfl))
  f298 := Tryz.func168.trans (congrArg some (by kernel_rfl))
  f299 := Tryz.func169.trans (congrArg some (by kernel_rfl))
  f300 := Tryz.func171.trans (congrArg some (by kernel_rfl))
  f301 := Tryz.func172.trans (congrArg some (by kernel_rfl))
  f328 := Tryz.func177.trans (congrArg some (by kernel_rfl))
  f329 := Tryz.func178.trans (congrArg some (by kernel_rfl))
  f330 := Tryz.func179.trans (congrArg some (by kernel_rfl))
  f331 := Tryz.func180.trans (congrArg some (by kernel_rfl))
  f332 := Tryz.func181.trans (congrArg some (by kernel_rfl))
  f343 := Tryz.func187.trans (congrArg some (by kernel_rfl))
  t0 := Tryz.underlying0
  a0 := Tryz.isAgg0
  z0 := Tryz.sizeOf0
  v0 := Tryz.zeroValue0
  t3 := Tryz.underlying3
  a3 := Tryz.isAgg3
  z3 := Tryz.sizeOf3
  v3 := Tryz.zeroValue3
  t4 := Tryz.underlying4
  a4 := Tryz.isAgg4
  z4 := Tryz.sizeOf4
  v4 := Tryz.zeroValue4
  t5 := Tryz.underlying5
  a5 := Tryz.isAgg5
  z5 := Tryz.sizeOf5
  v5 := Tryz.zeroValue5
  t9 := Tryz.underlying9
  a9 := Tryz.isAgg9
  z9 := Tryz.sizeOf9
  v9 := Tryz.zeroValue9
  t28 := Tryz.underlying39
  a28 := Tryz.isAgg39
  z28 := Tryz.sizeOf39
  v28 := Tryz.zeroValue39
  t46 := Tryz.underlying109
  a46 := Tryz.isAgg109
  z46 := Tryz.sizeOf109
  v46 := Tryz.zeroValue109
  t51 := Tryz.underlying142
  a51 := Tryz.isAgg142
  z51 := Tryz.sizeOf142
  v51 := Tryz.zeroValue142
  t53 := Tryz.underlying106
  a53 := Tryz.isAgg106
  z53 := Tryz.sizeOf106
  v53 := Tryz.zeroValue106
  t131 := Tryz.underlying207
  a131 := Tryz.isAgg207
  z131 := Tryz.sizeOf207
  v131 := Tryz.zeroValue207
  t182 := Tryz.underlying201
  a182 := Tryz.isAgg201
  z182 := Tryz.sizeOf201
  v182 := Tryz.zeroValue201
  t183 := Tryz.underlying202
  a183 := Tryz.isAgg202
  z183 := Tryz.sizeOf202
  v183 := Tryz.zeroValue202
  t218 := Tryz.underlying212
  a218 := Tryz.isAgg212
  z218 := Tryz.sizeOf212
  v218 := Tryz.zeroValue212
  t222 := Tryz.underlying216
  a222 := Tryz.isAgg216
  z222 := Tryz.sizeOf216
  v222 := Tryz.zeroValue216
  t228 := Tryz.underlying225
  a228 := Tryz.isAgg225
  z228 := Tryz.sizeOf225
  v228 := Tryz.zeroValue225
  t229 := Tryz.underlying226
  a229 := Tryz.isAgg226
  z229 := Tryz.sizeOf226
  v229 := Tryz.zeroValue226 }
open Go.Sort Go.RowKit in
theorem Tryz.slices_Sort_int (blk off cap : Nat) (zs : List Int) (w : World) (hH : Holds (Value.int .i64) w blk off zs.toArray) (hblk : blk < w.heap.size) (hsz : zs.length < 4611686018427387904) :
    Calls Tryz.prog 131 #[.slice (some ⟨blk, off, none⟩) zs.length cap] w fun e w' =>
      e = .returned (.tuple #[]) ∧ ∃ n os, w' = grow (putRow (Value.int .i64) (Sort.ahead w n) blk off (zs.mergeSort fun x y => decide (x ≤ y)).toArray) os := Any.slices_Sort_int Tryz.lays189 blk off cap zs w hH hblk hsz
open Go.RowKit Go.Sort in
/-- .. and plain. (LAID: no walk: one application.) -/
theorem Tryz.slices_Sort_int_none (p : Option Addr) (cap : Nat) (w : World) :
    Calls Tryz.prog 131 #[.slice p 0 cap] w fun e w' => e = .returned (.tuple #[]) ∧ w' = w := Any.slices_Sort_int_none Tryz.lays189 p cap w
def Tryz.laysNm220_ren : Go.Shelf.Ren := ⟨fun | 20 => 132 | n => n, fun | 22 => 39 | 3 => 3 | 4 => 4 | 0 => 0 | n => n, fun | n => n⟩
theorem Tryz.laysNm220 : Go.Proofs.Lays2.n20 Tryz.prog Tryz.laysNm220_ren := {
  mixed := by kernel_rfl
  f20 := Tryz.func132.trans (congrArg some (by kernel_rfl))
  t0 := Tryz.underlying0
  a0 := Tryz.isAgg0
  z0 := Tryz.sizeOf0
  v0 := Tryz.zeroValue0
  t3 := Tryz.underlying3
  a3 := Tryz.isAgg3
  z3 := Tryz.sizeOf3
  v3 := Tryz.zeroValue3
  t4 := Tryz.underlying4
  a4 := Tryz.isAgg4
  z4 := Tryz.sizeOf4
  v4 := Tryz.zeroValue4
  t22 := Tryz.underlying39
  a22 := Tryz.isAgg39
  z22 := Tryz.sizeOf39
  v22 := Tryz.zeroValue39
  i3 := by kernel_rfl }
open Go.RowKit Go.Lib Go.Sort in
/-- slices.Compact at []int: "Compact replaces consecutive runs of equal elements with a single copy. This is like the uniq command found on Unix. Compact modifies the contents of the slice s and returns the modified slice, which may have a smaller length. Compact zeroes the elements between the new length and the original length. The result preserves the nilness of s.": IT RETURNS THE SLICE CUT TO 'Lib.compact zs'; ITS CELLS HOLD 'Lib.compact zs', THEN ZERO VALUES up to the old length; all else is as it was, but for the count of draws. IN THE WORDS OF slices.Sort's CONTRACT ('Holds', 'putRow'): so the everyday 'slices.Sort(xs); xs = slices.Compact(xs)' goes from the one contract to the other. It asks 'zs.length ≤ cap' (every slice's: the reslicing 's[:k]' looks at it). Length 0, nil: '.._empty'. (LAID: no walk: one application.) -/
theorem Tryz.slices_Compact_int (blk off cap : Nat) (zs : List Int) (w : World) (hH : Holds (Value.int .i64) w blk off zs.toArray) (hsz : zs.length ≤ 9223372036854775807) (hcap : zs.length ≤ cap) :
    Calls Tryz.prog 132 #[.slice (some ⟨blk, off, none⟩) zs.length cap] w fun e w' => e = .returned (.slice (some ⟨blk, off, none⟩) (Lib.compact zs).length cap) ∧ ∃ q, w' = putRow (Value.int .i64) (Sort.ahead w q) blk off (Lib.compact zs ++ List.replicate (zs.length - (Lib.compact zs).length) 0).toArray := Any.slices_Compact_int Tryz.laysNm220 blk off cap zs w hH hsz hcap
open Go.RowKit Go.Lib Go.Sort in
/-- The same at a slice of length 0, a nil one too: it comes back as it is. (LAID: no walk: one application.) -/
theorem Tryz.slices_Compact_int_empty (a : Option Addr) (cap : Nat) (w : World) :
    Calls Tryz.prog 132 #[.slice a 0 cap] w fun e w' => e = .returned (.slice a 0 cap) ∧ w' = w := Any.slices_Compact_int_empty Tryz.laysNm220 a cap w
end Go.Proofs

set_option linter.unusedSimpArgs false
set_option linter.unusedVariables false
namespace Go.Proofs.Ins
open Go.RowKit

/-- Whether a number lies between 0 and 1. -/
def inRB (q : Rat) : Bool := decide (0 ≤ sg q) && decide (cmpR q 1 ≤ 0)

set_option maxRecDepth 100000 in
set_option maxHeartbeats 1600000 in
theorem inrange_any (r : R3) (w : World) (hr : r.fits 1000) :
    Calls Tryz.prog 41 #[.agg #[.bool r.n, .string r.s, .string r.d]] w fun e w' => e = .returned (.bool (inRB r.q)) ∧ Below w.heap.size w w' := by
  have hq : r.q = rq r.n r.s r.d := rfl
  obtain ⟨hr1, hr2⟩ := hr
  have HS := Lib.hid (fun w => sign_rat r.n r.s r.d w (by omega) (by omega))
  have h1s : Sm 1 (1 : Rat) := ⟨by decide, by decide⟩
  have hI := fun w => int_any 1 w (by omega) (by omega)
  rw [show (((1 : Int) : Rat)) = 1 from rfl] at hI
  have HI := Lib.hid hI
  have hC := fun w => compare_rat r.n r.s r.d (rn 1) (rs 1) (rd 1) w (by omega) (by have := h1s.rs; have := h1s.rd; omega)
  rw [rq_of] at hC
  have HC := Lib.hid hC
  unfold inRB
  rw [hq]
  clear hI hC h1s hr1 hr2 hq
  generalize cmpR (rq r.n r.s r.d) 1 = c at *
  generalize sg (rq r.n r.s r.d) = s at *
  generalize rn 1 = o1 at *
  generalize rs 1 = o2 at *
  generalize rd 1 = o3 at *
  generalize r.n = rn' at *
  generalize r.s = rs' at *
  generalize r.d = rd' at *
  generalize hT : (decide (0 ≤ s) && decide (c ≤ 0)) = T
  have HT := Lib.hid hT
  clear hT
  go_enter Tryz.func41, Tryz.ntmps41
  go_wp2
  refine wp_forget (fun W => Blk W w.heap.size #[.bool rn', .string rs', .string rd'] ∧ Below w.heap.size w W) ⟨Blk.new w _ _, (Below.refl _ _).alloc (Nat.le_refl _) _⟩ ?_
  rintro W ⟨H1, HB⟩
  obtain ⟨k1, k2, k3⟩ := H1.later3
  have HBB := Lib.hid HB
  clear H1 HB
  by_cases h : 0 ≤ s
  · have e1 : decide (0 ≤ s) = true := decide_eq_true h
    have HE := Lib.hid (show decide (c ≤ 0) = T by rw [← HT.out, e1, Bool.true_and])
    clear h
    refine wp_region_qb (by kernel_rfl) (by kernel_rfl) ?_
    repeat (first | go_big_quiet_skip | (refine wpQuiet_step (fun K hK => ?_); go_simp; (try simp (disch := omega) only [ar9]); (first | (refine hK _ ?_; clear hK K) | (apply Exists.intro; refine ⟨fun _ => ?_, hK _ ?_⟩; (first | with_reducible exact Calls.later (HS.out _) | with_reducible exact Calls.later (HI.out _) | with_reducible exact Calls.later (HC.out _)); clear hK K))))
    clear k1 k2 k3
    refine wpQuiet_nil ?_
    intro W1 hb1
    have HB := Lib.hid (chain HBB.out hb1 (Nat.le_refl _))
    clear hb1
    go_wp2
    go_ret
    exact ⟨ret_bool HE.out, HB.out⟩
  · have e1 : decide (0 ≤ s) = false := decide_eq_false h
    have HE := Lib.hid (show false = T by rw [← HT.out, e1, Bool.false_and])
    clear h
    refine wp_region_qb (by kernel_rfl) (by kernel_rfl) ?_
    repeat (first | go_big_quiet_skip | (refine wpQuiet_step (fun K hK => ?_); go_simp; (try simp (disch := omega) only [ar9]); (first | (refine hK _ ?_; clear hK K) | (apply Exists.intro; refine ⟨fun _ => ?_, hK _ ?_⟩; (first | with_reducible exact Calls.later (HS.out _) | with_reducible exact Calls.later (HI.out _) | with_reducible exact Calls.later (HC.out _)); clear hK K))))
    clear k1 k2 k3
    refine wpQuiet_nil ?_
    intro W1 hb1
    have HB := Lib.hid (chain HBB.out hb1 (Nat.le_refl _))
    clear hb1
    go_wp2
    go_ret
    exact ⟨ret_bool HE.out, HB.out⟩
end Go.Proofs.Ins

set_option linter.unusedSimpArgs false
set_option linter.unusedVariables false
namespace Go.Proofs.Ins
open Go.RowKit

/-- A list of numbers, as cells. -/
def cI (l : List Nat) (j : Nat) : List Value := [.int .i64 ((l.getD j 0 : Nat) : Int)]
theorem SOwn.mono {w : World} {base base' : Nat} {T : TypeId} {sz : Nat} {v : Value} {n : Nat} {F : Nat → List Value} (h : SOwn w base T sz v n F) (hb : base' ≤ base) : SOwn w base' T sz v n F := by
  obtain ⟨⟨h1, h2⟩, h3⟩ := h
  refine ⟨⟨h1, ?_⟩, h3⟩
  rcases h2 with h2 | ⟨g, cap, cur, hv, hg, r⟩
  · exact .inl h2
  · exact .inr ⟨g, cap, cur, hv, Nat.le_trans hb hg, r⟩
/-- A list of numbers and an error, handed back. -/
def RetW (w : World) (T : TypeId) (l : List Nat) (x : Int) (e : Ending) (w' : World) : Prop :=
  ∃ v, e = .returned (.tuple #[v, .int .i64 x]) ∧ SOwn w' w.heap.size T 1 v l.length (cI l) ∧ Below w.heap.size w w'
theorem RetW.nil {w w' : World} {T : TypeId} {x : Int} (h : Below w.heap.size w w') : RetW w T [] x (.returned (.tuple #[.slice none 0 0, .int .i64 x])) w' :=
  ⟨_, rfl, SOwn.nil _ _ _ _ _, h⟩
theorem intInfo : (Tryz.prog.info? 3).map (fun i => (i.zero.map (fun z => z.cells.size), i.size, i.bytes)) = some (some 1, 1, 8) := by kernel_rfl

end Go.Proofs.Ins

set_option linter.unusedSimpArgs false
set_option linter.unusedVariables false
namespace Go.Proofs.Ins
open Go.RowKit

theorem mem_compact {zs : List Int} {x : Int} : x ∈ Lib.compact zs ↔ x ∈ zs := by
  unfold Lib.compact Lib.compactUpTo
  rw [List.mem_map]
  constructor
  · rintro ⟨j, hj, rfl⟩
    rw [List.mem_filter] at hj
    have : j < zs.length := by simpa using hj.1
    simp [getElem!_pos, this]
  · intro hx
    obtain ⟨i, hi, rfl⟩ := List.getElem_of_mem hx
    have : ∀ j, j < zs.length → ∃ k, k ≤ j ∧ Lib.keeps zs.toArray k = true ∧ zs.toArray[k]! = zs.toArray[j]! := by
      intro j
      induction j with
      | zero => intro _; exact ⟨0, Nat.le_refl _, by simp [Lib.keeps], rfl⟩
      | succ j ih =>
        intro hj
        by_cases e : zs.toArray[j + 1]! = zs.toArray[j]!
        · obtain ⟨k, h1, h2, h3⟩ := ih (by omega)
          exact ⟨k, by omega, h2, by rw [h3, e]⟩
        · exact ⟨j + 1, Nat.le_refl _, by simp only [Lib.keeps]; exact decide_eq_true (.inr (by simpa using e)), rfl⟩
    obtain ⟨k, h1, h2, h3⟩ := this i hi
    refine ⟨k, List.mem_filter.mpr ⟨by simp; omega, h2⟩, ?_⟩
    rw [h3]; simp [getElem!_pos, hi]

theorem flat_len {F : Nat → List Value} {sz : Nat} : ∀ (n : Nat), (∀ i, i < n → (F i).length = sz) → ((List.range n).flatMap F).length = n * sz
  | 0, _ => by simp
  | n + 1, h => by
    rw [List.range_succ, List.flatMap_append, List.length_append, flat_len n (fun i hi => h i (by omega))]
    simp [h n (by omega), Nat.succ_mul]
/-- Integers, as cells. -/
def cJ (l : List Int) (j : Nat) : List Value := [.int .i64 (l.getD j 0)]
theorem cJ_flat (l : List Int) : (List.range l.length).flatMap (cJ l) = l.map (Value.int .i64) := by
  apply List.ext_getElem?
  intro j
  by_cases h : j < l.length
  · have := flatMap_get (sz := 1) (F := cJ l) l.length (fun i _ => rfl) j 0 h (by omega)
    rw [Nat.mul_one, Nat.add_zero] at this
    rw [this]; simp [cJ, h]
  · rw [List.getElem?_eq_none, List.getElem?_eq_none]
    · simpa using h
    · rw [flat_len (sz := 1) l.length (fun i _ => rfl)]; omega
theorem cJ_snoc (l : List Int) (x : Int) (j : Nat) (hj : j < l.length + 1) : (if j < l.length then cJ l j else [.int .i64 x]) = cJ (l ++ [x]) j := by
  unfold cJ
  by_cases h : j < l.length
  · rw [if_pos h]; simp [List.getElem?_append_left h]
  · obtain rfl : j = l.length := by omega
    rw [if_neg h]; simp
theorem sown_row {w : World} {base : Nat} {T : TypeId} {v : Value} {l : List Int} : SOwn w base T 1 v l.length (cJ l) ↔ w.ownsRow base T 1 v l.length (l.map (Value.int .i64)) := by
  unfold SOwn
  rw [cJ_flat]
  exact ⟨fun h => h.1, fun h => ⟨h, fun _ _ => rfl⟩⟩
theorem below_grow {B : Nat} {w0 w : World} {os : Array Obj} (h : Below B w0 w) (hB : B ≤ w.heap.size) : Below B w0 (Sort.grow w os) :=
  ⟨h.os, h.tape, h.output, by have := h.size; simp [Sort.grow]; omega, fun k hk => by rw [← h.block k hk]; exact Sort.heap_grow_old w os (by omega)⟩
theorem ownsRow_grow {w : World} {base : Nat} {T : TypeId} {v : Value} {n : Nat} {xs : List Value} {os : Array Obj} (h : w.ownsRow base T 1 v n xs) : (Sort.grow w os).ownsRow base T 1 v n xs := by
  obtain ⟨h1, h2⟩ := h
  refine ⟨h1, ?_⟩
  rcases h2 with h2 | ⟨g, cap, cur, hv, hb, hg, r⟩
  · exact .inl h2
  · exact .inr ⟨g, cap, cur, hv, hb, by rw [Sort.heap_grow_old w os (Array.getElem?_eq_some_iff.mp hg).1]; exact hg, r⟩

/-- slices.Sort of integers of the call's own. -/
theorem sort_own (w : World) (base : Nat) (v : Value) (l : List Int) (h : SOwn w base 3 1 v l.length (cJ l)) (hb : base ≤ w.heap.size) (hl : l.length < 4611686018427387904) :
    Calls Tryz.prog 131 #[v] w fun e w' => e = .returned (.tuple #[]) ∧ ∃ l' : List Int, l'.length = l.length ∧ (∀ x, x ∈ l' ↔ x ∈ l) ∧ SOwn w' base 3 1 v l'.length (cJ l') ∧ Below base w w' := by
  by_cases hv : v = .slice none 0 0
  · subst hv
    refine (Tryz.slices_Sort_int_none none 0 w).mono fun e w' ⟨he, hw⟩ => ⟨he, l, rfl, fun _ => Iff.rfl, by rw [hw]; exact h, by rw [hw]; exact Below.refl _ _⟩
  · have hr := sown_row.mp h
    obtain ⟨g, cap, rfl, h1, h2, h3, h4, h5, h6⟩ := Lib.holds_of_ownsRow hr hv
    refine (Tryz.slices_Sort_int g 0 cap l w h6 h2 hl).mono ?_
    rintro e w' ⟨he, n, os, rfl⟩
    refine ⟨he, l.mergeSort fun x y => decide (x ≤ y), by rw [List.length_mergeSort], fun x => List.mem_mergeSort, sown_row.mpr ?_, below_grow (Lib.below_putRow (Below.refl base w) h1) (by simpa [Sort.putRow, Sort.mapBlock, Sort.ahead] using hb)⟩
    refine ownsRow_grow ?_
    have := Lib.ownsRow_putRow (q := n) (k := l.length) (ys := l.mergeSort fun x y => decide (x ≤ y)) hr (by rw [List.length_mergeSort]) (Nat.le_refl _)
    rw [List.take_of_length_le (by rw [List.length_mergeSort]; omega)] at this
    rw [List.length_mergeSort]; exact this

/-- slices.Compact of integers of the call's own. -/
theorem compact_own (w : World) (base : Nat) (v : Value) (l : List Int) (h : SOwn w base 3 1 v l.length (cJ l)) (hl : l.length ≤ 9223372036854775807) :
    Calls Tryz.prog 132 #[v] w fun e w' => ∃ v' l', e = .returned v' ∧ l'.length ≤ l.length ∧ (∀ x, x ∈ l' ↔ x ∈ l) ∧ SOwn w' base 3 1 v' l'.length (cJ l') ∧ Below base w w' := by
  by_cases hv : v = .slice none 0 0
  · subst hv
    refine (Tryz.slices_Compact_int_empty none 0 w).mono fun e w' ⟨he, hw⟩ => ⟨_, l, he, Nat.le_refl _, fun _ => Iff.rfl, by rw [hw]; exact h, by rw [hw]; exact Below.refl _ _⟩
  · have hr := sown_row.mp h
    obtain ⟨g, cap, rfl, h1, h2, h3, h4, h5, h6⟩ := Lib.holds_of_ownsRow hr hv
    refine (Tryz.slices_Compact_int g 0 cap l w h6 hl h3).mono ?_
    rintro e w' ⟨he, q, rfl⟩
    have hle := Lib.compact_length_le l
    refine ⟨_, Lib.compact l, he, hle, fun x => mem_compact, sown_row.mpr ?_, Lib.below_putRow (Below.refl base w) h1⟩
    have := Lib.ownsRow_putRow (q := q) (k := (Lib.compact l).length) (ys := Lib.compact l ++ List.replicate (l.length - (Lib.compact l).length) 0) hr (by simp; omega) hle
    rw [List.take_left] at this
    exact this

/-- The claims of the first k parts. -/
def mks (l : List Prt) (k : Nat) : List Int := ((l.take k).map fun x => x.k).filter fun x => x != -1
theorem mks_zero (l : List Prt) : mks l 0 = [] := by simp [mks]
theorem mks_yes {l : List Prt} {k : Nat} (h : k < l.length) (h2 : (ix l k).k ≠ -1) : mks l (k + 1) = mks l k ++ [(ix l k).k] := by
  unfold mks; rw [take_succ_ix h]; simp [h2]
theorem mks_no {l : List Prt} {k : Nat} (h : k < l.length) (h2 : (ix l k).k = -1) : mks l (k + 1) = mks l k := by
  unfold mks; rw [take_succ_ix h]; simp [h2]
theorem mks_len (l : List Prt) (k : Nat) : (mks l k).length ≤ k := by
  unfold mks
  refine Nat.le_trans (List.length_filter_le _ _) ?_
  simp; omega
theorem mks_all {a : Agr} {c : Int} : c ∈ mks a.flatten a.flatten.length ↔ c ≠ -1 ∧ memA a c = true := by
  unfold mks memA memT
  rw [List.take_length, List.mem_filter, List.mem_map, List.any_eq_true]
  constructor
  · rintro ⟨⟨x, hx, rfl⟩, h⟩
    obtain ⟨t, ht, hx⟩ := List.mem_flatten.mp hx
    exact ⟨by simpa using h, t, ht, List.any_eq_true.mpr ⟨x, hx, by simp⟩⟩
  · rintro ⟨h, t, ht, h2⟩
    obtain ⟨x, hx, e⟩ := List.any_eq_true.mp h2
    have e : x.k = c := by simpa using e
    exact ⟨⟨x, List.mem_flatten.mpr ⟨t, ht, hx⟩, e⟩, by simpa using h⟩
/-- What members hands back. -/
def RetM (w : World) (T : TypeId) (a : Agr) (e : Ending) (w' : World) : Prop :=
  ∃ v l, e = .returned v ∧ l.length ≤ a.flatten.length ∧ (∀ c, c ∈ l ↔ c ≠ -1 ∧ memA a c = true) ∧ SOwn w' w.heap.size T 1 v l.length (cJ l) ∧ Below w.heap.size w w'

set_option maxRecDepth 100000 in
set_option maxHeartbeats 3200000 in
theorem members_any (p : Nat → Prop) (v : Value) (a : Agr) (w : World) (hA : RTiers w p v a) (la : a.length ≤ 140737488351232) (lf : a.flatten.length ≤ 1000000) :
    Calls Tryz.prog 112 #[.agg #[v]] w (RetM w 3 a) := by
  have HC := Lib.hid (fun w' (h : RTiers w' p v a) => concat_part p v a w' h la lf)
  have HA := Lib.hid hA
  have HM := Lib.hid (fun c => mks_all (a := a) (c := c))
  have HY := Lib.hid (fun k h h2 => mks_yes (l := a.flatten) (k := k) h h2)
  have HN := Lib.hid (fun k h h2 => mks_no (l := a.flatten) (k := k) h h2)
  have HL := Lib.hid (mks_len a.flatten)
  have H0 := Lib.hid (mks_zero a.flatten)
  unfold RetM
  clear hA
  generalize hmm : mks a.flatten = MK at *
  generalize hfl : a.flatten = fl at *
  clear hmm hfl
  generalize hN : fl.length = N at *
  go_enter Tryz.func112, Tryz.ntmps112
  go_wp2_with fail
  refine (HC.out _ (HA.out.on ((Below.refl _ _).alloc (Nat.le_refl _) _))).mono ?_
  rintro e w1 ⟨v1, rfl, ho1, hb1⟩
  obtain ⟨-, HB⟩ := boxes1 hb1
  have HB := Lib.hid HB
  have hz1 := HB.out.size
  have hsl := ho1.sl
  obtain ⟨a1, cap1, rfl, -, -⟩ := hsl.form
  have HSL := Lib.hid hsl
  clear ho1 hb1 hsl HC HA
  go_wp2_with fail
  go_loopw [3, 10] (fun v i wr => ∃ k : Nat, i = .int .i64 k ∧ k ≤ N ∧ SOwn wr w1.heap.size 3 1 v (MK k).length (cJ (MK k)) ∧ Below w1.heap.size w1 wr) (fun _ i _ => N - (intOf i).toNat)
  case atStart => exact ⟨0, rfl, by omega, by rw [H0.out]; exact SOwn.nil _ _ _ _ _, Below.refl _ _⟩
  case round =>
    obtain ⟨k, rfl, hk, hown, hbel⟩ := hrel
    have HO := Lib.hid hown
    have HBR := Lib.hid hbel
    have hsz := hbel.size
    by_cases hlt : k < N
    · obtain ⟨b, off, rfl, -, -, -⟩ := HSL.out.get (by omega)
      have e0 := HSL.out.cellAt rfl hbel (i := k) (j := 0) hlt (by omega)
      have e1 : wr.cell? ⟨b, off + k * 5 + 1, none⟩ = some (Value.bool (ix fl k).b) := HSL.out.cellAt rfl hbel (i := k) (j := 1) hlt (by omega)
      have e2 : wr.cell? ⟨b, off + k * 5 + 2, none⟩ = some (Value.bool (ix fl k).a.n) := HSL.out.cellAt rfl hbel (i := k) (j := 2) hlt (by omega)
      have e3 : wr.cell? ⟨b, off + k * 5 + 3, none⟩ = some (Value.string (ix fl k).a.s) := HSL.out.cellAt rfl hbel (i := k) (j := 3) hlt (by omega)
      have e4 : wr.cell? ⟨b, off + k * 5 + 4, none⟩ = some (Value.string (ix fl k).a.d) := HSL.out.cellAt rfl hbel (i := k) (j := 4) hlt (by omega)
      rw [Nat.add_zero] at e0
      have e0' : wr.cell? ⟨b, off + k * 5, none⟩ = some (Value.int .i64 (ix fl k).k) := e0
      have HYK := Lib.hid (HY.out k (by omega))
      have HNK := Lib.hid (HN.out k (by omega))
      have hlk := HL.out k
      have i1 : (0 : Int) ≤ (k : Int) := by omega
      have i2 : (k : Int) < (N : Int) := by omega
      clear e0 hown hbel HY HN HL HM
      generalize hmk1 : MK (k + 1) = M1 at *
      have HM1 := Lib.hid hmk1
      generalize hmk0 : MK k = M0 at *
      clear hmk1 hmk0
      generalize (ix fl k).k = x at *
      generalize (ix fl k).b = pb at *
      generalize (ix fl k).a.n = an at *
      generalize (ix fl k).a.s = as' at *
      generalize (ix fl k).a.d = ad at *
      by_cases hx : x = -1
      · have h1 : (x != -1) = false := by simp [hx]
        have HX := Lib.hid (HNK.out hx)
        clear HYK HNK
        go_wp2
        go_roundw
        case rel => exact ⟨k + 1, by go_num, by omega, by rw [HM1.out, HX.out]; exact HO.out.below ((Below.refl _ _).alloc (Nat.le_refl _) _) (Nat.le_refl _), HBR.out.alloc (by omega) _⟩
        case measure => simp [intOf]; omega
      · have h1 : (x != -1) = true := by simp [hx]
        have HX := Lib.hid (HYK.out hx)
        have HO2 := Lib.hid (HO.out.below ((Below.refl wr.heap.size wr).alloc (Nat.le_refl _) (.cells #[.int .i64 x, .bool pb, .bool an, .string as', .string ad] 112)) (Nat.le_refl _))
        have hz2 : (wr.alloc (.cells #[.int .i64 x, .bool pb, .bool an, .string as', .string ad] 112)).heap.size = wr.heap.size + 1 := by simp
        clear HYK HNK
        go_wp2_with (refine wpList_appendS _ _ 39 3 1 8 w1.heap.size _ _ _ [.int .i64 x] (by rfl) (by rfl) Tryz.underlying39 intInfo (by omega) (by rfl) (by rfl) (by simp [Value.oneCell']) (by rw [World.size_alloc]; rfl) HO2.out (by omega) (by omega) (by rw [World.size_alloc]; omega) ?_; intro v9 w9 ho9 hb9; have HO9 := Lib.hid ho9; have HB9 := Lib.hid hb9; clear ho9 hb9)
        go_roundw
        case rel =>
          refine ⟨k + 1, by go_num, by omega, ?_, (HBR.out.alloc (by omega) _).trans HB9.out⟩
          rw [HM1.out, HX.out, List.length_append]
          exact HO9.out.congr fun j hj => cJ_snoc _ _ j hj
        case measure => simp [intOf]; omega
    · obtain rfl : k = N := by omega
      have hnl : decide ((k : Int) < (k : Int)) = false := by simp
      have hlk := HL.out k
      have HST := Lib.hid (sort_own wr w1.heap.size u3 (MK k) hown (by omega) (by omega))
      go_wp2_with fail
      refine HST.out.mono ?_
      rintro e w2 ⟨rfl, l2, hl2, hm2, ho2, hb2⟩
      have HCP := Lib.hid (compact_own w2 w1.heap.size u3 l2 ho2 (by omega))
      have HB2 := Lib.hid (HBR.out.trans hb2)
      have HM2 := Lib.hid hm2
      clear ho2 hb2 HST hm2 hown hbel
      go_wp2_with fail
      refine HCP.out.mono ?_
      rintro e w3 ⟨v3, l3, rfl, hl3, hm3, ho3, hb3⟩
      have HO3 := Lib.hid ho3
      have HM3 := Lib.hid hm3
      have HB3 := Lib.hid (HB2.out.trans hb3)
      clear ho3 hm3 hb3
      go_wp2
      go_ret
      exact ⟨_, l3, rfl, by omega, fun c => by rw [HM3.out, HM2.out, HM.out], HO3.out.mono (by omega), chain HB.out HB3.out (Nat.le_refl _)⟩
end Go.Proofs.Ins
