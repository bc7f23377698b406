/- The walk of natural.unshift. -/
import Derived.Test.YtobbllakdjampaaGreatDoorW6
set_option linter.unusedSimpArgs false
set_option linter.unusedVariables false
namespace Go.Proofs.Ins
open Go.RowKit

/-- 'a | b << 32'. -/
theorem or_u64' (a r : Nat) (hr : r < LB) (ha : a < LB) : bits BinOp.or .u64 (a : Int) ((r : Int) * 4294967296) = ((r * LB + a : Nat) : Int) := by
  have h1 : ((r : Int) * 4294967296) = ((r * LB : Nat) : Int) := by rw [LB_eq]; omega
  have h2 : r * LB < 2 ^ 64 := by unfold LB at *; omega
  have h3 : a < 2 ^ 64 := by unfold LB at *; omega
  rw [h1, (bits_nat .u64 64 (by decide) (fun n h0 h1 => IntWalk.u64_in n (by omega)) a (r * LB) h3 h2).2]
  have e : LB = 2 ^ 32 := rfl
  rw [e] at *
  rw [Nat.or_comm, Nat.mul_comm, ← Nat.two_pow_add_eq_or_of_lt ha]

theorem shrD_conv (f : Nat → Nat) (s i : Nat) (x : Int) (hx : x = ((f (i + 1) * LB + f i : Nat) : Int)) : x / 2 ^ s % 4294967296 = ((shrD f s i : Nat) : Int) := by
  subst hx
  unfold shrD
  rw [Nat.add_comm, Nat.mul_comm, Int.natCast_emod, Int.natCast_ediv, Int.natCast_pow]; rfl

theorem shrD_lt (f : Nat → Nat) (s i : Nat) : shrD f s i < LB := Nat.mod_lt _ LB_pos

set_option maxRecDepth 100000 in
set_option maxHeartbeats 1600000 in
theorem unshift_walk (b1 o1 n c1 s x : Nat) (f : Nat → Nat) (w : World) (hn : n ≤ 1073741825) (hn0 : 0 < n) (hf : Reads w b1 o1 .u32 n f) (lf : ∀ j, j < n → f j < LB) (hs : s < 32) (hx : lv f n = x * 2 ^ s) :
    Calls Tryz.prog 146 #[.slice (some ⟨b1, o1, none⟩) n c1, .int .u64 (s : Int)] w (RetLimbs w x) := by
  have Hx := Lib.hid hx
  clear hx
  go_enter Tryz.func146, Tryz.ntmps146
  go_wp2_with (refine wpList_makeT _ _ 148 142 .u32 4 n _ rfl rfl Tryz.underlying148 u32info rfl rfl (by omega) (by omega) (by omega) ?_; intro w3 hr3 hb3 hz3)
  go_loopw [13] (fun i wr => ∃ k : Nat, i = .int .i64 k ∧ k ≤ n ∧ Row wr w.heap.size 142 .u32 n (ext (shrD (ext f n) s) k) ∧ Below w.heap.size w wr) (fun i _ => n - (intOf i).toNat)
  case atStart => exact ⟨0, rfl, by omega, hr3.congr (fun j _ => by rw [ext_out (by omega)]), hb3⟩
  case round =>
    obtain ⟨k, rfl, hk, hrow, hbel⟩ := hrel
    clear hr3 hb3 hz3
    by_cases hlt : k < n
    · have hcell := (hf.below hbel (hf.lt hn0)) k hlt
      have hold := hrow.cell (j := k) hlt
      have hfr := hrow.frozen k
      have HROW := Lib.hid hrow
      have FK := lf k hlt
      have F1 : (f k : Int) ≤ 4294967295 := by unfold LB at FK; omega
      by_cases hlt2 : k + 1 < n
      · have hcell2 := (hf.below hbel (hf.lt hn0)) (k + 1) hlt2
        have GK := lf (k + 1) hlt2
        have G1 : (f (k + 1) : Int) ≤ 4294967295 := by unfold LB at GK; omega
        have hc := shrD_conv (ext f n) s k (bits BinOp.or .u64 (f k : Int) ((f (k + 1) : Int) * 4294967296)) (by rw [ext_in hlt, ext_in hlt2]; exact or_u64' (f k) (f (k + 1)) GK FK)
        have HC := Lib.hid hc
        clear hc hrow hf lf
        go_wp2
        go_roundw
        case rel =>
          refine ⟨k + 1, by go_num, by omega, ?_, hbel.setCell (Nat.le_refl _) _⟩
          rw [HC.out]
          exact (HROW.out.set k _).congr fun j _ => ext_upd _ k _ rfl j
        case measure => simp [intOf]; omega
      · have hc := shrD_conv (ext f n) s k (f k) (by rw [ext_in hlt, ext_out (by omega)]; simp)
        have HC := Lib.hid hc
        have hnr : decide ((k : Int) + 1 < (n : Int)) = false := by simp; omega
        clear hc hrow hf lf
        go_wp2
        go_roundw
        case rel =>
          refine ⟨k + 1, by go_num, by omega, ?_, hbel.setCell (Nat.le_refl _) _⟩
          rw [HC.out]
          exact (HROW.out.set k _).congr fun j _ => ext_upd _ k _ rfl j
        case measure => simp [intOf]; omega
    · obtain rfl : k = n := by omega
      have hfin : lv (ext (shrD (ext f k) s) k) k = x := by
        rw [lv_ext (Nat.le_refl _)]
        exact shr_end hs (fun j _ => ext_lt lf j) (ext_out (Nat.le_refl _)) (by rw [lv_ext (Nat.le_refl _)]; exact Hx.out)
      have HFIN := Lib.hid hfin
      have HROW := Lib.hid hrow
      clear hfin hrow hf lf
      go_wp2_with fail
      refine (trim_row w w.heap.size k 142 _ _ (by omega) HROW.out (fun j _ => ext_lt (fun j _ => shrD_lt _ _ _) j) hbel).mono ?_
      rintro e w' ⟨a, len, cap, rfl, h1, h2, h3, h4⟩
      rw [HFIN.out] at h3
      go_wp2
      go_ret
      exact ⟨a, len, cap, rfl, h1, h2, h3, h4⟩
end Go.Proofs.Ins
