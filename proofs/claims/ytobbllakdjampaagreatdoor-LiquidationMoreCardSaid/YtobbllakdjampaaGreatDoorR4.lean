/- The walks of insolvencyref1: text, FromUint, plus. -/
import Derived.Test.YtobbllakdjampaaGreatDoorR3
import Derived.Test.YtobbllakdjampaaGreatDoorMem2
set_option linter.unusedSimpArgs false
set_option linter.unusedVariables false
namespace Go.Proofs.Ins
open Go.RowKit

theorem lby_four (f : Nat → Nat) (i t : Nat) (ht : t < 4) : lby f (4 * i + t) = f i / 2 ^ (8 * t) % 256 := by
  unfold lby
  rw [show (4 * i + t) / 4 = i by omega, show (4 * i + t) % 4 = t by omega]

set_option maxRecDepth 100000 in
set_option maxHeartbeats 1600000 in
theorem rtext_walk (b off len cap : Nat) (f : Nat → Nat) (w : World) (hl : len ≤ 268435456) (hcap : len ≤ cap) (hc : Reads w b off .u32 len f) (hf : ∀ j, j < len → f j < LB) (hb : 0 < len → b < w.heap.size) :
    Calls Tryz.prog 107 #[.slice (some ⟨b, off, none⟩) len cap] w fun e w' => e = .returned (.string (bn (lv f len))) ∧ Below w.heap.size w w' := by
  have hn := tlen_le f len
  have HV := Lib.hid (tlen_lv f len)
  have HS := Lib.hid (fun w' (h : w' = w) => strip_walk b off len cap f (tlen f len) w' (by omega) hcap (by rw [h]; exact hc) (tlen_le f len) (tlen_zero f len) (tlen_top f len))
  generalize tlen f len = n at *
  have HC := Lib.hid hc
  have HF := Lib.hid hf
  clear hc hf
  obtain ⟨i0, hi, hz0, hz1, hz2⟩ := info_parts u8info
  go_enter Tryz.func107, Tryz.ntmps107
  go_wp2_with fail
  refine (HS.out w rfl).mono ?_; rintro e w' ⟨rfl, rfl⟩
  go_wp2_with (refine wpList_make_own _ rfl _ _ 162 rfl w.heap.size 5 i0 (.int .u8 0) 1 Tryz.underlying162 hi hz0 hz1 .i64 .i64 _ (4 * n) rfl rfl (by omega) (by rw [hz2]; omega) (by unfold maxLen; omega) (Nat.le_refl _) ?_; intro w1 ho1 hg1)
  have hb1 : Below w.heap.size w w1 := (Below.refl _ _).grown hg1 (Nat.le_refl _) (fun k h => by cases h)
  have HO1 : Hid (ORow w1 w.heap.size 5 .u8 (.slice (some ⟨w.heap.size, 0, none⟩) 0 (4 * n)) 0 (fun j => lby f (4 * n - 1 - j))) := ho1
  clear ho1 hg1
  go_loopw [3, 4] (fun v i wr => ∃ I : Int, i = .int .i64 I ∧ -1 ≤ I ∧ I < n ∧ ORow wr w.heap.size 5 .u8 v (4 * (n - (I + 1).toNat)) (fun j => lby f (4 * n - 1 - j)) ∧ Below w.heap.size w wr) (fun _ i _ => (intOf i + 1).toNat)
  case atStart =>
    refine ⟨_, rfl, by omega, by omega, ?_, hb1⟩
    rw [show 4 * (n - ((n : Int) - 1 + 1).toNat) = 0 by omega]
    exact HO1.out
  case round =>
    obtain ⟨I, rfl, hI1, hI2, hown, hbel⟩ := hrel
    clear hb1 HO1
    have HO := Lib.hid hown
    clear hown
    by_cases h0 : I = -1
    · as_aux_lemma =>
      subst h0
      have hcv := fun wx (h : ORow wx w.heap.size 5 .u8 u3 (4 * (n - ((-1 : Int) + 1).toNat)) (fun j => lby f (4 * n - 1 - j))) => h.str (P := Tryz.prog) (src := 162) (dst := 9) Tryz.underlying162 Tryz.underlying5 Tryz.underlying9
      have hcv2 := hcv _ HO.out
      have hnv : nv (⟨((List.range (4 * (n - ((-1 : Int) + 1).toNat))).map fun j => UInt8.ofNat (lby f (4 * n - 1 - j))).toArray⟩ : ByteArray) = lv f len := by
        have h := strF_nv (fun j => lby f (4 * n - 1 - j)) (4 * n) (fun j _ => Nat.mod_lt _ (by omega))
        unfold strF at h
        rw [show 4 * (n - ((-1 : Int) + 1).toNat) = 4 * n by omega, h, ← HV.out, ← bl_lby (fun j hj => HF.out j (by omega))]
        apply bl_congr
        intro j hj
        congr 1; omega
      have hsz : (⟨((List.range (4 * (n - ((-1 : Int) + 1).toNat))).map fun j => UInt8.ofNat (lby f (4 * n - 1 - j))).toArray⟩ : ByteArray).size ≤ 9223372036854775000 := by
        have h : (⟨((List.range (4 * (n - ((-1 : Int) + 1).toNat))).map fun j => UInt8.ofNat (lby f (4 * n - 1 - j))).toArray⟩ : ByteArray).size = 4 * (n - ((-1 : Int) + 1).toNat) := strF_size _ _
        omega
      generalize (⟨((List.range (4 * (n - ((-1 : Int) + 1).toNat))).map fun j => UInt8.ofNat (lby f (4 * n - 1 - j))).toArray⟩ : ByteArray) = t at *
      have HNV := Lib.hid hnv
      clear hnv hcv HO
      go_wp2_with fail
      refine (rNormalize_any _ _ hsz).mono ?_; rintro e w' ⟨rfl, rfl⟩
      go_wp2
      go_ret
      exact ⟨ret_str (by rw [HNV.out]), hbel⟩
    · as_aux_lemma =>
      obtain ⟨m, rfl⟩ := Int.eq_ofNat_of_zero_le (show 0 ≤ I by omega)
      have hm : m < n := by omega
      have hcell := (HC.out.below hbel (hb (by omega))) m (by omega)
      have fm := HF.out m (by omega)
      have f1 : (f m : Int) ≤ 4294967295 := by unfold LB at fm; omega
      have hsz := hbel.size
      have hk : 4 * (n - ((m : Int) + 1).toNat) = 4 * (n - 1 - m) := by omega
      have HO2 : Hid (ORow wr w.heap.size 5 .u8 u3 (4 * (n - 1 - m)) (fun j => lby f (4 * n - 1 - j))) := by
        have := HO.out; rw [hk] at this; exact this
      clear HO hk
      go_wp2_with (at_builtin; refine wpList_append4 _ _ 162 5 .u8 1 w.heap.size _ _ _ (f m / 16777216 % 256) (f m / 65536 % 256) (f m / 256 % 256) (f m % 256) _ _ _ _ rfl rfl Tryz.underlying162 u8info rfl rfl (by omega) (by omega) (by omega) (by omega) HO2.out (by omega) (by omega) hsz ?_; intro v' w2 ho2 hb2)
      go_roundw
      case rel =>
        refine ⟨(m : Int) - 1, rfl, by omega, by omega, ?_, hbel.trans hb2⟩
        have e := ho2.congr (g := fun j => lby f (4 * n - 1 - j)) (fun j hj => by
          by_cases h4 : j < 4 * (n - 1 - m)
          · rw [if_pos h4]
          · rw [if_neg h4]
            rcases (show j = 4 * (n - 1 - m) ∨ j = 4 * (n - 1 - m) + 1 ∨ j = 4 * (n - 1 - m) + 2 ∨ j = 4 * (n - 1 - m) + 3 by omega) with h | h | h | h
            · rw [h, show 4 * n - 1 - 4 * (n - 1 - m) = 4 * m + 3 by omega, lby_four f m 3 (by omega)]; simp
            · rw [h, show 4 * n - 1 - (4 * (n - 1 - m) + 1) = 4 * m + 2 by omega, lby_four f m 2 (by omega), Nat.add_sub_cancel_left]; simp
            · rw [h, show 4 * n - 1 - (4 * (n - 1 - m) + 2) = 4 * m + 1 by omega, lby_four f m 1 (by omega), Nat.add_sub_cancel_left]; simp
            · rw [h, show 4 * n - 1 - (4 * (n - 1 - m) + 3) = 4 * m + 0 by omega, lby_four f m 0 (by omega), Nat.add_sub_cancel_left]; simp)
        rw [show 4 * (n - ((m : Int) - 1 + 1).toNat) = 4 * (n - 1 - m) + 4 by omega]
        exact e
      case measure => simp [intOf]
end Go.Proofs.Ins
