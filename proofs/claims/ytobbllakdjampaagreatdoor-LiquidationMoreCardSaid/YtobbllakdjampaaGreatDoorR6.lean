/- The walk of insolvencyref1.shifted. -/
import Derived.Test.YtobbllakdjampaaGreatDoorR5
set_option linter.unusedSimpArgs false
set_option linter.unusedVariables false
namespace Go.Proofs.Ins
open Go.RowKit

theorem shl_conv3 (u s : Nat) (hs : s < 32) (hu : u < LB) :
    IntKind.u64.wrap ((u : Int) * 2 ^ s) / 4294967296 % 4294967296 = ((u * 2 ^ s / LB : Nat) : Int) := by
  have h1 := shl_high hs hu
  have h2 : 2 ^ s ≤ LB := by rw [LB_split (Nat.le_of_lt hs)]; exact Nat.le_mul_of_pos_left _ (Nat.pow_pos (by omega))
  rw [wrap_shl u s hs hu]
  rw [LB_eq] at *
  generalize u * 2 ^ s = x at *
  omega

set_option maxRecDepth 100000 in
set_option maxHeartbeats 1600000 in
theorem shifted_walk (b1 o1 la c1 s : Nat) (f : Nat → Nat) (w : World) (hn : la ≤ 1073741824) (hf : Reads w b1 o1 .u32 la f) (lf : ∀ j, j < la → f j < LB) (hs : s < 32) (hla : 0 < la) :
    Calls Tryz.prog 163 #[.slice (some ⟨b1, o1, none⟩) la c1, .int .u64 (s : Int)] w (RetShl w 142 (la + 1) (lv f la * 2 ^ s)) := by
  go_enter Tryz.func163, Tryz.ntmps163
  go_wp2_with (refine wpList_makeT _ _ 137 142 .u32 4 (la + 1) _ rfl rfl Tryz.underlying137 u32info rfl rfl (by omega) (by omega) (by omega) ?_; intro w3 hr3 hb3 hz3)
  go_loopw [6] (fun i wr => ∃ k : Nat, i = .int .i64 k ∧ k ≤ la ∧ (∃ O, Row wr w.heap.size 142 .u32 (la + 1) O ∧ ShlRow f O (la + 1) k s) ∧ Below w.heap.size w wr) (fun i _ => la - (intOf i).toNat)
  case atStart => exact ⟨0, rfl, by omega, ⟨_, hr3, shl_start f (la + 1) s⟩, hb3⟩
  case round =>
    obtain ⟨k, rfl, hk, ⟨O, hrow, hsh⟩, hbel⟩ := hrel
    clear hr3 hb3 hz3
    by_cases hlt : k < la
    · have hcell := (hf.below hbel (hf.lt hla)) k hlt
      have hold := hrow.cell (j := k) (by omega)
      have hfr := hrow.frozen k
      have fk := lf k hlt
      have F1 : (f k : Int) ≤ 4294967295 := by unfold LB at fk; omega
      have HROW := Lib.hid hrow
      have HSH := Lib.hid hsh
      have hold2 := HROW.out.cell (j := k + 1) (by omega)
      have hfr2 := HROW.out.frozen (k + 1)
      rw [HSH.out.2.2.2 (k + 1) (by omega)] at hold2
      clear hsh hrow hf lf
      go_wp2
      go_roundw
      case rel =>
        refine ⟨k + 1, by go_num, by omega, ⟨_, ?_, shl_step HSH.out hs fk (by omega)⟩, ?_⟩
        · rw [shl_conv1 _ _ _ hs HSH.out.2.2.1 fk, shl_conv3 _ _ hs fk]
          exact (HROW.out.set k _).set (k + 1) _
        · exact (hbel.setCell (Nat.le_refl _) _).setCell (Nat.le_refl _) _
      case measure => simp [intOf]; omega
    · obtain rfl : k = la := by omega
      have HF := Lib.hid hsh
      have HROW := Lib.hid hrow
      clear hsh hrow hf lf
      go_wp2
      go_ret
      exact ⟨O, rfl, HROW.out, HF.out.1, HF.out.2.1, hbel⟩

theorem u64_shr (x s : Nat) : ((x : Int) / 2 ^ s) = ((x / 2 ^ s : Nat) : Int) := by
  rw [Int.natCast_ediv, Int.natCast_pow]; rfl
end Go.Proofs.Ins
