/- The walks of natural: divideSmall, shift, unshift; the leading zeros of a digit. -/
import Derived.Test.YtobbllakdjampaaGreatDoorW5
import Derived.Test.YtobbllakdjampaaGreatDoorMathD
import Derived.Test.YtobbllakdjampaaGreatDoorShelf
set_option linter.unusedSimpArgs false
set_option linter.unusedVariables false
namespace Go.Proofs.Ins
open Go.RowKit

theorem bitLen_pow : ∀ (k x : Nat), x < 2 ^ k → k ≤ 32 → 0 < x → 0 < Lib.bitLen x ∧ Lib.bitLen x ≤ k ∧ 2 ^ (Lib.bitLen x - 1) ≤ x ∧ x < 2 ^ Lib.bitLen x := by
  intro k
  induction k with
  | zero => intro x h _ h0; omega
  | succ k ih =>
    intro x h hk h0
    have hx : x < 2 ^ 64 := Nat.lt_of_lt_of_le h (Nat.pow_le_pow_right (by omega) (by omega))
    have e := Lib.bitLen_half x (by omega) hx
    by_cases h1 : x = 1
    · subst h1
      have e1 : Lib.bitLen 1 = 1 := by decide
      rw [e1]; exact ⟨by omega, by omega, by decide, by decide⟩
    · have h2 : x / 2 < 2 ^ k := by rw [Nat.pow_succ] at h; omega
      obtain ⟨g1, g2, g3, g4⟩ := ih (x / 2) h2 (by omega) (by omega)
      generalize Lib.bitLen (x / 2) = b at *
      rw [e]
      have p1 : 2 ^ (1 + b - 1) = 2 * 2 ^ (b - 1) := by
        rw [show 1 + b - 1 = (b - 1) + 1 by omega, Nat.pow_succ, Nat.mul_comm]
      have p2 : 2 ^ (1 + b) = 2 * 2 ^ b := by rw [Nat.add_comm, Nat.pow_succ, Nat.mul_comm]
      rw [p1, p2]; omega

/-- The leading zeros of a digit. -/
def lz (x : Nat) : Nat := 32 - Lib.bitLen x

theorem lz_spec {x : Nat} (h0 : 0 < x) (h : x < LB) : lz x < 32 ∧ LB ≤ 2 * (x * 2 ^ lz x) ∧ x * 2 ^ lz x < LB := by
  obtain ⟨g1, g2, g3, g4⟩ := bitLen_pow 32 x h (by omega) h0
  unfold lz
  generalize Lib.bitLen x = b at *
  refine ⟨by omega, ?_, ?_⟩
  · have e : LB = 2 * (2 ^ (b - 1) * 2 ^ (32 - b)) := by
      rw [← Nat.pow_add, show b - 1 + (32 - b) = 31 by omega]; rfl
    rw [e]
    exact Nat.mul_le_mul_left _ (Nat.mul_le_mul_right _ g3)
  · have e : LB = 2 ^ b * 2 ^ (32 - b) := by rw [← Nat.pow_add, show b + (32 - b) = 32 by omega]; rfl
    rw [e]
    exact Nat.mul_lt_mul_of_pos_right g4 (Nat.pow_pos (by omega))

theorem lz_call (x : Nat) (w : World) (h0 : 0 < x) (h : x < LB) :
    Calls Tryz.prog 143 #[.int .u32 (x : Int)] w fun e w' => e = .returned (.int .i64 (lz x : Nat)) ∧ w = w' := by
  obtain ⟨g1, g2, g3, g4⟩ := bitLen_pow 32 x h (by omega) h0
  refine (Tryz.bits_LeadingZeros32 (x : Int) w (by omega) (by unfold LB at h; omega)).mono ?_
  rintro e w' ⟨he, hw⟩
  refine ⟨he.trans (ret_int ?_), hw.symm⟩
  unfold lz
  rw [Int.toNat_natCast]; omega

/-- 'r << 32 | a'. -/
theorem or_u64 (r a : Nat) (hr : r < LB) (ha : a < LB) : bits BinOp.or .u64 ((r : Int) * 4294967296) a = ((r * LB + a : Nat) : Int) := by
  have h1 : ((r : Int) * 4294967296) = ((r * LB : Nat) : Int) := by rw [LB_eq]; omega
  have h2 : r * LB < 2 ^ 64 := by unfold LB at *; omega
  have h3 : a < 2 ^ 64 := by unfold LB at *; omega
  rw [h1, (bits_nat .u64 64 (by decide) (fun n h0 h1 => IntWalk.u64_in n (by omega)) (r * LB) a h2 h3).2]
  have e : LB = 2 ^ 32 := rfl
  rw [e] at *
  rw [Nat.mul_comm, ← Nat.two_pow_add_eq_or_of_lt ha]

theorem quo_conv (R a d : Nat) (hR : R < d) (ha : a < LB) : IntKind.u64.wrap (((R : Int) * (LB : Nat) + a).tdiv d) % 4294967296 = (((R * LB + a) / d : Nat) : Int) := by
  have h1 : ((R : Int) * (LB : Nat) + a) = ((R * LB + a : Nat) : Int) := by simp only [Int.natCast_add, Int.natCast_mul]
  have h2 : (R * LB + a) / d < LB := by
    apply Nat.div_lt_of_lt_mul
    have : R * LB + LB ≤ d * LB := by rw [← Nat.succ_mul]; exact Nat.mul_le_mul_right _ hR
    omega
  rw [h1, Int.tdiv_eq_ediv_of_nonneg (by omega), ← Int.natCast_ediv]
  generalize (R * LB + a) / d = q at *
  rw [LB_eq] at h2
  rw [IntWalk.u64_in _ (by omega)]; omega

/-- A quotient and a rest of one digit, handed back. -/
def RetDiv1 (w : World) (x d : Nat) (e : Ending) (w' : World) : Prop :=
  ∃ a len cap, e = .returned (.tuple #[.slice a len cap, .int .u32 ((x % d : Nat) : Int)]) ∧ len ≤ cap ∧ cap ≤ 9223372036854775807 ∧ Limbs w' a len (x / d) ∧ Below w.heap.size w w'

set_option maxRecDepth 100000 in
set_option maxHeartbeats 1600000 in
theorem divideSmall_walk (b1 o1 n c1 d : Nat) (f : Nat → Nat) (w : World) (hn : n ≤ 1073741824) (hf : Reads w b1 o1 .u32 n f) (lf : ∀ j, j < n → f j < LB) (hd0 : 0 < d) (hd : d < LB) (hn0 : 0 < n) :
    Calls Tryz.prog 142 #[.slice (some ⟨b1, o1, none⟩) n c1, .int .u32 d] w (RetDiv1 w (lv f n) d) := by
  have D0 : (0 : Int) < (d : Int) := by omega
  have D1 : (d : Int) ≤ 4294967295 := by unfold LB at hd; omega
  go_enter Tryz.func142, Tryz.ntmps142
  go_wp2_with (refine wpList_makeT _ _ 148 142 .u32 4 n _ rfl rfl Tryz.underlying148 u32info rfl rfl (by omega) (by omega) (by omega) ?_; intro w3 hr3 hb3 hz3)
  go_loopw [7, 8] (fun r i wr => ∃ (I : Int) (R : Nat), i = .int .i64 I ∧ -1 ≤ I ∧ I < n ∧ r = .int .u64 (R : Int) ∧ (∃ O, Row wr w.heap.size 142 .u32 n O ∧ DivRow f O n (I + 1).toNat d R) ∧ Below w.heap.size w wr) (fun _ i _ => (intOf i + 1).toNat)
  case atStart => exact ⟨_, 0, rfl, by omega, by omega, rfl, ⟨_, hr3, by rw [show ((n : Int) - 1 + 1).toNat = n by omega]; exact div_start _ _ _ _ hd0⟩, hb3⟩
  case round =>
    obtain ⟨I, R, rfl, hI1, hI2, rfl, ⟨O, hrow, hdiv⟩, hbel⟩ := hrel
    clear hr3 hb3 hz3
    have hR := hdiv.2.1
    by_cases h0 : I = -1
    · subst h0
      obtain ⟨e1, e2, e3⟩ := div_end hdiv
      have E1 := Lib.hid e1
      have E2 := Lib.hid e2
      have E3 := Lib.hid e3
      have HROW := Lib.hid hrow
      clear e1 e2 e3 hrow hdiv
      go_wp2_with fail
      refine (trim_row w w.heap.size n 142 _ _ (by omega) HROW.out E3.out hbel).mono ?_
      rintro e w' ⟨a, len, cap, rfl, h1, h2, h3, h4⟩
      rw [E1.out] at h3
      go_wp2
      go_ret2
      exact ⟨a, len, cap, by rw [← E2.out]; rfl, h1, h2, h3, h4⟩
    · obtain ⟨m, rfl⟩ := Int.eq_ofNat_of_zero_le (show 0 ≤ I by omega)
      rw [show ((m : Int) + 1).toNat = m + 1 by omega] at hdiv
      have hm : m < n := by omega
      have hcell := (hf.below hbel (hf.lt hn0)) m hm
      have hold := hrow.cell (j := m) hm
      have hfr := hrow.frozen m
      have hor := or_u64 R (f m) (by omega) (lf m hm)
      have hst := div_step hdiv hm (lf m hm)
      have HST := Lib.hid hst
      have HROW := Lib.hid hrow
      clear hst hrow hdiv
      have R0 : (0 : Int) ≤ (R : Int) := by omega
      have R1 : (R : Int) ≤ 4294967294 := by omega
      have FM := lf m hm
      have F1 : (f m : Int) ≤ 4294967295 := by unfold LB at FM; omega
      go_wp2
      go_roundw
      case rel =>
        refine ⟨(m : Int) - 1, (R * LB + f m) % d, rfl, by omega, by omega, ?_, ⟨upd O m ((R * LB + f m) / d), ?_, ?_⟩, hbel.setCell (Nat.le_refl _) _⟩
        · simp only [Int.natCast_emod, Int.natCast_add, Int.natCast_mul]
        · rw [quo_conv R (f m) d hR FM]
          exact HROW.out.set m _
        · rw [show ((m : Int) - 1 + 1).toNat = m by omega]; exact HST.out
      case measure => simp [intOf]

/-- 'carry | low', the low part a multiple of 2^s. -/
theorem or_shl (c u s : Nat) (hs : s < 32) (hc : c < 2 ^ s) (hu : u < LB) :
    bits BinOp.or .u32 (c : Int) ((u : Int) * 2 ^ s % 4294967296) = ((c + (u % 2 ^ (32 - s)) * 2 ^ s : Nat) : Int) := by
  have h1 : ((u : Int) * 2 ^ s % 4294967296) = (((u * 2 ^ s) % LB : Nat) : Int) := by
    rw [Int.natCast_emod, Int.natCast_mul, Int.natCast_pow]; rfl
  rw [h1, shl_low hs]
  have h2 := shl_fits (u := u) hs hc
  have h3 := or_u32 c (u % 2 ^ (32 - s)) s hc (by unfold LB at h2; exact h2)
  rw [← h3]; push_cast; rfl

theorem wrap_shl (u s : Nat) (hs : s < 32) (hu : u < LB) : IntKind.u64.wrap ((u : Int) * 2 ^ s) = ((u * 2 ^ s : Nat) : Int) := by
  have h1 : ((u : Int) * 2 ^ s) = ((u * 2 ^ s : Nat) : Int) := by rw [Int.natCast_mul, Int.natCast_pow]; rfl
  have h2 : u * 2 ^ s < LB * 2 ^ 32 := Nat.lt_of_lt_of_le (Nat.mul_lt_mul_of_pos_right hu (Nat.pow_pos (by omega))) (Nat.mul_le_mul_left _ (Nat.pow_le_pow_right (by omega) (by omega)))
  rw [h1]
  generalize u * 2 ^ s = x at *
  unfold LB at h2
  exact IntWalk.u64_in _ (by omega)

theorem shl_conv1 (c u s : Nat) (hs : s < 32) (hc : c < 2 ^ s) (hu : u < LB) :
    bits BinOp.or .u32 (c : Int) (IntKind.u64.wrap ((u : Int) * 2 ^ s) % 4294967296) = ((c + (u % 2 ^ (32 - s)) * 2 ^ s : Nat) : Int) := by
  rw [wrap_shl u s hs hu, ← or_shl c u s hs hc hu, Int.natCast_mul, Int.natCast_pow]; rfl

theorem shl_conv2 (u s : Nat) (hs : s < 32) (hu : u < LB) :
    bits BinOp.or .u32 0 (IntKind.u64.wrap ((u : Int) * 2 ^ s) / 4294967296 % 4294967296) = ((u * 2 ^ s / LB : Nat) : Int) := by
  have h1 := shl_high hs hu
  have h2 : 2 ^ s ≤ LB := by rw [LB_split (Nat.le_of_lt hs)]; exact Nat.le_mul_of_pos_left _ (Nat.pow_pos (by omega))
  rw [wrap_shl u s hs hu]
  have h3 : (((u * 2 ^ s : Nat) : Int) / 4294967296 % 4294967296) = ((u * 2 ^ s / LB : Nat) : Int) := by
    rw [LB_eq] at *
    generalize u * 2 ^ s = x at *
    omega
  rw [h3]
  generalize u * 2 ^ s / LB = q at *
  have h4 : ((0 : Int)) = ((0 : Nat) : Int) := rfl
  rw [h4, oru_u32 0 q (by omega) (by unfold LB at h2; omega), Nat.zero_or]

/-- A shifted number: a row of the call's own. -/
def RetShl (w : World) (T : TypeId) (n x : Nat) (e : Ending) (w' : World) : Prop :=
  ∃ O, e = .returned (.slice (some ⟨w.heap.size, 0, none⟩) n n) ∧ Row w' w.heap.size T .u32 n O ∧ lv O n = x ∧ (∀ j, j < n → O j < LB) ∧ Below w.heap.size w w'

set_option maxRecDepth 100000 in
set_option maxHeartbeats 1600000 in
theorem shift_walk (b1 o1 la c1 s n : Nat) (f : Nat → Nat) (w : World) (hn : n ≤ 1073741825) (hf : Reads w b1 o1 .u32 la f) (lf : ∀ j, j < la → f j < LB) (hs : s < 32) (hla : 0 < la) (hln : la ≤ n)
    (hroom : la < n ∨ f (la - 1) * 2 ^ s < LB) :
    Calls Tryz.prog 144 #[.slice (some ⟨b1, o1, none⟩) la c1, .int .u64 (s : Int), .int .i64 (n : Int)] w (RetShl w 142 n (lv f la * 2 ^ s)) := by
  go_enter Tryz.func144, Tryz.ntmps144
  go_wp2_with (refine wpList_makeT _ _ 148 142 .u32 4 n _ rfl rfl Tryz.underlying148 u32info rfl rfl (by omega) (by omega) (by omega) ?_; intro w3 hr3 hb3 hz3)
  go_loopw [15] (fun i wr => ∃ k : Nat, i = .int .i64 k ∧ k ≤ la ∧ (∃ O, Row wr w.heap.size 142 .u32 n O ∧ (k < n → ShlRow f O n k s) ∧ (k = n → lv O n = lv f la * 2 ^ s ∧ ∀ j, j < n → O j < LB)) ∧ Below w.heap.size w wr) (fun i _ => la - (intOf i).toNat)
  case atStart => exact ⟨0, rfl, by omega, ⟨_, hr3, fun _ => shl_start f n s, fun h => by omega⟩, hb3⟩
  case round =>
    obtain ⟨k, rfl, hk, ⟨O, hrow, hsh, hen⟩, hbel⟩ := hrel
    clear hr3 hb3 hz3
    by_cases hlt : k < la
    · have hcell := (hf.below hbel (hf.lt hla)) k hlt
      have hold := hrow.cell (j := k) (by omega)
      have hfr := hrow.frozen k
      have hshk := hsh (by omega)
      have fk := lf k hlt
      have F1 : (f k : Int) ≤ 4294967295 := by unfold LB at fk; omega
      have HROW := Lib.hid hrow
      have HSH := Lib.hid hshk
      have HF := Lib.hid hf
      clear hsh hen hrow hshk hf lf
      by_cases hr : k + 1 < n
      · have hold2 := HROW.out.cell (j := k + 1) (by omega)
        have hfr2 := HROW.out.frozen (k + 1)
        rw [HSH.out.2.2.2 (k + 1) (by omega)] at hold2
        go_wp2
        go_roundw
        case rel =>
          refine ⟨k + 1, by go_num, by omega, ⟨_, ?_, fun _ => shl_step HSH.out hs fk hr, fun h => by omega⟩, ?_⟩
          · rw [shl_conv1 _ _ _ hs HSH.out.2.2.1 fk, shl_conv2 _ _ hs fk]
            exact (HROW.out.set k _).set (k + 1) _
          · exact (hbel.setCell (Nat.le_refl _) _).setCell (Nat.le_refl _) _
        case measure => simp [intOf]; omega
      · obtain rfl : n = k + 1 := by omega
        obtain rfl : la = k + 1 := by omega
        have hnr : decide ((k : Int) + 1 < ((k + 1 : Nat) : Int)) = false := by simp
        have hroom' : f k * 2 ^ s < LB := by
          rcases hroom with h | h
          · omega
          · simpa using h
        have HRM := Lib.hid hroom'
        clear hroom hroom'
        go_wp2
        go_roundw
        case rel =>
          refine ⟨k + 1, by go_num, by omega, ⟨_, ?_, fun h => by omega, fun _ => shl_last HSH.out hs HRM.out⟩, ?_⟩
          · rw [shl_conv1 _ _ _ hs HSH.out.2.2.1 fk]
            exact (HROW.out.set k _)
          · exact (hbel.setCell (Nat.le_refl _) _)
        case measure => simp [intOf]
    · obtain rfl : k = la := by omega
      have hfin : lv O n = lv f k * 2 ^ s ∧ ∀ j, j < n → O j < LB := by
        by_cases hkn : k = n
        · exact hen hkn
        · have h := hsh (by omega)
          exact ⟨by rw [← h.1]; exact lv_trim (by omega) (fun j h1 h2 => h.2.2.2 j (by omega)), h.2.1⟩
      have HF := Lib.hid hfin
      have HROW := Lib.hid hrow
      clear hfin hsh hen hrow hf lf hroom
      go_wp2
      go_ret
      exact ⟨O, rfl, HROW.out, HF.out.1, HF.out.2, hbel⟩
end Go.Proofs.Ins
