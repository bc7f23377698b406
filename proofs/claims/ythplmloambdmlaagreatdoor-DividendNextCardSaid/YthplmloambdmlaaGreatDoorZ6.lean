/- The walk of natural.step: a step of the long division. -/
import Derived.Test.YthplmloambdmlaaGreatDoorZ5
import Derived.Test.YthplmloambdmlaaGreatDoorZ3
import Derived.Deep.DeepCutAuto
import Derived.Deep.CutBlock

set_option linter.unusedSimpArgs false
set_option linter.unusedVariables false
namespace Go.Proofs.Ins
open Go.RowKit

theorem bitLen_pow : ∀ (k x : Nat), x < 2 ^ k → k ≤ 32 → 0 < x → 0 < Lib.bitLen x ∧ Lib.bitLen x ≤ k ∧ 2 ^ (Lib.bitLen x - 1) ≤ x ∧ x < 2 ^ Lib.bitLen x := by
  intro k
  induction k with
  | zero => intro x h _ h0; omega
  | succ k ih =>
    intro x h hk h0
    have hx : x < 2 ^ 64 := Nat.lt_of_lt_of_le h (Nat.pow_le_pow_right (by omega) (by omega))
    have e := Lib.bitLen_half x (by omega) hx
    by_cases h1 : x = 1
    · subst h1
      have e1 : Lib.bitLen 1 = 1 := by decide
      rw [e1]; exact ⟨by omega, by omega, by decide, by decide⟩
    · have h2 : x / 2 < 2 ^ k := by rw [Nat.pow_succ] at h; omega
      obtain ⟨g1, g2, g3, g4⟩ := ih (x / 2) h2 (by omega) (by omega)
      generalize Lib.bitLen (x / 2) = b at *
      rw [e]
      have p1 : 2 ^ (1 + b - 1) = 2 * 2 ^ (b - 1) := by
        rw [show 1 + b - 1 = (b - 1) + 1 by omega, Nat.pow_succ, Nat.mul_comm]
      have p2 : 2 ^ (1 + b) = 2 * 2 ^ b := by rw [Nat.add_comm, Nat.pow_succ, Nat.mul_comm]
      rw [p1, p2]; omega

/-- The leading zeros of a digit. -/
def lz (x : Nat) : Nat := 32 - Lib.bitLen x

theorem lz_spec {x : Nat} (h0 : 0 < x) (h : x < LB) : lz x < 32 ∧ LB ≤ 2 * (x * 2 ^ lz x) ∧ x * 2 ^ lz x < LB := by
  obtain ⟨g1, g2, g3, g4⟩ := bitLen_pow 32 x h (by omega) h0
  unfold lz
  generalize Lib.bitLen x = b at *
  refine ⟨by omega, ?_, ?_⟩
  · have e : LB = 2 * (2 ^ (b - 1) * 2 ^ (32 - b)) := by
      rw [← Nat.pow_add, show b - 1 + (32 - b) = 31 by omega]; rfl
    rw [e]
    exact Nat.mul_le_mul_left _ (Nat.mul_le_mul_right _ g3)
  · have e : LB = 2 ^ b * 2 ^ (32 - b) := by rw [← Nat.pow_add, show b + (32 - b) = 32 by omega]; rfl
    rw [e]
    exact Nat.mul_lt_mul_of_pos_right g4 (Nat.pow_pos (by omega))

theorem lz_call (x : Nat) (w : World) (h0 : 0 < x) (h : x < LB) :
    Calls Tryz.prog 304 #[.int .u32 (x : Int)] w fun e w' => e = .returned (.int .i64 (lz x : Nat)) ∧ w = w' := by
  obtain ⟨g1, g2, g3, g4⟩ := bitLen_pow 32 x h (by omega) h0
  refine (Tryz.bits_LeadingZeros32 (x : Int) w (by omega) (by unfold LB at h; omega)).mono ?_
  rintro e w' ⟨he, hw⟩
  refine ⟨he.trans (ret_int ?_), hw.symm⟩
  unfold lz
  rw [Int.toNat_natCast]; omega

/-- 'r << 32 | a'. -/
theorem or_u64 (r a : Nat) (hr : r < LB) (ha : a < LB) : bits BinOp.or .u64 ((r : Int) * 4294967296) a = ((r * LB + a : Nat) : Int) := by
  have h1 : ((r : Int) * 4294967296) = ((r * LB : Nat) : Int) := by rw [LB_eq]; omega
  have h2 : r * LB < 2 ^ 64 := by unfold LB at *; omega
  have h3 : a < 2 ^ 64 := by unfold LB at *; omega
  rw [h1, (bits_nat .u64 64 (by decide) (fun n h0 h1 => IntWalk.u64_in n (by omega)) (r * LB) a h2 h3).2]
  have e : LB = 2 ^ 32 := rfl
  rw [e] at *
  rw [Nat.mul_comm, ← Nat.two_pow_add_eq_or_of_lt ha]

theorem quo_conv (R a d : Nat) (hR : R < d) (ha : a < LB) : IntKind.u64.wrap (((R : Int) * (LB : Nat) + a).tdiv d) % 4294967296 = (((R * LB + a) / d : Nat) : Int) := by
  have h1 : ((R : Int) * (LB : Nat) + a) = ((R * LB + a : Nat) : Int) := by simp only [Int.natCast_add, Int.natCast_mul]
  have h2 : (R * LB + a) / d < LB := by
    apply Nat.div_lt_of_lt_mul
    have : R * LB + LB ≤ d * LB := by rw [← Nat.succ_mul]; exact Nat.mul_le_mul_right _ hR
    omega
  rw [h1, Int.tdiv_eq_ediv_of_nonneg (by omega), ← Int.natCast_ediv]
  generalize (R * LB + a) / d = q at *
  rw [LB_eq] at h2
  rw [IntWalk.u64_in _ (by omega)]; omega

/-- A quotient and a rest of one digit, handed back. -/
def RetDiv1 (w : World) (x d : Nat) (e : Ending) (w' : World) : Prop :=
  ∃ a len cap, e = .returned (.tuple #[.slice a len cap, .int .u32 ((x % d : Nat) : Int)]) ∧ len ≤ cap ∧ cap ≤ 9223372036854775807 ∧ Limbs w' a len (x / d) ∧ Below w.heap.size w w'

set_option maxRecDepth 100000 in
set_option maxHeartbeats 1600000 in
theorem divideSmall_walk (b1 o1 n c1 d : Nat) (f : Nat → Nat) (w : World) (hn : n ≤ 1073741824) (hf : Reads w b1 o1 .u32 n f) (lf : ∀ j, j < n → f j < LB) (hd0 : 0 < d) (hd : d < LB) (hn0 : 0 < n) :
    Calls Tryz.prog 303 #[.slice (some ⟨b1, o1, none⟩) n c1, .int .u32 d] w (RetDiv1 w (lv f n) d) := by
  have D0 : (0 : Int) < (d : Int) := by omega
  have D1 : (d : Int) ≤ 4294967295 := by unfold LB at hd; omega
  go_enter Tryz.func303, Tryz.ntmps303
  go_wp2_with (refine wpList_makeT _ _ 213 215 .u32 4 n _ rfl rfl Tryz.underlying213 u32info rfl rfl (by omega) (by omega) (by omega) ?_; intro w3 hr3 hb3 hz3)
  go_loopw [7, 8] (fun r i wr => ∃ (I : Int) (R : Nat), i = .int .i64 I ∧ -1 ≤ I ∧ I < n ∧ r = .int .u64 (R : Int) ∧ (∃ O, Row wr w.heap.size 215 .u32 n O ∧ DivRow f O n (I + 1).toNat d R) ∧ Below w.heap.size w wr) (fun _ i _ => (intOf i + 1).toNat)
  case atStart => exact ⟨_, 0, rfl, by omega, by omega, rfl, ⟨_, hr3, by rw [show ((n : Int) - 1 + 1).toNat = n by omega]; exact div_start _ _ _ _ hd0⟩, hb3⟩
  case round =>
    obtain ⟨I, R, rfl, hI1, hI2, rfl, ⟨O, hrow, hdiv⟩, hbel⟩ := hrel
    clear hr3 hb3 hz3
    have hR := hdiv.2.1
    by_cases h0 : I = -1
    · subst h0
      obtain ⟨e1, e2, e3⟩ := div_end hdiv
      have E1 := Lib.hid e1
      have E2 := Lib.hid e2
      have E3 := Lib.hid e3
      have HROW := Lib.hid hrow
      clear e1 e2 e3 hrow hdiv
      go_wp2_with fail
      refine (trim_row w w.heap.size n 215 _ _ (by omega) HROW.out E3.out hbel).mono ?_
      rintro e w' ⟨a, len, cap, rfl, h1, h2, h3, h4⟩
      rw [E1.out] at h3
      go_wp2
      go_ret2
      exact ⟨a, len, cap, by rw [← E2.out]; rfl, h1, h2, h3, h4⟩
    · obtain ⟨m, rfl⟩ := Int.eq_ofNat_of_zero_le (show 0 ≤ I by omega)
      rw [show ((m : Int) + 1).toNat = m + 1 by omega] at hdiv
      have hm : m < n := by omega
      have hcell := (hf.below hbel (hf.lt hn0)) m hm
      have hold := hrow.cell (j := m) hm
      have hfr := hrow.frozen m
      have hor := or_u64 R (f m) (by omega) (lf m hm)
      have hst := div_step hdiv hm (lf m hm)
      have HST := Lib.hid hst
      have HROW := Lib.hid hrow
      clear hst hrow hdiv
      have R0 : (0 : Int) ≤ (R : Int) := by omega
      have R1 : (R : Int) ≤ 4294967294 := by omega
      have FM := lf m hm
      have F1 : (f m : Int) ≤ 4294967295 := by unfold LB at FM; omega
      go_wp2
      go_roundw
      case rel =>
        refine ⟨(m : Int) - 1, (R * LB + f m) % d, rfl, by omega, by omega, ?_, ⟨upd O m ((R * LB + f m) / d), ?_, ?_⟩, hbel.setCell (Nat.le_refl _) _⟩
        · simp only [Int.natCast_emod, Int.natCast_add, Int.natCast_mul]
        · rw [quo_conv R (f m) d hR FM]
          exact HROW.out.set m _
        · rw [show ((m : Int) - 1 + 1).toNat = m by omega]; exact HST.out
      case measure => simp [intOf]

/-- 'carry | low', the low part a multiple of 2^s. -/
theorem or_shl (c u s : Nat) (hs : s < 32) (hc : c < 2 ^ s) (hu : u < LB) :
    bits BinOp.or .u32 (c : Int) ((u : Int) * 2 ^ s % 4294967296) = ((c + (u % 2 ^ (32 - s)) * 2 ^ s : Nat) : Int) := by
  have h1 : ((u : Int) * 2 ^ s % 4294967296) = (((u * 2 ^ s) % LB : Nat) : Int) := by
    rw [Int.natCast_emod, Int.natCast_mul, Int.natCast_pow]; rfl
  rw [h1, shl_low hs]
  have h2 := shl_fits (u := u) hs hc
  have h3 := or_u32 c (u % 2 ^ (32 - s)) s hc (by unfold LB at h2; exact h2)
  rw [← h3]; push_cast; rfl

theorem wrap_shl (u s : Nat) (hs : s < 32) (hu : u < LB) : IntKind.u64.wrap ((u : Int) * 2 ^ s) = ((u * 2 ^ s : Nat) : Int) := by
  have h1 : ((u : Int) * 2 ^ s) = ((u * 2 ^ s : Nat) : Int) := by rw [Int.natCast_mul, Int.natCast_pow]; rfl
  have h2 : u * 2 ^ s < LB * 2 ^ 32 := Nat.lt_of_lt_of_le (Nat.mul_lt_mul_of_pos_right hu (Nat.pow_pos (by omega))) (Nat.mul_le_mul_left _ (Nat.pow_le_pow_right (by omega) (by omega)))
  rw [h1]
  generalize u * 2 ^ s = x at *
  unfold LB at h2
  exact IntWalk.u64_in _ (by omega)

theorem shl_conv1 (c u s : Nat) (hs : s < 32) (hc : c < 2 ^ s) (hu : u < LB) :
    bits BinOp.or .u32 (c : Int) (IntKind.u64.wrap ((u : Int) * 2 ^ s) % 4294967296) = ((c + (u % 2 ^ (32 - s)) * 2 ^ s : Nat) : Int) := by
  rw [wrap_shl u s hs hu, ← or_shl c u s hs hc hu, Int.natCast_mul, Int.natCast_pow]; rfl

theorem shl_conv2 (u s : Nat) (hs : s < 32) (hu : u < LB) :
    bits BinOp.or .u32 0 (IntKind.u64.wrap ((u : Int) * 2 ^ s) / 4294967296 % 4294967296) = ((u * 2 ^ s / LB : Nat) : Int) := by
  have h1 := shl_high hs hu
  have h2 : 2 ^ s ≤ LB := by rw [LB_split (Nat.le_of_lt hs)]; exact Nat.le_mul_of_pos_left _ (Nat.pow_pos (by omega))
  rw [wrap_shl u s hs hu]
  have h3 : (((u * 2 ^ s : Nat) : Int) / 4294967296 % 4294967296) = ((u * 2 ^ s / LB : Nat) : Int) := by
    rw [LB_eq] at *
    generalize u * 2 ^ s = x at *
    omega
  rw [h3]
  generalize u * 2 ^ s / LB = q at *
  have h4 : ((0 : Int)) = ((0 : Nat) : Int) := rfl
  rw [h4, oru_u32 0 q (by omega) (by unfold LB at h2; omega), Nat.zero_or]

/-- A shifted number: a row of the call's own. -/
def RetShl (w : World) (T : TypeId) (n x : Nat) (e : Ending) (w' : World) : Prop :=
  ∃ O, e = .returned (.slice (some ⟨w.heap.size, 0, none⟩) n n) ∧ Row w' w.heap.size T .u32 n O ∧ lv O n = x ∧ (∀ j, j < n → O j < LB) ∧ Below w.heap.size w w'

set_option maxRecDepth 100000 in
set_option maxHeartbeats 1600000 in
theorem shift_walk (b1 o1 la c1 s n : Nat) (f : Nat → Nat) (w : World) (hn : n ≤ 1073741825) (hf : Reads w b1 o1 .u32 la f) (lf : ∀ j, j < la → f j < LB) (hs : s < 32) (hla : 0 < la) (hln : la ≤ n)
    (hroom : la < n ∨ f (la - 1) * 2 ^ s < LB) :
    Calls Tryz.prog 305 #[.slice (some ⟨b1, o1, none⟩) la c1, .int .u64 (s : Int), .int .i64 (n : Int)] w (RetShl w 215 n (lv f la * 2 ^ s)) := by
  go_enter Tryz.func305, Tryz.ntmps305
  go_wp2_with (refine wpList_makeT _ _ 213 215 .u32 4 n _ rfl rfl Tryz.underlying213 u32info rfl rfl (by omega) (by omega) (by omega) ?_; intro w3 hr3 hb3 hz3)
  go_loopw [15] (fun i wr => ∃ k : Nat, i = .int .i64 k ∧ k ≤ la ∧ (∃ O, Row wr w.heap.size 215 .u32 n O ∧ (k < n → ShlRow f O n k s) ∧ (k = n → lv O n = lv f la * 2 ^ s ∧ ∀ j, j < n → O j < LB)) ∧ Below w.heap.size w wr) (fun i _ => la - (intOf i).toNat)
  case atStart => exact ⟨0, rfl, by omega, ⟨_, hr3, fun _ => shl_start f n s, fun h => by omega⟩, hb3⟩
  case round =>
    obtain ⟨k, rfl, hk, ⟨O, hrow, hsh, hen⟩, hbel⟩ := hrel
    clear hr3 hb3 hz3
    by_cases hlt : k < la
    · have hcell := (hf.below hbel (hf.lt hla)) k hlt
      have hold := hrow.cell (j := k) (by omega)
      have hfr := hrow.frozen k
      have hshk := hsh (by omega)
      have fk := lf k hlt
      have F1 : (f k : Int) ≤ 4294967295 := by unfold LB at fk; omega
      have HROW := Lib.hid hrow
      have HSH := Lib.hid hshk
      have HF := Lib.hid hf
      clear hsh hen hrow hshk hf lf
      by_cases hr : k + 1 < n
      · have hold2 := HROW.out.cell (j := k + 1) (by omega)
        have hfr2 := HROW.out.frozen (k + 1)
        rw [HSH.out.2.2.2 (k + 1) (by omega)] at hold2
        go_wp2
        go_roundw
        case rel =>
          refine ⟨k + 1, by go_num, by omega, ⟨_, ?_, fun _ => shl_step HSH.out hs fk hr, fun h => by omega⟩, ?_⟩
          · rw [shl_conv1 _ _ _ hs HSH.out.2.2.1 fk, shl_conv2 _ _ hs fk]
            exact (HROW.out.set k _).set (k + 1) _
          · exact (hbel.setCell (Nat.le_refl _) _).setCell (Nat.le_refl _) _
        case measure => simp [intOf]; omega
      · obtain rfl : n = k + 1 := by omega
        obtain rfl : la = k + 1 := by omega
        have hnr : decide ((k : Int) + 1 < ((k + 1 : Nat) : Int)) = false := by simp
        have hroom' : f k * 2 ^ s < LB := by
          rcases hroom with h | h
          · omega
          · simpa using h
        have HRM := Lib.hid hroom'
        clear hroom hroom'
        go_wp2
        go_roundw
        case rel =>
          refine ⟨k + 1, by go_num, by omega, ⟨_, ?_, fun h => by omega, fun _ => shl_last HSH.out hs HRM.out⟩, ?_⟩
          · rw [shl_conv1 _ _ _ hs HSH.out.2.2.1 fk]
            exact (HROW.out.set k _)
          · exact (hbel.setCell (Nat.le_refl _) _)
        case measure => simp [intOf]
    · obtain rfl : k = la := by omega
      have hfin : lv O n = lv f k * 2 ^ s ∧ ∀ j, j < n → O j < LB := by
        by_cases hkn : k = n
        · exact hen hkn
        · have h := hsh (by omega)
          exact ⟨by rw [← h.1]; exact lv_trim (by omega) (fun j h1 h2 => h.2.2.2 j (by omega)), h.2.1⟩
      have HF := Lib.hid hfin
      have HROW := Lib.hid hrow
      clear hfin hsh hen hrow hf lf hroom
      go_wp2
      go_ret
      exact ⟨O, rfl, HROW.out, HF.out.1, HF.out.2, hbel⟩
end Go.Proofs.Ins

set_option linter.unusedSimpArgs false
set_option linter.unusedVariables false
namespace Go.Proofs.Ins
open Go.RowKit

/-- 'a | b << 32'. -/
theorem or_u64' (a r : Nat) (hr : r < LB) (ha : a < LB) : bits BinOp.or .u64 (a : Int) ((r : Int) * 4294967296) = ((r * LB + a : Nat) : Int) := by
  have h1 : ((r : Int) * 4294967296) = ((r * LB : Nat) : Int) := by rw [LB_eq]; omega
  have h2 : r * LB < 2 ^ 64 := by unfold LB at *; omega
  have h3 : a < 2 ^ 64 := by unfold LB at *; omega
  rw [h1, (bits_nat .u64 64 (by decide) (fun n h0 h1 => IntWalk.u64_in n (by omega)) a (r * LB) h3 h2).2]
  have e : LB = 2 ^ 32 := rfl
  rw [e] at *
  rw [Nat.or_comm, Nat.mul_comm, ← Nat.two_pow_add_eq_or_of_lt ha]

theorem shrD_conv (f : Nat → Nat) (s i : Nat) (x : Int) (hx : x = ((f (i + 1) * LB + f i : Nat) : Int)) : x / 2 ^ s % 4294967296 = ((shrD f s i : Nat) : Int) := by
  subst hx
  unfold shrD
  rw [Nat.add_comm, Nat.mul_comm, Int.natCast_emod, Int.natCast_ediv, Int.natCast_pow]; rfl

theorem shrD_lt (f : Nat → Nat) (s i : Nat) : shrD f s i < LB := Nat.mod_lt _ LB_pos

set_option maxRecDepth 100000 in
set_option maxHeartbeats 1600000 in
theorem unshift_walk (b1 o1 n c1 s x : Nat) (f : Nat → Nat) (w : World) (hn : n ≤ 1073741825) (hn0 : 0 < n) (hf : Reads w b1 o1 .u32 n f) (lf : ∀ j, j < n → f j < LB) (hs : s < 32) (hx : lv f n = x * 2 ^ s) :
    Calls Tryz.prog 307 #[.slice (some ⟨b1, o1, none⟩) n c1, .int .u64 (s : Int)] w (RetLimbs w x) := by
  have Hx := Lib.hid hx
  clear hx
  go_enter Tryz.func307, Tryz.ntmps307
  go_wp2_with (refine wpList_makeT _ _ 213 215 .u32 4 n _ rfl rfl Tryz.underlying213 u32info rfl rfl (by omega) (by omega) (by omega) ?_; intro w3 hr3 hb3 hz3)
  go_loopw [13] (fun i wr => ∃ k : Nat, i = .int .i64 k ∧ k ≤ n ∧ Row wr w.heap.size 215 .u32 n (ext (shrD (ext f n) s) k) ∧ Below w.heap.size w wr) (fun i _ => n - (intOf i).toNat)
  case atStart => exact ⟨0, rfl, by omega, hr3.congr (fun j _ => by rw [ext_out (by omega)]), hb3⟩
  case round =>
    obtain ⟨k, rfl, hk, hrow, hbel⟩ := hrel
    clear hr3 hb3 hz3
    by_cases hlt : k < n
    · have hcell := (hf.below hbel (hf.lt hn0)) k hlt
      have hold := hrow.cell (j := k) hlt
      have hfr := hrow.frozen k
      have HROW := Lib.hid hrow
      have FK := lf k hlt
      have F1 : (f k : Int) ≤ 4294967295 := by unfold LB at FK; omega
      by_cases hlt2 : k + 1 < n
      · have hcell2 := (hf.below hbel (hf.lt hn0)) (k + 1) hlt2
        have GK := lf (k + 1) hlt2
        have G1 : (f (k + 1) : Int) ≤ 4294967295 := by unfold LB at GK; omega
        have hc := shrD_conv (ext f n) s k (bits BinOp.or .u64 (f k : Int) ((f (k + 1) : Int) * 4294967296)) (by rw [ext_in hlt, ext_in hlt2]; exact or_u64' (f k) (f (k + 1)) GK FK)
        have HC := Lib.hid hc
        clear hc hrow hf lf
        go_wp2
        go_roundw
        case rel =>
          refine ⟨k + 1, by go_num, by omega, ?_, hbel.setCell (Nat.le_refl _) _⟩
          rw [HC.out]
          exact (HROW.out.set k _).congr fun j _ => ext_upd _ k _ rfl j
        case measure => simp [intOf]; omega
      · have hc := shrD_conv (ext f n) s k (f k) (by rw [ext_in hlt, ext_out (by omega)]; simp)
        have HC := Lib.hid hc
        have hnr : decide ((k : Int) + 1 < (n : Int)) = false := by simp; omega
        clear hc hrow hf lf
        go_wp2
        go_roundw
        case rel =>
          refine ⟨k + 1, by go_num, by omega, ?_, hbel.setCell (Nat.le_refl _) _⟩
          rw [HC.out]
          exact (HROW.out.set k _).congr fun j _ => ext_upd _ k _ rfl j
        case measure => simp [intOf]; omega
    · obtain rfl : k = n := by omega
      have hfin : lv (ext (shrD (ext f k) s) k) k = x := by
        rw [lv_ext (Nat.le_refl _)]
        exact shr_end hs (fun j _ => ext_lt lf j) (ext_out (Nat.le_refl _)) (by rw [lv_ext (Nat.le_refl _)]; exact Hx.out)
      have HFIN := Lib.hid hfin
      have HROW := Lib.hid hrow
      clear hfin hrow hf lf
      go_wp2_with fail
      refine (trim_row w w.heap.size k 215 _ _ (by omega) HROW.out (fun j _ => ext_lt (fun j _ => shrD_lt _ _ _) j) hbel).mono ?_
      rintro e w' ⟨a, len, cap, rfl, h1, h2, h3, h4⟩
      rw [HFIN.out] at h3
      go_wp2
      go_ret
      exact ⟨a, len, cap, rfl, h1, h2, h3, h4⟩
end Go.Proofs.Ins

set_option linter.unusedSimpArgs false
set_option linter.unusedVariables false
namespace Go.Proofs.Ins
open Go.RowKit

/-- The one block b may have changed. -/
structure Touch (b : Nat) (w w' : World) : Prop where
  os : w'.os = w.os
  tape : w'.tape = w.tape
  output : w'.output = w.output
  size : w'.heap.size = w.heap.size
  block : ∀ k, k ≠ b → w'.heap[k]? = w.heap[k]?

theorem Touch.refl (b : Nat) (w : World) : Touch b w w := ⟨rfl, rfl, rfl, rfl, fun _ _ => rfl⟩
theorem Touch.trans {b : Nat} {u v w : World} (h : Touch b u v) (k : Touch b v w) : Touch b u w :=
  ⟨k.os.trans h.os, k.tape.trans h.tape, k.output.trans h.output, k.size.trans h.size, fun i hi => (k.block i hi).trans (h.block i hi)⟩
theorem Touch.drewN {b : Nat} {u v : World} (h : Touch b u v) (n : Nat) : Touch b u (v.drewN n) := ⟨h.os, h.tape, h.output, h.size, h.block⟩
theorem Touch.setCell {b : Nat} {u v : World} (h : Touch b u v) {a : Addr} (ha : a.block = b) (x : Value) : Touch b u (v.setCell a x) :=
  h.trans ⟨rfl, rfl, rfl, by simp [World.setCell], fun k hk => Below.heap_setCell _ _ _ _ (by omega)⟩
theorem Touch.below {b B : Nat} {u v w : World} (h : Below B u v) (k : Touch b v w) (hB : B ≤ b) : Below B u w :=
  h.trans ⟨k.os, k.tape, k.output, Nat.le_of_eq k.size.symm, fun i hi => k.block i (by omega)⟩
theorem Reads.touch {w w' : World} {b c off : Nat} {k : IntKind} {n : Nat} {f : Nat → Nat} (h : Reads w b off k n f) (ht : Touch c w w') (hb : b ≠ c) : Reads w' b off k n f := h.block (ht.block b hb)
theorem Row.touch {w w' : World} {b c : Nat} {T : TypeId} {k : IntKind} {n : Nat} {f : Nat → Nat} (h : Row w b T k n f) (ht : Touch c w w') (hb : b ≠ c) : Row w' b T k n f := h.block (ht.block b hb)

theorem drewN_add (w : World) (a b : Nat) : (w.drewN a).drewN b = w.drewN (a + b) := by
  unfold World.drewN; simp only [Nat.add_assoc]

/-- The premises of a step: the window of n + 1 digits from off on is U, the divisor D. -/
structure StepPre (n off N : Nat) (G d : Nat → Nat) : Prop where
  n2 : 2 ≤ n
  fits : off + n + 1 ≤ N
  big : N ≤ 1073741826
  lG : ∀ j, j < N → G j < LB
  lD : ∀ j, j < n → d j < LB
  norm : LB ≤ 2 * d (n - 1)
  less : wv G off (n + 1) < lv d n * LB

theorem StepPre.tops {n off N : Nat} {G d : Nat → Nat} (h : StepPre n off N G d) :
    Tops (wv G off (n + 1)) (lv d n) (G (off + n) * LB + G (off + (n - 1))) (G (off + (n - 2))) (d (n - 1)) (d (n - 2)) (LB ^ (n - 2)) := by
  obtain ⟨m, rfl⟩ : ∃ m, n = m + 2 := ⟨n - 2, by have := h.n2; omega⟩
  have hfit := h.fits
  have f1 := h.lG (off + m) (by omega)
  have f2 := h.lD m (by omega)
  have f3 := h.less
  have f4 := h.norm
  have hp : 0 < LB ^ m := Nat.pow_pos LB_pos
  have e1 : m + 2 - 1 = m + 1 := by omega
  have e2 : m + 2 - 2 = m := by omega
  rw [e1] at f4
  rw [e1, e2]
  have g1 : wv G off (m + 2 + 1) = wv G off m + LB ^ m * G (off + m) + LB ^ m * LB * G (off + (m + 1)) + LB ^ m * LB * LB * G (off + (m + 2)) := by
    rw [wv_succ, wv_succ, wv_succ, Nat.pow_succ LB (m + 1), Nat.pow_succ LB m]
  have g2 : lv d (m + 2) = lv d m + LB ^ m * d m + LB ^ m * LB * d (m + 1) := by
    rw [lv_succ, lv_succ, Nat.pow_succ]
  have g3 := wv_lt (off := off) (k := m) h.lG (by omega)
  have g4 := lv_lt (f := d) (n := m) (fun j hj => h.lD j (by omega))
  have hLB := LB_pos
  refine ⟨hp, by unfold LB at f4; omega, f1, f2, ?_, ?_, ?_, ?_, f3, f4⟩
  · rw [g1]; generalize LB ^ m = p at *; grind
  · rw [g1]; generalize LB ^ m = p at *; grind
  · rw [g2]; generalize LB ^ m = p at *; grind
  · rw [g2]; generalize LB ^ m = p at *; grind

/-- What a step hands back: the digit of the quotient; the window holds the rest. -/
def RetStep (w : World) (T : TypeId) (bu off N n : Nat) (G d : Nat → Nat) (e : Ending) (w' : World) : Prop :=
  ∃ G', e = .returned (.int .u32 ((wv G off (n + 1) / lv d n : Nat) : Int)) ∧ Row w' bu T .u32 N G' ∧ (∀ j, j < N → G' j < LB) ∧
    (∀ j, (j < off ∨ off + n + 1 ≤ j) → G' j = G j) ∧ wv G' off (n + 1) = wv G off (n + 1) % lv d n ∧ Touch bu w w'

theorem ms_conv (g v c : Nat) (hg : g < LB) (hv : v < LB) (hc : c < LB) :
    (0 : Int) ≤ (g : Int) * v ∧ (g : Int) * v ≤ 18446744065119617025 ∧ (g : Int) * v + c ≤ 18446744073709551615 ∧ ((((g : Int) * v + c) % 4294967296) = (((g * v + c) % LB : Nat) : Int)) ∧ ((((g : Int) * v + c) / 4294967296) = (((g * v + c) / LB : Nat) : Int)) ∧
      (g * v + c) % LB < LB ∧ (g * v + c) / LB < LB := by
  have h1 : g * v ≤ 4294967295 * 4294967295 := Nat.mul_le_mul (by unfold LB at hg; omega) (by unfold LB at hv; omega)
  have h2 : ((g : Int) * v) = ((g * v : Nat) : Int) := by rw [Int.natCast_mul]
  rw [h2]
  generalize g * v = p at *
  unfold LB at *
  omega

theorem brw_nat (x y b : Nat) : brw x y b = ((if x < y + b then 1 else 0 : Nat) : Int) := by
  unfold brw
  by_cases h : x < y + b
  · rw [if_pos h, if_pos (by omega)]; rfl
  · rw [if_neg h, if_neg (by omega)]; rfl

set_option maxRecDepth 100000 in
set_option maxHeartbeats 3200000 in
theorem step_walk (bu off N n cu bd od cd : Nat) (G d : Nat → Nat) (w : World) (hp : StepPre n off N G d) (hG : Row w bu 215 .u32 N G) (hD : Reads w bd od .u32 n d) (hne : bd ≠ bu) :
    Calls Tryz.prog 306 #[.slice (some ⟨bu, off, none⟩) (n + 1) cu, .slice (some ⟨bd, od, none⟩) n cd] w (RetStep w 215 bu off N n G d) := by
  have ht := hp.tops
  have hn2 := hp.n2
  have hbig := hp.big
  have hfit := hp.fits
  have cu0 := hG.cell (j := off + n) (by omega)
  have cu1 := hG.cell (j := off + (n - 1)) (by omega)
  have cd1 := hD (n - 1) (by omega)
  have lu0 := hp.lG (off + n) (by omega)
  have lu1 := hp.lG (off + (n - 1)) (by omega)
  have lu2 := hp.lG (off + (n - 2)) (by omega)
  have ld1 := hp.lD (n - 1) (by omega)
  have ld2 := hp.lD (n - 2) (by omega)
  have cu2 := hG.cell (j := off + (n - 2)) (by omega)
  have cd2 := hD (n - 2) (by omega)
  have HP := Lib.hid hp
  have HG := Lib.hid hG
  have HD := Lib.hid hD
  clear hp hG hD
  generalize G (off + n) = u0 at *
  generalize G (off + (n - 1)) = u1 at *
  generalize G (off + (n - 2)) = u2 at *
  generalize d (n - 1) = d1 at *
  generalize d (n - 2) = d2 at *
  obtain ⟨top, htop⟩ : ∃ top, top = u0 * LB + u1 := ⟨_, rfl⟩
  have hor := or_u64 u0 u1 lu0 lu1
  rw [← htop] at hor ht
  clear htop
  have hst := ht.start
  have hd1 := ht.d_pos
  have hg1 := ht.small hst
  have hr1 : top % d1 < d1 := Nat.mod_lt _ hd1
  have t1 : (top : Int).tdiv d1 = ((top / d1 : Nat) : Int) := by rw [Int.tdiv_eq_ediv_of_nonneg (by omega), Int.natCast_ediv]
  have t2 : (top : Int).tmod d1 = ((top % d1 : Nat) : Int) := by rw [Int.tmod_eq_emod_of_nonneg (by omega), Int.natCast_emod]
  generalize top / d1 = g0 at *
  generalize top % d1 = r0 at *
  have HT := Lib.hid ht
  have HST := Lib.hid hst
  clear ht hst
  have b0 : (u0 : Int) ≤ 4294967295 := by unfold LB at lu0; omega
  have b1 : (u1 : Int) ≤ 4294967295 := by unfold LB at lu1; omega
  have b3 : (d1 : Int) ≤ 4294967295 := by unfold LB at ld1; omega
  have b4 : (0 : Int) < (d1 : Int) := by omega
  have b5 : (d2 : Int) ≤ 4294967295 := by unfold LB at ld2; omega
  have b6 : (u2 : Int) ≤ 4294967295 := by unfold LB at lu2; omega
  have b7 : (g0 : Int) ≤ 4294967297 := by unfold LB at hg1; omega
  have b8 : (r0 : Int) ≤ 4294967294 := by omega
  have q1 : IntKind.i64.wrap ((n : Int) - 1) = (n : Int) - 1 := IntWalk.i64_in _ (by omega)
  have q2 : ((n : Int) - 1).toNat = n - 1 := by omega
  have q3 : (1 : Int) ≤ n := by omega
  have q5 : ¬ d1 = 0 := by omega
  have q6 : IntKind.u64.wrap (g0 : Int) = g0 := IntWalk.u64_in _ (by omega)
  have q7 : IntKind.u64.wrap (r0 : Int) = r0 := IntWalk.u64_in _ (by omega)
  have q8 : IntKind.i64.wrap ((n : Int) - 2) = (n : Int) - 2 := IntWalk.i64_in _ (by omega)
  have q9 : ((n : Int) - 2).toNat = n - 2 := by omega
  have q10 : (2 : Int) ≤ n := by omega
  go_enter Tryz.func306, Tryz.ntmps306
  go_wp2_with fail
  refine wp_region_quiet_lit (by kernel_rfl) (by kernel_rfl) ?_
  repeat (first | go_big_quiet_skip | (refine wpQuiet_step (fun K hK => ?_); go_simp; (try simp (disch := omega) only [ar9]); (first | (refine hK _ ?_; clear hK K) | (simp (disch := omega) only [if_pos, dif_pos, if_neg, dif_neg, ar9]; go_simp; refine hK _ ?_; clear hK K))))
  refine wpQuiet_nil ?_
  intro _ hw9
  obtain ⟨nq, hw9⟩ := hw9
  subst hw9
  go_wp2_with fail
  refine wp_region_quiet_lit (by kernel_rfl) (by kernel_rfl) ?_
  repeat (first | go_big_quiet_skip | (refine wpQuiet_step (fun K hK => ?_); go_simp; (try simp (disch := omega) only [ar9]); (first | (refine hK _ ?_; clear hK K) | (simp (disch := omega) only [if_pos, dif_pos, if_neg, dif_neg, ar9]; go_simp; refine hK _ ?_; clear hK K))))
  refine wpQuiet_nil ?_
  intro _ hw9
  obtain ⟨nq, hw9⟩ := hw9
  subst hw9
  go_upto_block 0 with (fail)
  go_cut [7, 8] (fun g _ wx => ∃ gg : Nat, g = .int .u64 gg ∧ Hid (gg < LB ∧ gg ≤ wv G off (n + 1) / lv d n + 1 ∧ wv G off (n + 1) / lv d n ≤ gg) ∧ ∃ q, wx = w.drewN q)
  case first =>
    go_wp2_with fail
    go_loopw [7, 8] (fun g r wx => ∃ gg rr : Nat, g = .int .u64 gg ∧ r = .int .u64 rr ∧ Hid (Guess (wv G off (n + 1)) (lv d n) top u2 d1 d2 (LB ^ (n - 2)) gg rr) ∧ rr < LB ∧ ∃ q, wx = w.drewN q) (fun g _ _ => (intOf g).toNat)
    case atStart => exact ⟨g0, r0, rfl, rfl, HST.out, by omega, _, (by first | rfl | exact drewN_add _ _ _)⟩
    case round =>
      obtain ⟨g, r, rfl, rfl, hgs, hr, q, rfl⟩ := hrel
      clear hor t1 t2 q6 q7 b7 b8 hg1 hr1
      have hgl := HT.out.small hgs.out
      have c1 : (g : Int) ≤ 4294967297 := by unfold LB at hgl; omega
      have c2 : (r : Int) ≤ 4294967295 := by unfold LB at hr; omega
      by_cases hA : LB ≤ g
      · as_aux_lemma =>
        have hlow := HT.out.lower hgs.out (.inl hA)
        have hA' : (4294967296 : Int) ≤ g := by unfold LB at hA; omega
        have HL := Lib.hid hlow.2
        have hg0 : (1 : Int) ≤ g := by omega
        clear hlow hA
        go_wp2_with fail
        refine wp_region_quiet_lit (by kernel_rfl) (by kernel_rfl) ?_
        repeat (first | go_big_quiet_skip | (refine wpQuiet_step (fun K hK => ?_); go_simp; (try simp (disch := omega) only [ar9]); (first | (refine hK _ ?_; clear hK K) | (simp (disch := omega) only [if_pos, dif_pos, if_neg, dif_neg, ar9]; go_simp; refine hK _ ?_; clear hK K))))
        refine wpQuiet_nil ?_
        intro _ hw9
        obtain ⟨nq, hw9⟩ := hw9
        subst hw9
        by_cases hbr : LB ≤ r + d1
        · have hbr' : (4294967296 : Int) ≤ (r : Int) + d1 := by unfold LB at hbr; omega
          have hdn := HT.out.done HL.out (.inr hbr)
          have HDN := Lib.hid hdn
          clear hdn hbr
          go_wp2_with fail
          go_meet
          exact ⟨g - 1, by go_num, ⟨HDN.out.1, HDN.out.2, HL.out.ge⟩, _, (by first | rfl | exact drewN_add _ _ _)⟩
        · have hbr' : decide ((4294967296 : Int) ≤ (r : Int) + d1) = false := by unfold LB at hbr; simp; omega
          have hlt : r + d1 < LB := by omega
          clear hbr
          go_wp2_with fail
          go_roundw
          case rel => exact ⟨g - 1, r + d1, by go_num, by go_num, HL.out, hlt, _, (by first | rfl | exact drewN_add _ _ _)⟩
          case measure => simp [intOf]; omega
      · have hA' : decide ((4294967296 : Int) ≤ (g : Int)) = false := by unfold LB at hA; simp; omega
        have hgm : (g : Int) ≤ 4294967295 := by unfold LB at hA; omega
        obtain ⟨P, hP⟩ : ∃ P, P = g * d2 := ⟨_, rfl⟩
        obtain ⟨Q, hQ⟩ : ∃ Q, Q = r * LB + u2 := ⟨_, rfl⟩
        have hPl : P ≤ 4294967295 * 4294967295 := by rw [hP]; exact Nat.mul_le_mul (by omega) (by omega)
        have p1 : IntKind.u64.wrap ((g : Int) * (d2 : Int)) = (P : Int) := by
          rw [← Int.natCast_mul, ← hP]; exact IntWalk.u64_in _ (by omega)
        have p2 := or_u64 r u2 hr lu2
        rw [← hQ] at p2
        by_cases hB : Q < P
        · as_aux_lemma =>
          have hlow := HT.out.lower hgs.out (.inr (by rw [← hP, ← hQ]; exact hB))
          have hB' : (Q : Int) < P := by omega
          have HL := Lib.hid hlow.2
          have hg0 : (1 : Int) ≤ g := by have := hlow.1; omega
          clear hlow hA hB hP hQ hPl
          go_wp2_with fail
          refine wp_region_quiet_lit (by kernel_rfl) (by kernel_rfl) ?_
          repeat (first | go_big_quiet_skip | (refine wpQuiet_step (fun K hK => ?_); go_simp; (try simp (disch := omega) only [ar9]); (first | (refine hK _ ?_; clear hK K) | (simp (disch := omega) only [if_pos, dif_pos, if_neg, dif_neg, ar9]; go_simp; refine hK _ ?_; clear hK K))))
          refine wpQuiet_nil ?_
          intro _ hw9
          obtain ⟨nq, hw9⟩ := hw9
          subst hw9
          by_cases hbr : LB ≤ r + d1
          · have hbr' : (4294967296 : Int) ≤ (r : Int) + d1 := by unfold LB at hbr; omega
            have hdn := HT.out.done HL.out (.inr hbr)
            have HDN := Lib.hid hdn
            clear hdn hbr
            go_wp2_with fail
            go_meet
            exact ⟨g - 1, by go_num, ⟨HDN.out.1, HDN.out.2, HL.out.ge⟩, _, (by first | rfl | exact drewN_add _ _ _)⟩
          · have hbr' : decide ((4294967296 : Int) ≤ (r : Int) + d1) = false := by unfold LB at hbr; simp; omega
            have hlt : r + d1 < LB := by omega
            clear hbr
            go_wp2_with fail
            go_roundw
            case rel => exact ⟨g - 1, r + d1, by go_num, by go_num, HL.out, hlt, _, (by first | rfl | exact drewN_add _ _ _)⟩
            case measure => simp [intOf]; omega
        · as_aux_lemma =>
          have hB' : decide (Q < P) = false := by simp; omega
          have hdn := HT.out.done hgs.out (.inl ⟨by omega, by rw [← hP, ← hQ]; omega⟩)
          have HDN := Lib.hid hdn
          clear hdn hA hB hP hQ hPl
          go_wp2_with fail
          refine wp_region_quiet_lit (by kernel_rfl) (by kernel_rfl) ?_
          repeat (first | go_big_quiet_skip | (refine wpQuiet_step (fun K hK => ?_); go_simp; (try simp (disch := omega) only [ar9]); (first | (refine hK _ ?_; clear hK K) | (simp (disch := omega) only [if_pos, dif_pos, if_neg, dif_neg, ar9]; go_simp; refine hK _ ?_; clear hK K))))
          refine wpQuiet_nil ?_
          intro _ hw9
          obtain ⟨nq, hw9⟩ := hw9
          subst hw9
          go_wp2_with fail
          go_meet
          exact ⟨g, rfl, ⟨HDN.out.1, HDN.out.2, hgs.out.ge⟩, _, (by first | rfl | exact drewN_add _ _ _)⟩
  case rest =>
    obtain ⟨g, rfl, hg, q, rfl⟩ := hcut
    clear hor t1 t2 q6 q7 b7 b8 hg1 hr1 HST cu0 cu1 cu2 cd1 cd2 q1 q2 q3 q5 q8 q9 q10
    have hgl := hg.out.1
    go_wp2_with fail
    go_loopw [9, 10, 84] (fun c b i wx => ∃ k C B : Nat, i = .int .i64 k ∧ k ≤ n ∧ c = .int .u64 (C : Int) ∧ b = .int .u32 (B : Int) ∧ (∃ G', MulSub N off g k C B d G G' ∧ Row wx bu 215 .u32 N G') ∧ Touch bu w wx) (fun _ _ i _ => n - (intOf i).toNat)
    case atStart => exact ⟨0, 0, 0, rfl, by omega, rfl, rfl, ⟨G, msub_start HP.out.lG, HG.out.drewN q⟩, (Touch.refl _ _).drewN q⟩
    case round =>
      obtain ⟨k, C, B, rfl, hk, rfl, rfl, ⟨G', hms, hrow⟩, htch⟩ := hrel
      have hC := hms.c_lt
      have hB := hms.b_le
      by_cases hlt : k < n
      · as_aux_lemma =>
        have hcd := (HD.out.touch htch hne) k hlt
        have hcu := hrow.cell (j := off + k) (by omega)
        have hfr := hrow.frozen (off + k)
        have dk := HP.out.lD k hlt
        have xk := hms.lt (off + k) (by omega)
        obtain ⟨v1, v2, v3, v4, v5, v6, v7⟩ := ms_conv g (d k) C hgl dk hC
        have hbd := borrow_digit xk v6 hB
        have hst := msub_step hms hgl dk (by omega) rfl hbd.2.2 hbd.2.1
        have HST := Lib.hid hst
        have HBD := Lib.hid hbd.1
        have HBW := Lib.hid (brw_nat (G' (off + k)) ((g * d k + C) % LB) B)
        have HROW := Lib.hid hrow
        have HV4 := Lib.hid v4
        have HV5 := Lib.hid v5
        clear hst hbd hrow hms v4 v5
        have x1 : (G' (off + k) : Int) ≤ 4294967295 := by unfold LB at xk; omega
        have x2 : (B : Int) ≤ 1 := by omega
        have x3 : (d k : Int) ≤ 4294967295 := by unfold LB at dk; omega
        have x4 : (C : Int) ≤ 4294967295 := by unfold LB at hC; omega
        have x5 : (g : Int) ≤ 4294967295 := by unfold LB at hgl; omega
        go_wp2_with (go_at_call 283; refine (sub32_any _ _ _ _ (by omega) x1 (by omega) (by omega) (by omega) x2).mono ?_; rintro e w' ⟨rfl, rfl⟩)
        go_roundw
        case rel =>
          rw [HV4.out, HV5.out]
          refine ⟨k + 1, _, _, by go_num, by omega, rfl, by rw [HBW.out], ⟨_, HST.out, ?_⟩, htch.setCell rfl _⟩
          rw [HBD.out]
          exact HROW.out.set _ _
        case measure => simp [intOf]; omega
      · obtain rfl : k = n := by omega
        have hcu := hrow.cell (j := off + k) (by omega)
        have hfr := hrow.frozen (off + k)
        have xk := hms.lt (off + k) (by omega)
        have x1 : (G' (off + k) : Int) ≤ 4294967295 := by unfold LB at xk; omega
        have x2 : (B : Int) ≤ 1 := by omega
        have x4 : (C : Int) ≤ 4294967295 := by unfold LB at hC; omega
        have x5 : (g : Int) ≤ 4294967295 := by unfold LB at hgl; omega
        have HVP := Lib.hid HT.out.V_pos
        have hbd := borrow_digit xk hC hB
        have hbwn := brw_nat (G' (off + k)) C B
        by_cases hbb : G' (off + k) < C + B
        · rw [if_pos hbb, Nat.mul_one] at hbd
          rw [if_pos hbb] at hbwn
          have hdk : ∃ dk, dk = G' (off + k) + LB - C - B := ⟨_, rfl⟩
          obtain ⟨dk, hdk⟩ := hdk
          rw [← hdk] at hbd
          have hst := msub_last (dk := dk) hms (by omega) rfl (by rw [if_pos hbb, Nat.mul_one]; exact hbd.2.2) hbd.2.1
          rw [if_pos hbb, Nat.mul_one] at hst
          have hq := step_wrong hg.out.2.1 HVP.out hst.1 (wv_lt hst.2.2 (by omega))
          have HST := Lib.hid hst
          have HBD := Lib.hid hbd.1
          have HQ := Lib.hid hq
          have hbw : brw (G' (off + k) : Int) (C : Int) (B : Int) = 1 := hbwn
          have hrow2 := hrow.set (off + k) dk
          have HROW := Lib.hid hrow2
          clear hst hbd hq hbwn hdk hbb hms hrow2 hrow
          as_aux_lemma =>
            have hbd1 := HBD.out
            have hfd : ((1 : Int) == 0) = false := rfl
            have hg1 : (1 : Int) ≤ g := by have h := HQ.out.1; generalize wv G off (k + 1) / lv d k = y at h; omega
            have hR : wv G off (k + 1) % lv d k < LB ^ (k + 1) := by
              have h1 := Nat.mod_lt (wv G off (k + 1)) HVP.out
              have h2 := lv_lt (f := d) (n := k) HP.out.lD
              have h3 : LB ^ k ≤ LB ^ (k + 1) := Nat.pow_le_pow_right LB_pos (by omega)
              omega
            have HR := Lib.hid hR
            clear hR
            go_wp2_with (go_at_call 283; refine (sub32_any _ _ _ _ (by omega) x1 (by omega) x4 (by omega) x2).mono ?_; rintro e w' ⟨rfl, rfl⟩)
            clear hbd1 hbw hcu hfr
            go_loopw [14, 132] (fun c i wy => ∃ m C3 : Nat, i = .int .i64 m ∧ m ≤ k ∧ c = .int .u32 (C3 : Int) ∧ (∃ G3, AddBack N off m C3 d (upd G' (off + k) dk) G3 ∧ Row wy bu 215 .u32 N G3) ∧ Touch bu w wy) (fun _ i _ => k - (intOf i).toNat)
            case atStart => exact ⟨0, 0, rfl, by omega, rfl, ⟨_, aback_start HST.out.2.2, HROW.out⟩, htch.setCell rfl _⟩
            case round =>
              obtain ⟨m, C3, rfl, hm, rfl, ⟨G3, hab, hrow3⟩, htch3⟩ := hrel
              have hc3 := hab.c_le
              have z2 : (C3 : Int) ≤ 1 := by omega
              by_cases hlt3 : m < k
              · as_aux_lemma =>
                have hcd := (HD.out.touch htch3 hne) m hlt3
                have hcu := hrow3.cell (j := off + m) (by omega)
                have hfr := hrow3.frozen (off + m)
                have dm := HP.out.lD m hlt3
                have xm := hab.lt (off + m) (by omega)
                have hst := aback_step hab dm (by omega) rfl
                have HST3 := Lib.hid hst
                have HROW3 := Lib.hid hrow3
                have z1 : (G3 (off + m) : Int) ≤ 4294967295 := by unfold LB at xm; omega
                have z3 : (d m : Int) ≤ 4294967295 := by unfold LB at dm; omega
                have e1 : (((G3 (off + m) : Int) + d m + C3) % 4294967296) = (((G3 (off + m) + d m + C3) % LB : Nat) : Int) := by rw [LB_eq]; omega
                have e2 : (((G3 (off + m) : Int) + d m + C3) / 4294967296) = (((G3 (off + m) + d m + C3) / LB : Nat) : Int) := by rw [LB_eq]; omega
                have E1 := Lib.hid e1
                have E2 := Lib.hid e2
                clear hst hrow3 hab e1 e2
                go_wp2_with (go_at_call 208; refine (add32_any _ _ _ _ (by omega) z1 (by omega) z3 (by omega) z2).mono ?_; rintro e w' ⟨rfl, rfl⟩)
                go_roundw
                case rel =>
                  rw [E2.out]
                  refine ⟨m + 1, _, by go_num, by omega, rfl, ⟨_, HST3.out, ?_⟩, htch3.setCell rfl _⟩
                  rw [E1.out]
                  exact HROW3.out.set _ _
                case measure => simp [intOf]; omega
              · as_aux_lemma =>
                obtain rfl : m = k := by omega
                have hcu := hrow3.cell (j := off + m) (by omega)
                have hfr := hrow3.frozen (off + m)
                have xm := hab.lt (off + m) (by omega)
                have hst := aback_last hab (by omega) rfl HQ.out.2 HR.out
                have HST3 := Lib.hid hst
                have HROW3 := Lib.hid hrow3
                have z1 : (G3 (off + m) : Int) ≤ 4294967295 := by unfold LB at xm; omega
                have e1 : (((G3 (off + m) : Int) + C3) % 4294967296) = (((G3 (off + m) + C3) % LB : Nat) : Int) := by rw [LB_eq]; omega
                have E1 := Lib.hid e1
                have hgq : (g : Int) - 1 = ((wv G off (m + 1) / lv d m : Nat) : Int) := by have h := HQ.out.1; generalize wv G off (m + 1) / lv d m = y at *; omega
                have HGQ := Lib.hid hgq
                clear hst hrow3 hab e1 hgq
                go_wp2
                go_ret
                refine ⟨_, by rw [← HGQ.out]; rfl, ?_, HST3.out.2.2, fun j hj => (HST3.out.2.1 j hj).trans (HST.out.2.1 j hj), HST3.out.1, htch3.setCell rfl _⟩
                have h := HROW3.out.set (off + m) ((G3 (off + m) + C3) % LB)
                rw [← E1.out] at h
                exact h
        · rw [if_neg hbb, Nat.mul_zero, Nat.add_zero] at hbd
          rw [if_neg hbb] at hbwn
          have hdk : ∃ dk, dk = G' (off + k) - C - B := ⟨_, rfl⟩
          obtain ⟨dk, hdk⟩ := hdk
          rw [← hdk] at hbd
          have hst := msub_last (dk := dk) hms (by omega) rfl (by rw [if_neg hbb, Nat.mul_zero, Nat.add_zero]; exact hbd.2.2) hbd.2.1
          rw [if_neg hbb, Nat.mul_zero, Nat.add_zero] at hst
          have hq := step_right hg.out.2.1 hg.out.2.2 HVP.out hst.1
          have HST := Lib.hid hst
          have HBD := Lib.hid hbd.1
          have HQ := Lib.hid hq
          have hbw : brw (G' (off + k) : Int) (C : Int) (B : Int) = 0 := hbwn
          have hrow2 := hrow.set (off + k) dk
          have HROW := Lib.hid hrow2
          clear hst hbd hq hbwn hdk hbb hms hrow2 hrow
          as_aux_lemma =>
            go_wp2_with (go_at_call 283; refine (sub32_any _ _ _ _ (by omega) x1 (by omega) x4 (by omega) x2).mono ?_; rintro e w' ⟨rfl, rfl⟩)
            go_ret
            refine ⟨_, by rw [← HQ.out.1]; rfl, ?_, HST.out.2.2, HST.out.2.1, HQ.out.2, htch.setCell rfl _⟩
            rw [HBD.out]
            exact HROW.out
end Go.Proofs.Ins
