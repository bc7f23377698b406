/- The walks of natural: FromUint, compare, Compare, Add, Subtract. -/
import Derived.Test.YtobbllakdjampaaGreatDoorW1
import Derived.Lib.Bytealg
set_option linter.unusedSimpArgs false
set_option linter.unusedVariables false
namespace Go.Proofs.Ins
open Go.RowKit

/-- The sign of x - y. -/
def cmpN (x y : Nat) : Int := if x < y then -1 else if y < x then 1 else 0

theorem cmpN_lt {x y : Nat} (h : x < y) : cmpN x y = -1 := by unfold cmpN; rw [if_pos h]
theorem cmpN_gt {x y : Nat} (h : y < x) : cmpN x y = 1 := by unfold cmpN; rw [if_neg (by omega), if_pos h]
theorem cmpN_eq (x : Nat) : cmpN x x = 0 := by unfold cmpN; rw [if_neg (by omega), if_neg (by omega)]

theorem compareBytes_bv : ∀ (l r : List UInt8), l.length = r.length → Lib.compareBytes l r = cmpN (bv l) (bv r) := by
  intro l
  induction l with
  | nil => intro r h; cases r with
    | nil => rfl
    | cons _ _ => simp at h
  | cons a l ih =>
    intro r h
    cases r with
    | nil => simp at h
    | cons b r =>
      have hl : l.length = r.length := by simpa using h
      unfold Lib.compareBytes
      have h1 := bv_lt l
      have h2 := bv_lt r
      rw [bv_cons, bv_cons, hl]
      rw [hl] at h1
      by_cases c1 : a < b
      · rw [if_pos c1]
        have : a.toNat < b.toNat := c1
        have : a.toNat * 256 ^ r.length + 256 ^ r.length ≤ b.toNat * 256 ^ r.length := by rw [← Nat.succ_mul]; exact Nat.mul_le_mul_right _ this
        rw [cmpN_lt (by omega)]
      · rw [if_neg c1]
        by_cases c2 : b < a
        · rw [if_pos c2]
          have : b.toNat < a.toNat := c2
          have : b.toNat * 256 ^ r.length + 256 ^ r.length ≤ a.toNat * 256 ^ r.length := by rw [← Nat.succ_mul]; exact Nat.mul_le_mul_right _ this
          rw [cmpN_gt (by omega)]
        · rw [if_neg c2, ih r hl]
          have e : a.toNat = b.toNat := by
            have c1' : ¬ a.toNat < b.toNat := c1
            have c2' : ¬ b.toNat < a.toNat := c2
            omega
          rw [e]; unfold cmpN
          congr 1
          · simp
          · congr 1; simp

set_option maxRecDepth 100000 in
set_option maxHeartbeats 400000 in
theorem text_zero (a : Option Addr) (cap : Nat) (w : World) :
    Calls Tryz.prog 116 #[.slice a 0 cap] w fun e w' => e = .returned (.string (bn 0)) ∧ Below w.heap.size w w' := by
  go_enter Tryz.func116, Tryz.ntmps116
  go_wp2_with (refine wpList_makeT _ _ 162 5 .u8 1 0 _ rfl rfl Tryz.underlying162 u8info rfl rfl (by omega) (by omega) (by omega) ?_; intro w1 hr1 hb1 hz1)
  go_loopw [11] (fun i wr => i = .int .i64 0 ∧ wr = w1) (fun i _ => 0)
  case atStart => exact ⟨rfl, rfl⟩
  case round =>
    obtain ⟨rfl, rfl⟩ := hrel
    have hcv := hr1.str (P := Tryz.prog) (src := 162) (dst := 9) 0 Tryz.underlying162 Tryz.underlying5 Tryz.underlying9
    clear hr1 hz1
    go_wp2_with (go_at_call 97; refine (normalize_any _ _ ?_).mono ?_; (rw [strF_size]; omega); rintro e w' ⟨rfl, rfl⟩)
    go_ret
    exact ⟨rfl, hb1⟩

theorem text_any (a : Option Addr) (len cap x : Nat) (w : World) (h : Limbs w a len x) (hl : len ≤ 1073741824) (hcap : len ≤ cap) :
    Calls Tryz.prog 116 #[.slice a len cap] w fun e w' => e = .returned (.string (bn x)) ∧ Below w.heap.size w w' := by
  obtain ⟨f, rfl, h2, h3⟩ := h
  rcases h3 with rfl | ⟨b, off, rfl, hr⟩
  · exact text_zero a cap w
  · exact text_walk b off len cap f w hl hcap hr h2.1

/-- The sign of an integer. -/
def sgnI (n : Int) : Int := if n < 0 then -1 else if 0 < n then 1 else 0
theorem sgnI_lt {n : Int} (h : n < 0) : sgnI n = -1 := by unfold sgnI; rw [if_pos h]
theorem sgnI_gt {n : Int} (h : 0 < n) : sgnI n = 1 := by unfold sgnI; rw [if_neg (by omega), if_pos h]
theorem sgnI_zero : sgnI 0 = 0 := rfl

set_option maxRecDepth 100000 in
set_option maxHeartbeats 400000 in
theorem sign_any (n : Int) (w : World) : Calls Tryz.prog 121 #[.int .i64 n] w fun e w' => e = .returned (.int .i64 (sgnI n)) ∧ w = w' := by
  rcases (show n < 0 ∨ 0 < n ∨ n = 0 by omega) with h1 | h1 | rfl
  · have h2 : decide (n < 0) = true := by simpa using h1
    go_enter Tryz.func121, Tryz.ntmps121
    go_wp2
    go_ret
    exact ⟨ret_int (sgnI_lt h1).symm, rfl⟩
  · go_enter Tryz.func121, Tryz.ntmps121
    go_wp2
    go_ret
    exact ⟨ret_int (sgnI_gt h1).symm, rfl⟩
  · go_enter Tryz.func121, Tryz.ntmps121
    go_wp2
    go_ret
    exact ⟨rfl, rfl⟩

theorem run_cmp0 (a b : ByteArray) (w : World) : Sem.run Tryz.prog (callFunc 156 #[Value.string a, Value.string b]) w = Sem.run Tryz.prog (do let v ← (Extern.BytealgCompare.compare #[.string a, .string b]); pure (Next.value v)) w := by kernel_rfl

theorem run_cmp (a b : ByteArray) (w : World) : Sem.run Tryz.prog (callFunc 156 #[Value.string a, Value.string b]) w = .ok (Next.value (.int .i64 (Lib.compareBytes a.data.toList b.data.toList))) w := by
  rw [run_cmp0, Sem.run_bind, Lib.run_compareString]; rfl

set_option maxRecDepth 100000 in
set_option maxHeartbeats 400000 in
theorem cmpstr_any (a b : ByteArray) (w : World) : Calls Tryz.prog 136 #[.string a, .string b] w fun e w' => e = .returned (.int .i64 (Lib.compareBytes a.data.toList b.data.toList)) ∧ w = w' := by
  have hx := fun w => run_cmp a b w
  go_enter Tryz.func136, Tryz.ntmps136
  go_wp2
  go_ret
  exact ⟨rfl, rfl⟩

set_option maxRecDepth 100000 in
set_option maxHeartbeats 400000 in
theorem strcmp_any (a b : ByteArray) (w : World) : Calls Tryz.prog 122 #[.string a, .string b] w fun e w' => e = .returned (.int .i64 (Lib.compareBytes a.data.toList b.data.toList)) ∧ w = w' := by
  go_enter Tryz.func122, Tryz.ntmps122
  go_wp2_with (go_at_call 136; refine (cmpstr_any _ _ _).mono ?_; rintro e w' ⟨rfl, rfl⟩)
  go_ret
  exact ⟨rfl, rfl⟩

theorem bn_len_lt {x y : Nat} (h : (bn x).size < (bn y).size) : x < y := by
  have h1 : (bnL x).length < (bnL y).length := h
  have h2 := bv_lt (bnL x)
  have h3 : 256 ^ ((bnL y).length - 1) ≤ bv (bnL y) := bv_ge (bnL_head y) (by intro e; rw [e] at h1; simp at h1)
  rw [bv_bnL] at h2 h3
  have : 256 ^ (bnL x).length ≤ 256 ^ ((bnL y).length - 1) := Nat.pow_le_pow_right (by omega) (by omega)
  omega

theorem bn_size_of (s : ByteArray) : (bn (nv s)).size ≤ s.size := bn_size_le (nv_lt s)

set_option maxRecDepth 100000 in
set_option maxHeartbeats 400000 in
theorem compareS_any (a b : ByteArray) (w : World) (ha : a.size ≤ 1073741824) (hb : b.size ≤ 1073741824) :
    Calls Tryz.prog 94 #[.string a, .string b] w fun e w' => e = .returned (.int .i64 (cmpN (nv a) (nv b))) ∧ w = w' := by
  have ha2 := bn_size_of a
  have hb2 := bn_size_of b
  obtain ⟨x, hx⟩ : ∃ x, x = bn (nv a) := ⟨_, rfl⟩
  obtain ⟨y, hy⟩ : ∃ y, y = bn (nv b) := ⟨_, rfl⟩
  have n1 : Calls Tryz.prog 97 #[.string a] w fun e w' => e = .returned (.string x) ∧ w = w' := by rw [hx]; exact normalize_any a w (by omega)
  have n2 : Calls Tryz.prog 97 #[.string b] w fun e w' => e = .returned (.string y) ∧ w = w' := by rw [hy]; exact normalize_any b w (by omega)
  rw [← hx] at ha2
  rw [← hy] at hb2
  have Hx := Lib.hid hx
  have Hy := Lib.hid hy
  have N1 := Lib.hid n1
  have N2 := Lib.hid n2
  clear hx hy n1 n2
  by_cases hlen : x.size = y.size
  · have hcmp : Lib.compareBytes x.data.toList y.data.toList = cmpN (nv a) (nv b) := by
      rw [compareBytes_bv _ _ hlen]
      have e1 : bv x.data.toList = nv a := by rw [Hx.out]; exact nv_bn _
      have e2 : bv y.data.toList = nv b := by rw [Hy.out]; exact nv_bn _
      rw [e1, e2]
    have HC := Lib.hid hcmp
    have HL : ((x.size : Int) == (y.size : Int)) = true := by simp; omega
    have HL2 : ((x.size : Int) != (y.size : Int)) = false := by simp; omega
    clear hcmp hlen
    go_enter Tryz.func94, Tryz.ntmps94
    go_wp2_with fail
    refine N1.out.mono ?_; rintro e w' ⟨rfl, rfl⟩
    go_wp2_with fail
    refine N2.out.mono ?_; rintro e w' ⟨rfl, rfl⟩
    go_wp2_with fail
    refine (strcmp_any _ _ _).mono ?_; rintro e w' ⟨rfl, rfl⟩
    go_wp2
    go_ret
    exact ⟨ret_int HC.out, rfl⟩
  · have HL2 : ((x.size : Int) != (y.size : Int)) = true := by simp; omega
    have hcmp : sgnI ((x.size : Int) - y.size) = cmpN (nv a) (nv b) := by
      rcases (show x.size < y.size ∨ y.size < x.size by omega) with h | h
      · rw [sgnI_lt (by omega)]
        rw [Hx.out, Hy.out] at h
        rw [cmpN_lt (bn_len_lt h)]
      · rw [sgnI_gt (by omega)]
        rw [Hx.out, Hy.out] at h
        rw [cmpN_gt (bn_len_lt h)]
    have HC := Lib.hid hcmp
    clear hcmp hlen
    go_enter Tryz.func94, Tryz.ntmps94
    go_wp2_with fail
    refine N1.out.mono ?_; rintro e w' ⟨rfl, rfl⟩
    go_wp2_with fail
    refine N2.out.mono ?_; rintro e w' ⟨rfl, rfl⟩
    go_wp2_with fail
    refine (sign_any _ _).mono ?_; rintro e w' ⟨rfl, rfl⟩
    go_wp2
    go_ret
    exact ⟨ret_int HC.out, rfl⟩
end Go.Proofs.Ins
