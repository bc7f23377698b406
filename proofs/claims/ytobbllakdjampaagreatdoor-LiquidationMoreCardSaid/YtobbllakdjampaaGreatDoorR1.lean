/- The walks of insolvencyref1: Normalize, strip, limbs. -/
import Derived.Test.YtobbllakdjampaaGreatDoorW10
set_option linter.unusedSimpArgs false
set_option linter.unusedVariables false
namespace Go.Proofs.Ins
open Go.RowKit

theorem bv_drop (l : List UInt8) (k : Nat) (h : ∀ j, j < k → l.getD j 0 = 0) : bv (l.drop k) = bv l := by
  induction k generalizing l with
  | zero => rfl
  | succ k ih =>
    cases l with
    | nil => rfl
    | cons x l =>
      have hx : x = 0 := by simpa using h 0 (by omega)
      rw [List.drop_succ_cons, ih l (fun j hj => by simpa using h (j + 1) (by omega)), bv_cons, hx]
      simp

theorem extract_norm (s : ByteArray) (k : Nat) (hk : k ≤ s.size) (h : ∀ j, j < k → s.data.toList.getD j 0 = 0) (h2 : k = s.size ∨ s.data.toList.getD k 0 ≠ 0) : s.extract k s.size = bn (nv s) := by
  have e : (s.extract k s.size).data.toList = s.data.toList.drop k := by
    rw [Lib.extract_data, List.take_of_length_le]
    rw [List.length_drop, size_toList]
    exact Nat.le_refl _
  have e2 : nv (s.extract k s.size) = nv s := by unfold nv; rw [e]; exact bv_drop _ _ h
  rw [← e2]
  symm
  apply bn_unique
  rw [e]
  rcases h2 with h2 | h2
  · rw [List.drop_eq_nil_of_le (by rw [size_toList]; omega)]; simp
  · rw [List.head?_drop]
    rw [List.getD_eq_getElem?_getD] at h2
    intro h3
    rw [h3] at h2
    exact h2 rfl

theorem getD_eq (s : ByteArray) (k : Nat) (h : k < s.size) : s.data.toList.getD k 0 = s[k]'h := by
  rw [List.getD_eq_getElem?_getD, List.getElem?_eq_getElem (by rw [size_toList]; exact h)]
  rfl

set_option maxRecDepth 100000 in
set_option maxHeartbeats 400000 in
theorem rNormalize_any (s : ByteArray) (w : World) (hs : s.size ≤ 9223372036854775000) :
    Calls Tryz.prog 101 #[.string s] w fun e w' => e = .returned (.string (bn (nv s))) ∧ w = w' := by
  go_enter Tryz.func101, Tryz.ntmps101
  go_wp2
  go_loop [3] (fun v => ∃ k : Nat, v = .int .i64 k ∧ k ≤ s.size ∧ Hid (∀ j, j < k → s.data.toList.getD j 0 = 0)) (fun v => s.size - (intOf v).toNat)
  case atStart => exact ⟨0, rfl, by omega, fun j hj => by omega⟩
  case round =>
    obtain ⟨k, rfl, hk, hz⟩ := hrel
    by_cases hlt : k < s.size
    · have hgd := Lib.hid (getD_eq s k hlt)
      by_cases h0 : s[k].toNat = 0
      · have h0' : (s[k].toNat : Int) = 0 := by omega
        have HZ := Lib.hid h0
        clear h0
        go_wp2
        go_round
        case rel => exact ⟨k + 1, by go_num, by omega, fun j hj => by
          by_cases e : j = k
          · subst e; rw [hgd.out]; exact UInt8.toNat_inj.mp (by rw [HZ.out]; rfl)
          · exact hz.out j (by omega)⟩
        case measure => simp [intOf]; omega
      · have h0' : ((s[k].toNat : Int) == 0) = false := by simp; omega
        have hx := Lib.hid (extract_norm s k hk hz.out (.inr (by rw [hgd.out]; intro e; rw [e] at h0; exact h0 rfl)))
        clear h0
        go_wp2
        go_ret
        exact ⟨ret_str hx.out, rfl⟩
    · obtain rfl : k = s.size := by omega
      have hx := Lib.hid (extract_norm s s.size hk hz.out (.inl rfl))
      go_wp2
      go_ret
      exact ⟨ret_str (by rw [← hx.out]; simp), rfl⟩

set_option maxHeartbeats 400000 in
theorem strip_walk (b off len cap : Nat) (xs : Nat → Nat) (n : Nat) (w : World) (hl : len ≤ 4294967296) (hcap : len ≤ cap)
   (hc : ∀ j, j < len → w.cell? ⟨b, off + j, none⟩ = some (.int .u32 (xs j)))
   (hn : n ≤ len) (hz : ∀ j, n ≤ j → j < len → xs j = 0) (hnz : n = 0 ∨ xs (n-1) ≠ 0) :
    Calls Tryz.prog 127 #[.slice (some ⟨b, off, none⟩) len cap] w fun e w' => e = .returned (.slice (some ⟨b, off, none⟩) n cap) ∧ w = w' := by
  go_enter Tryz.func127, Tryz.ntmps127
  go_wp2
  go_loop [3] (fun i => ∃ k : Nat, i = .int .i64 k ∧ n ≤ k ∧ k ≤ len) (fun i => (intOf i).toNat)
  case atStart => exact ⟨len, rfl, hn, by omega⟩
  case round =>
    obtain ⟨k, rfl, h1, h2⟩ := hrel
    by_cases hk : k = n
    · subst hk
      by_cases h0 : k = 0
      · subst h0
        go_wp2
        go_ret
        exact ⟨rfl, rfl⟩
      · have h3 : xs (k-1) ≠ 0 := by omega
        have hcell := hc (k-1) (by omega)
        clear hc hz
        have hb : ((xs (k-1) : Int) == 0) = false := by simp; omega
        go_wp2
        go_ret
        exact ⟨rfl, rfl⟩
    · have hcell := hc (k-1) (by omega)
      have hz1 := hz (k-1) (by omega) (by omega)
      clear hc hz
      rw [hz1] at hcell
      clear hz1
      go_wp2
      go_round
      case rel => exact ⟨k-1, by go_num, by omega, by omega⟩
      case measure => simp [intOf]; omega

/-- A row of the call's own, trimmed. -/
theorem strip_row (w0 : World) (b len : Nat) (T : TypeId) (f : Nat → Nat) (w : World) (hl : len ≤ 4294967296) (hr : Row w b T .u32 len f) (hf : ∀ j, j < len → f j < LB) (hbel : Below w0.heap.size w0 w) :
    Calls Tryz.prog 127 #[.slice (some ⟨b, 0, none⟩) len len] w (RetLimbs w0 (lv f len)) :=
  (strip_walk b 0 len len f (tlen f len) w hl (Nat.le_refl _) hr.reads (tlen_le f len) (tlen_zero f len) (tlen_top f len)).mono (by
    rintro e w' ⟨rfl, rfl⟩
    refine ⟨_, _, _, rfl, tlen_le f len, (by omega), ⟨f, tlen_lv f len, tlen_can hf, ?_⟩, hbel⟩
    exact .inr ⟨b, 0, rfl, fun j hj => hr.reads j (Nat.lt_of_lt_of_le hj (tlen_le f len))⟩)


theorem bn_size_lower {x : Nat} (h : 0 < (bn x).size) : 256 ^ ((bn x).size - 1) ≤ x := by
  have h1 : bnL x ≠ [] := by
    intro e
    have : (bn x).size = (bnL x).length := rfl
    rw [e] at this
    have h0 : (bn x).size = 0 := this
    omega
  have := bv_ge (bnL_head x) h1
  rw [bv_bnL] at this
  exact this

theorem limbs_can (x n : Nat) (h1 : (bn x).size ≤ 4 * n) (h2 : 4 * n ≤ (bn x).size + 3) : Can (pw (byt (bn x)) (bn x).size) n ∧ lv (pw (byt (bn x)) (bn x).size) n = x := by
  have hv : lv (pw (byt (bn x)) (bn x).size) n = x := by rw [lv_pw _ h1, bl_byt, nv_bn]
  refine ⟨⟨fun j _ => pw_lt (byt_lt _) _ j, ?_⟩, hv⟩
  rcases Nat.eq_zero_or_pos n with e | e
  · exact .inl e
  · right
    intro h0
    obtain ⟨k, rfl⟩ : ∃ k, n = k + 1 := ⟨n - 1, by omega⟩
    rw [Nat.add_sub_cancel] at h0
    rw [lv_succ, h0, Nat.mul_zero, Nat.add_zero] at hv
    have h3 := lv_lt (f := pw (byt (bn x)) (bn x).size) (n := k) (fun j _ => pw_lt (byt_lt _) _ j)
    have h4 := bn_size_lower (x := x) (by omega)
    have h5 : LB ^ k ≤ 256 ^ ((bn x).size - 1) := by rw [LB_pow]; exact Nat.pow_le_pow_right (by omega) (by omega)
    omega

set_option maxRecDepth 100000 in
set_option maxHeartbeats 800000 in
theorem rlimbs_any (s : ByteArray) (w : World) (hs : s.size ≤ 1073741824) :
    Calls Tryz.prog 105 #[.string s] w (RetLimbs w (nv s)) := by
  have hsz := bn_size_of s
  obtain ⟨t, ht⟩ : ∃ t, t = bn (nv s) := ⟨_, rfl⟩
  have HN : Hid (∀ w, Calls Tryz.prog 101 #[.string s] w fun e w' => e = .returned (.string t) ∧ w = w') := by
    rw [ht]; exact fun w => rNormalize_any s w (by omega)
  rw [← ht] at hsz
  obtain ⟨n, hn1, hn2, hn⟩ : ∃ n, t.size ≤ 4 * n ∧ 4 * n ≤ t.size + 3 ∧ Hid (n = (t.size + 3) / 4) := ⟨_, by omega, by omega, rfl⟩
  have HC := Lib.hid (limbs_can (nv s) n (by rw [← ht]; exact hn1) (by rw [← ht]; exact hn2))
  rw [← ht] at HC
  clear ht
  go_enter Tryz.func105, Tryz.ntmps105
  go_wp2_with fail
  refine (HN.out _).mono ?_; rintro e w' ⟨rfl, rfl⟩
  go_wp2_with (refine wpList_makeT _ _ 137 142 .u32 4 n _ rfl rfl Tryz.underlying137 u32info rfl rfl (by have := hn.out; omega) (by omega) (by omega) ?_; intro w1 hr1 hb1 hz1)
  go_loopw [4] (fun i wr => ∃ k : Nat, i = .int .i64 k ∧ k ≤ t.size ∧ Row wr w.heap.size 142 .u32 n (pw (byt t) k) ∧ Below w.heap.size w wr) (fun i _ => t.size - (intOf i).toNat)
  case atStart => exact ⟨0, rfl, by omega, hr1.congr (fun j _ => (pw_zero _ _).symm), hb1⟩
  case round =>
    obtain ⟨k, rfl, hk, hrow, hbel⟩ := hrel
    clear hr1 hb1 hz1
    by_cases hlt : k < t.size
    · have hcell := hrow.cell (j := k/4) (by omega)
      have hfr := hrow.frozen (k/4)
      go_wp2
      have q2 : ((k : Int) / 4).toNat = k / 4 := by omega
      have q9 : ((t.size : Int) - 1 - k).toNat = t.size - 1 - k := by omega
      refine wp_region_still_tail 23 (by kernel_rfl) (by kernel_rfl) ?_
      simp only [List.take_succ_cons, List.take_zero, List.drop_succ_cons, List.drop_zero]
      repeat (refine wpStill_step (fun K hK => ?_); go_simp; (try simp (disch := omega) only [IntWalk.i64_in, IntWalk.u64_in, IntWalk.u32_in, IntWalk.u16_in, IntWalk.u8_in, Int.tmod_eq_emod_of_nonneg, Int.tdiv_eq_ediv_of_nonneg]); (first | (refine hK _ ?_; clear hK K) | (simp (disch := omega) only [if_pos, dif_pos, if_neg, dif_neg, IntWalk.i64_in, IntWalk.u64_in, IntWalk.u32_in, IntWalk.u16_in, IntWalk.u8_in, Int.tmod_eq_emod_of_nonneg, Int.tdiv_eq_ediv_of_nonneg]; go_simp; refine hK _ ?_; clear hK K)))
      refine wpStill_nil ?_
      change wpList _ _ _ _ _ (World.drew _)
      go_wp2
      go_round
      case rel =>
        refine ⟨k+1, by go_num, by omega, ?_, (hbel.setCell (Nat.le_refl _) _).drew⟩
        have hb := byt_lt t k
        have hx := pw_low (byt_lt t) k
        have hy := pw_lt (byt_lt t) (k+1) (k/4)
        rw [pw_next, upd_same] at hy
        rw [byt_eq t k (by omega)]
        have e1 : ((byt t k : Int) % 4294967296) = (byt t k : Int) := by omega
        have e2 : (byt t k : Int) * 2 ^ (8 * (k % 4)) % 4294967296 = (byt t k : Int) * 2 ^ (8 * (k % 4)) := by
          have : byt t k * 2 ^ (8 * (k % 4)) < 4294967296 := by unfold LB at hy; omega
          have h3 : (byt t k : Int) * 2 ^ (8 * (k % 4)) = ((byt t k * 2 ^ (8 * (k % 4)) : Nat) : Int) := by push_cast; rfl
          rw [h3]; omega
        rw [e1, e2, or_u32 _ _ _ hx hy]
        exact (hrow.set (k/4) _).drew.congr fun j _ => (pw_next _ _ _).symm
      case measure => simp [intOf]; omega
    · obtain rfl : k = t.size := by omega
      have HR := Lib.hid hrow
      clear hrow
      go_wp2
      go_ret
      exact ⟨_, n, n, rfl, Nat.le_refl _, by omega, ⟨_, HC.out.2, HC.out.1, .inr ⟨_, 0, rfl, HR.out.reads⟩⟩, hbel⟩
end Go.Proofs.Ins
