/- The walk of natural.Multiply. -/
import Derived.Test.YtmephnllicleiaaGreatDoorZ5

set_option linter.unusedSimpArgs false
set_option linter.unusedVariables false
namespace Go.Proofs.Ins
open Go.RowKit

theorem nv_lt_LB (s : ByteArray) : nv s < LB ^ ((s.size + 3) / 4) := by
  rw [LB_pow]
  exact Nat.lt_of_lt_of_le (nv_lt s) (Nat.pow_le_pow_right (by omega) (by omega))

theorem sub_rel {F G C : Nat} {f g : Nat → Nat} {k lx : Nat} {w2 wr : World} {T : TypeId}
    (hF : f k = F) (hG : g k = G) (hC : bor f g k = C) (lF : F < LB) (lG : G < LB) (hrow : Row wr w2.heap.size T .u32 lx (ext (ddg f g) k)) (hbel : Below w2.heap.size w2 wr) (hk : k < lx) :
    ∃ k' : Nat, Value.int .i64 ((k : Int) + 1) = .int .i64 k' ∧ k' ≤ lx ∧ Value.int .u32 (brw F (G : Nat) C) = .int .u32 (bor f g k') ∧
      Row (wr.setCell ⟨w2.heap.size, k, none⟩ (.int .u32 (((F : Int) - (G : Nat) - C) % 4294967296))) w2.heap.size T .u32 lx (ext (ddg f g) k') ∧
      Below w2.heap.size w2 (wr.setCell ⟨w2.heap.size, k, none⟩ (.int .u32 (((F : Int) - (G : Nat) - C) % 4294967296))) := by
  have hd := ddg_eq (f := f) (g := g) (k := k) (by omega) (by omega)
  have hb := bor_le f g k
  have hs := bor_succ f g k
  rw [hF, hG, hC] at hs hd
  rw [hC] at hb
  refine ⟨k + 1, by go_num, by omega, ?_, ?_, hbel.setCell (Nat.le_refl _) _⟩
  · congr 1
    rw [hs]; unfold brw
    by_cases c : F < G + C
    · rw [if_pos c, if_pos (by omega)]; rfl
    · rw [if_neg c, if_neg (by omega)]; rfl
  · have e1 : (((F : Int) - (G : Nat) - C) % 4294967296) = ((ddg f g k : Nat) : Int) := by
      have h1 := hd.1
      have h2 := hd.2
      have h3 := bor_le f g (k + 1)
      unfold LB at *
      rcases (show bor f g (k + 1) = 0 ∨ bor f g (k + 1) = 1 by omega) with c | c <;> rw [c] at h1 <;> omega
    rw [e1]
    exact (hrow.set k _).congr fun j _ => ext_upd _ k _ rfl j

set_option maxRecDepth 100000 in
set_option maxHeartbeats 1600000 in
theorem subtract_any (ax ay : Option Addr) (lx ly cx cy x y : Nat) (w : World) (hX : Limbs w ax lx x) (hY : Limbs w ay ly y) (hle : y ≤ x) (hl : lx ≤ 1073741824) :
    Calls Tryz.prog 177 #[.slice ax lx cx, .slice ay ly cy] w (RetLimbs w (x - y)) := by
  obtain ⟨fx, hX⟩ := hX
  obtain ⟨fy, hY⟩ := hY
  have HX : Hid (LimbsF w ax lx x fx) := hX
  have HY : Hid (LimbsF w ay ly y fy) := hY
  clear hX hY
  have hly : ly ≤ lx := by
    rcases Nat.lt_or_ge lx ly with h | h
    · have := HX.out.2.1.len_lt HY.out.2.1 h
      rw [HX.out.1, HY.out.1] at this; omega
    · exact h
  go_enter Tryz.func177, Tryz.ntmps177
  go_wp2_with (refine wpList_makeT _ _ 205 207 .u32 4 lx _ rfl rfl Tryz.underlying205 u32info rfl rfl (by omega) (by omega) (by omega) ?_; intro w3 hr3 hb3 hz3)
  go_loopw [6, 7, 8, 14] (fun c _ _ i wr => ∃ k : Nat, i = .int .i64 k ∧ k ≤ lx ∧ c = .int .u32 (bor (ext fx lx) (ext fy ly) k) ∧ Row wr w.heap.size 207 .u32 lx (ext (ddg (ext fx lx) (ext fy ly)) k) ∧ Below w.heap.size w wr) (fun _ _ _ i _ => lx - (intOf i).toNat)
  case atStart => exact ⟨0, rfl, by omega, rfl, hr3.congr (fun j _ => by rw [ext_out (by omega)]), hb3⟩
  case round =>
    obtain ⟨k, rfl, hk, rfl, hrow, hbel⟩ := hrel
    clear hr3 hb3 hz3
    have c0 := bor_le (ext fx lx) (ext fy ly) k
    have fk' := ext_lt HX.out.2.1.1 k
    have gk' := ext_lt HY.out.2.1.1 k
    have FK := Lib.hid fk'
    have GK := Lib.hid gk'
    have fk := fk'
    have gk := gk'
    rw [LB_eq] at fk gk
    clear fk' gk'
    have q0 : (0 : Int) ≤ (bor (ext fx lx) (ext fy ly) k : Int) := by omega
    have q1 : (bor (ext fx lx) (ext fy ly) k : Int) ≤ 1 := by omega
    by_cases hlt : k < lx
    · rcases HX.out.2.2 with h0 | ⟨b1, o1, rfl, r1⟩
      · omega
      have hcx := (r1.below hbel (r1.lt (by omega))) k hlt
      rw [← ext_in (f := fx) hlt] at hcx
      have hold := hrow.cell (j := k) (by omega)
      have hfr := hrow.frozen k
      rw [ext_out (Nat.le_refl k)] at hold
      have f0 : (0 : Int) ≤ (ext fx lx k : Int) := by omega
      have f1 : (ext fx lx k : Int) ≤ 4294967295 := by omega
      have g0 : (0 : Int) ≤ (ext fy ly k : Int) := by omega
      have g1 : (ext fy ly k : Int) ≤ 4294967295 := by omega
      generalize hC : bor (ext fx lx) (ext fy ly) k = C at *
      generalize hF : ext fx lx k = F at *
      have HC := Lib.hid hC
      have HF := Lib.hid hF
      clear hC hF
      by_cases hlt2 : k < ly
      · rcases HY.out.2.2 with h0 | ⟨b2, o2, rfl, r2⟩
        · omega
        have hcy := (r2.below hbel (r2.lt (by omega))) k hlt2
        rw [← ext_in (f := fy) hlt2] at hcy
        generalize hG : ext fy ly k = G at *
        have HG := Lib.hid hG
        clear hG
        go_wp2_with (go_at_call 208; refine (sub32_any _ _ _ _ f0 f1 g0 g1 q0 q1).mono ?_; rintro e w' ⟨rfl, rfl⟩)
        go_roundw
        case rel => exact sub_rel HF.out HG.out HC.out FK.out GK.out hrow hbel hlt
        case measure => simp [intOf]; omega
      · have hG0 : ext fy ly k = 0 := ext_out (by omega)
        have hnn : decide ((k : Int) < (ly : Int)) = false := by simp; omega
        rw [hG0] at g0 g1 GK
        have HG := Lib.hid hG0
        clear hG0
        go_wp2_with (go_at_call 208; refine (sub32_any _ _ _ _ f0 f1 (by omega) (by omega) q0 q1).mono ?_; rintro e w' ⟨rfl, rfl⟩)
        go_roundw
        case rel => exact sub_rel (G := 0) HF.out HG.out HC.out FK.out GK.out hrow hbel hlt
        case measure => simp [intOf]; omega
    · obtain rfl : k = lx := by omega
      have hs := ddg_lv (f := ext fx k) (g := ext fy ly) (k := k) (fun j _ => ext_lt HX.out.2.1.1 j) (fun j _ => ext_lt HY.out.2.1.1 j)
      have hlim : ∀ j, j < k → ext (ddg (ext fx k) (ext fy ly)) k j < LB := fun j hj => by
        rw [ext_in hj]; exact (ddg_eq (ext_lt HX.out.2.1.1 j) (ext_lt HY.out.2.1.1 j)).2
      have hfin : lv (ext (ddg (ext fx k) (ext fy ly)) k) k = x - y := by
        have hlt := lv_lt hlim
        have e0 := lv_ext (f := ddg (ext fx k) (ext fy ly)) (Nat.le_refl k)
        rw [e0] at hlt ⊢
        rw [lv_ext (f := fx) (Nat.le_refl k), lv_ext hly, HX.out.1, HY.out.1] at hs
        rcases (show bor (ext fx k) (ext fy ly) k = 0 ∨ bor (ext fx k) (ext fy ly) k = 1 by omega) with c | c
        · rw [c] at hs; omega
        · rw [c] at hs; omega
      have HF := Lib.hid hfin
      have HL := Lib.hid hlim
      have HR := Lib.hid hrow
      clear hfin hlim hs hrow
      go_wp2_with fail
      refine (trim_row w w.heap.size k 207 _ _ (by omega) HR.out HL.out hbel).mono ?_
      rintro e w' ⟨a, len, cap, rfl, h1, h2, h3, h4⟩
      rw [HF.out] at h3
      go_wp2
      go_ret
      exact ⟨a, len, cap, rfl, h1, h2, h3, h4⟩

/-- What Subtract gives. -/
def subV (x y : Nat) : Value := if x < y then .tuple #[.string (bn 0), .bool false] else .tuple #[.string (bn (x - y)), .bool true]
theorem subV_no {x y : Nat} (h : x < y) : subV x y = .tuple #[.string (bn 0), .bool false] := by unfold subV; rw [if_pos h]
theorem subV_yes {x y : Nat} (h : y ≤ x) : subV x y = .tuple #[.string (bn (x - y)), .bool true] := by unfold subV; rw [if_neg (by omega)]

set_option maxRecDepth 100000 in
set_option maxHeartbeats 800000 in
theorem subtractS_any (a b : ByteArray) (w : World) (ha : a.size ≤ 1073741824) (hb : b.size ≤ 1073741824) :
    Calls Tryz.prog 122 #[.string a, .string b] w fun e w' => e = .returned (subV (nv a) (nv b)) ∧ Below w.heap.size w w' := by
  go_enter Tryz.func122, Tryz.ntmps122
  go_wp2_with fail
  refine (parse_any a _ ha).mono ?_; rintro e w1 ⟨ax, lx, cx, rfl, lcx, ccx, hX1, hb1⟩
  go_wp2_with fail
  refine (parse_any b _ hb).mono ?_; rintro e w2 ⟨ay, ly, cy, rfl, lcy, ccy, hY, hb2⟩
  have hX := hX1.below hb2 (Nat.le_refl _)
  have hll := hX.len_str
  have hlm := hY.len_str
  have HX := Lib.hid hX
  have HY := Lib.hid hY
  clear hX hY hX1
  go_wp2_with fail
  refine (compare_any _ _ _ _ _ _ _ _ _ HX.out HY.out (by omega) (by omega)).mono ?_
  rintro e w3 ⟨rfl, hb3⟩
  have HX3 := Lib.hid (HX.out.below hb3 (Nat.le_refl _))
  have HY3 := Lib.hid (HY.out.below hb3 (Nat.le_refl _))
  have hb13 : Below w.heap.size w w3 := hb1.trans ((hb2.mono hb1.size).trans (hb3.mono (Nat.le_trans hb1.size hb2.size)))
  clear HX HY hb1 hb2 hb3
  by_cases hc : nv a < nv b
  · have h1 : decide (cmpN (nv a) (nv b) < 0) = true := by rw [cmpN_lt hc]; rfl
    have HN := Lib.hid (subV_no hc)
    clear hc
    go_wp2
    go_ret2
    exact ⟨by rw [HN.out]; rfl, hb13⟩
  · have h1 : decide (cmpN (nv a) (nv b) < 0) = false := by
      unfold cmpN; rw [if_neg hc]; split <;> rfl
    have hle : nv b ≤ nv a := by omega
    have HN := Lib.hid (subV_yes hle)
    have HLE := Lib.hid hle
    clear hc hle
    go_wp2_with fail
    refine (subtract_any _ _ _ _ _ _ _ _ _ HX3.out HY3.out HLE.out (by omega)).mono ?_
    rintro e w4 ⟨ar, lr, cr, rfl, h2, h3, h4, h5⟩
    have h6 : lr ≤ (a.size + 3) / 4 := h4.len_le (Nat.lt_of_le_of_lt (Nat.sub_le _ _) (nv_lt_LB a))
    go_wp2_with fail
    refine (text_any _ _ _ _ _ h4 (by omega) h2).mono ?_
    rintro e w5 ⟨rfl, h7⟩
    go_wp2
    go_ret2
    exact ⟨by rw [HN.out]; rfl, hb13.trans ((h5.mono hb13.size).trans (h7.mono (Nat.le_trans hb13.size h5.size)))⟩
end Go.Proofs.Ins

set_option linter.unusedSimpArgs false
set_option linter.unusedVariables false
namespace Go.Proofs.Ins
open Go.RowKit

theorem mul_conv (u v o c : Nat) (hu : u < LB) (hv : v < LB) (ho : o < LB) (hc : c < LB) :
    (0 : Int) ≤ (u : Int) * v ∧ (u : Int) * v ≤ 18446744065119617025 ∧ (u : Int) * v + o + c ≤ 18446744073709551615 ∧ ((((u : Int) * v + o + c) % 4294967296) = (((u * v + o + c) % LB : Nat) : Int)) ∧ ((((u : Int) * v + o + c) / 4294967296) = (((u * v + o + c) / LB : Nat) : Int)) := by
  have h1 : u * v ≤ 4294967295 * 4294967295 := Nat.mul_le_mul (by unfold LB at hu; omega) (by unfold LB at hv; omega)
  have h2 : ((u : Int) * v) = ((u * v : Nat) : Int) := by push_cast; rfl
  rw [h2]
  generalize u * v = p at *
  unfold LB at *
  omega

set_option maxRecDepth 100000 in
set_option maxHeartbeats 3200000 in
theorem multiply_any (a b : ByteArray) (w : World) (ha : a.size ≤ 1073741824) (hb : b.size ≤ 1073741824) :
    Calls Tryz.prog 82 #[.string a, .string b] w fun e w' => e = .returned (.string (bn (nv a * nv b))) ∧ Below w.heap.size w w' := by
  go_enter Tryz.func82, Tryz.ntmps82
  go_wp2_with fail
  refine (parse_any a _ ha).mono ?_; rintro e w1 ⟨ax, lx, cx, rfl, lcx, ccx, hX1, hb1⟩
  go_wp2_with fail
  refine (parse_any b _ hb).mono ?_; rintro e w2 ⟨ay, ly, cy, rfl, lcy, ccy, hY, hb2⟩
  have hX := hX1.below hb2 (Nat.le_refl _)
  have hll := hX.len_str
  have hlm := hY.len_str
  obtain ⟨fx, hX⟩ := hX
  obtain ⟨fy, hY⟩ := hY
  have HX : Hid (LimbsF w2 ax lx (nv a) fx) := hX
  have HY : Hid (LimbsF w2 ay ly (nv b) fy) := hY
  clear hX hY hX1
  have hb12 : Below w.heap.size w w2 := hb1.trans (hb2.mono hb1.size)
  clear hb1 hb2
  obtain ⟨N, hN1, hN2⟩ : ∃ N, N ≤ lx + ly ∧ lx + ly ≤ N := ⟨_, Nat.le_refl _, Nat.le_refl _⟩
  go_wp2_with (refine wpList_makeT _ _ 205 207 .u32 4 N _ rfl rfl Tryz.underlying205 u32info rfl rfl (by omega) (by omega) (by omega) ?_; intro w3 hr3 hb3 hz3)
  go_loopw [26] (fun i wr => ∃ k : Nat, i = .int .i64 k ∧ k ≤ lx ∧ (∃ O, Row wr w2.heap.size 207 .u32 N O ∧ lv O N = lv fx k * lv fy ly ∧ (∀ j, j < N → O j < LB) ∧ (∀ j, k + ly ≤ j → O j = 0)) ∧ Below w2.heap.size w2 wr) (fun i _ => lx - (intOf i).toNat)
  case atStart => exact ⟨0, rfl, by omega, ⟨_, hr3, by rw [lv_zeros (fun _ _ => rfl), lv_zero, Nat.zero_mul], fun _ _ => LB_pos, fun _ _ => rfl⟩, hb3⟩
  case round =>
    obtain ⟨k, rfl, hk, ⟨O, hrow, hO1, hO2, hO3⟩, hbel⟩ := hrel
    clear hr3 hb3 hz3
    by_cases hlt : k < lx
    · rcases HX.out.2.2 with h0 | ⟨b1, o1, rfl, r1⟩
      · omega
      have hcx := (r1.below hbel (r1.lt (by omega))) k hlt
      have fk' := HX.out.2.1.1 k hlt
      have FK := Lib.hid fk'
      have HROW := Lib.hid hrow
      have HO1 := Lib.hid hO1
      have HO2 := Lib.hid hO2
      have HO3 := Lib.hid hO3
      clear fk' hrow hO1 hO2 hO3 r1
      obtain ⟨wo, hwo⟩ : ∃ wo, wo = wr := ⟨_, rfl⟩
      generalize hU : fx k = U at *
      have HU := Lib.hid hU
      clear hU
      have U0 : (0 : Int) ≤ (U : Int) := by omega
      have U1 : (U : Int) ≤ 4294967295 := by have := FK.out; unfold LB at this; omega
      subst hwo
      go_wp2
      go_loopw [10, 33] (fun c i wi => ∃ m : Nat, i = .int .i64 m ∧ m ≤ ly ∧ (∃ C O', c = .int .u64 (C : Nat) ∧ MulRow O O' N k m C U fy ∧ Row wi w2.heap.size 207 .u32 N O') ∧ Below w2.heap.size w2 wi) (fun _ i _ => ly - (intOf i).toNat)
      case atStart => exact ⟨0, rfl, by omega, ⟨0, O, rfl, mul_start HO2.out, HROW.out⟩, hbel⟩
      case round =>
        obtain ⟨m, rfl, hm, ⟨C, O', rfl, hmul, hrow⟩, hbel2⟩ := hrel
        have hC := hmul.2.2.2
        have C0 : (0 : Int) ≤ (C : Int) := by omega
        have C1 : (C : Int) ≤ 4294967295 := by unfold LB at hC; omega
        by_cases hlt2 : m < ly
        · rcases HY.out.2.2 with h0 | ⟨b2, o2, rfl, r2⟩
          · omega
          have hcy := (r2.below hbel2 (r2.lt (by omega))) m hlt2
          have hold := hrow.cell (j := k + m) (by omega)
          have hfr := hrow.frozen (k + m)
          have gk := HY.out.2.1.1 m hlt2
          have ok := hmul.2.1 (k + m) (by omega)
          have hst := mul_step hmul FK.out gk (by omega)
          have hcv := mul_conv U (fy m) (O' (k + m)) C FK.out gk ok hC
          have HST := Lib.hid hst
          have HROW2 := Lib.hid hrow
          obtain ⟨cv1, cv2, cv3, cv4, cv5⟩ := hcv
          have V0 : (0 : Int) ≤ (fy m : Int) := by omega
          have V1 : (fy m : Int) ≤ 4294967295 := by unfold LB at gk; omega
          have W0 : (0 : Int) ≤ (O' (k + m) : Int) := by omega
          have W1 : (O' (k + m) : Int) ≤ 4294967295 := by unfold LB at ok; omega
          have CV4 := Lib.hid cv4
          have CV5 := Lib.hid cv5
          clear hst hrow hmul r2 cv4 cv5 hC gk ok
          go_wp2
          go_roundw
          case rel =>
            refine ⟨m + 1, by go_num, by omega, ⟨_, _, by rw [CV5.out], HST.out, ?_⟩, hbel2.setCell (Nat.le_refl _) _⟩
            rw [CV4.out]
            exact HROW2.out.set _ _
          case measure => simp [intOf]; omega
        · obtain rfl : m = ly := by omega
          have hold := hrow.cell (j := k + m) (by omega)
          have hfr := hrow.frozen (k + m)
          have hen := mul_end hmul (by omega) HO3.out HO1.out
          have HEN := Lib.hid hen
          have HROW2 := Lib.hid hrow
          clear hmul hen hrow hC
          go_wp2
          go_roundw
          case rel =>
            refine ⟨k + 1, by go_num, by omega, ⟨_, HROW2.out.set (k + m) C, ?_, HEN.out.2.1, fun j hj => HEN.out.2.2 j (by omega)⟩, hbel2.setCell (Nat.le_refl _) _⟩
            rw [HEN.out.1, lv_succ, HU.out]
          case measure => simp [intOf]; omega
    · obtain rfl : k = lx := by omega
      obtain rfl : N = k + ly := by omega
      rw [HX.out.1, HY.out.1] at hO1
      have HROW := Lib.hid hrow
      have HO1 := Lib.hid hO1
      have HO2 := Lib.hid hO2
      clear hrow hO1 hO2 hO3
      by_cases hN0 : k + ly = 0
      · obtain rfl : k = 0 := by omega
        obtain rfl : ly = 0 := by omega
        go_wp2_with fail
        refine (text_zero _ _ _).mono ?_
        rintro e w' ⟨rfl, hbt⟩
        have e0 : nv a * nv b = 0 := by rw [← HO1.out]; rfl
        have E0 := Lib.hid e0
        clear e0
        go_wp2
        go_ret
        exact ⟨ret_str (by rw [E0.out]), hb12.trans ((hbel.mono hb12.size).trans (hbt.mono (Nat.le_trans hb12.size hbel.size)))⟩
      · go_wp2_with fail
        refine (text_walk w2.heap.size 0 (k + ly) (k + ly) O _ (by omega) (by omega) HROW.out.reads HO2.out).mono ?_
        rintro e w' ⟨rfl, hbt⟩
        rw [HO1.out]
        go_wp2
        go_ret
        exact ⟨rfl, hb12.trans ((hbel.mono hb12.size).trans (hbt.mono (Nat.le_trans hb12.size hbel.size)))⟩
end Go.Proofs.Ins
