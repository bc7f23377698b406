/- The walks of insolvencyref1: order, minus, times, short. -/
import Derived.Test.YtobbllakdjampaaGreatDoorR1
set_option linter.unusedSimpArgs false
set_option linter.unusedVariables false
namespace Go.Proofs.Ins
open Go.RowKit

set_option maxRecDepth 100000 in
set_option maxHeartbeats 400000 in
theorem order_lt (a b : Option Addr) (la lb ca cb : Nat) (w : World) (h : la < lb) (h2 : lb ≤ 4294967296) :
    Calls Tryz.prog 109 #[.slice a la ca, .slice b lb cb] w fun e w' => e = .returned (.int .i64 (-1)) ∧ w = w' := by
  have HL2 : ((la : Int) != (lb : Int)) = true := by simp; omega
  have HL3 : decide (la < lb) = true := by simp; omega
  go_enter Tryz.func109, Tryz.ntmps109
  go_wp2
  go_ret
  exact ⟨rfl, rfl⟩

set_option maxRecDepth 100000 in
set_option maxHeartbeats 400000 in
theorem order_gt (a b : Option Addr) (la lb ca cb : Nat) (w : World) (h : lb < la) (h2 : la ≤ 4294967296) :
    Calls Tryz.prog 109 #[.slice a la ca, .slice b lb cb] w fun e w' => e = .returned (.int .i64 1) ∧ w = w' := by
  have HL2 : ((la : Int) != (lb : Int)) = true := by simp; omega
  have HL3 : decide (la < lb) = false := by simp; omega
  go_enter Tryz.func109, Tryz.ntmps109
  go_wp2
  go_ret
  exact ⟨rfl, rfl⟩

set_option maxRecDepth 100000 in
set_option maxHeartbeats 400000 in
theorem order_zero (a b : Option Addr) (ca cb : Nat) (w : World) :
    Calls Tryz.prog 109 #[.slice a 0 ca, .slice b 0 cb] w fun e w' => e = .returned (.int .i64 0) ∧ w = w' := by
  go_enter Tryz.func109, Tryz.ntmps109
  go_wp2
  go_loop [5] (fun v => v = .int .i64 (-1)) (fun _ => 0)
  case atStart => exact rfl
  case round =>
    subst hrel
    go_wp2
    go_ret
    exact ⟨rfl, rfl⟩

set_option maxRecDepth 100000 in
set_option maxHeartbeats 400000 in
theorem order_walk (b1 o1 b2 o2 n c1 c2 : Nat) (f g : Nat → Nat) (w : World) (hn : n ≤ 4294967296) (hn0 : 0 < n) (hf : Reads w b1 o1 .u32 n f) (hg : Reads w b2 o2 .u32 n g)
    (lf : ∀ j, j < n → f j < LB) (lg : ∀ j, j < n → g j < LB) :
    Calls Tryz.prog 109 #[.slice (some ⟨b1, o1, none⟩) n c1, .slice (some ⟨b2, o2, none⟩) n c2] w fun e w' => e = .returned (.int .i64 (cmpN (lv f n) (lv g n))) ∧ Below w.heap.size w w' := by
  have Hlf := Lib.hid lf
  have Hlg := Lib.hid lg
  have Hf := Lib.hid hf
  have Hg := Lib.hid hg
  clear lf lg hf hg
  go_enter Tryz.func109, Tryz.ntmps109
  go_wp2
  go_loopw [5] (fun v wr => ∃ i : Int, v = .int .i64 i ∧ -1 ≤ i ∧ i < n ∧ Hid (∀ j : Nat, i < j → j < n → f j = g j) ∧ ∃ q, wr = w.drewN q) (fun v _ => (intOf v + 1).toNat)
  case atStart => exact ⟨(n : Int) - 1, rfl, by omega, by omega, fun j h1 h2 => by omega, 0, rfl⟩
  case round =>
    obtain ⟨i, rfl, hi1, hi2, hall, q, rfl⟩ := hrel
    by_cases h0 : i = -1
    · subst h0
      have he : lv f n = lv g n := lv_congr fun j hj => hall.out j (by omega) hj
      have HE := Lib.hid he
      clear he
      go_wp2
      go_ret
      exact ⟨ret_int (by rw [HE.out, cmpN_eq]), below_drewN (Below.refl _ _) q⟩
    · obtain ⟨m, rfl⟩ := Int.eq_ofNat_of_zero_le (show 0 ≤ i by omega)
      have hm : (m : Int) < n := hi2
      have hc1 := Hf.out m (by omega)
      have hc2 := Hg.out m (by omega)
      rcases (show f m < g m ∨ g m < f m ∨ f m = g m by omega) with h | h | h
      · have t1 : ((f m : Int) != (g m : Int)) = true := by simp; omega
        have t2 : ((f m : Int) < (g m : Int)) := by omega
        have HR := Lib.hid (lv_lt_of_top Hlf.out Hlg.out (show m < n by omega) (fun j h1 h2 => hall.out j (by omega) h2) h)
        go_wp2
        go_quiet (fail)
        go_wp2
        go_quiet (fail)
        go_wp2
        go_ret
        exact ⟨ret_int (cmpN_lt HR.out).symm, below_drewN (below_drewN (below_drewN (Below.refl _ _) _) _) _⟩
      · have t1 : ((f m : Int) != (g m : Int)) = true := by simp; omega
        have t2 : decide ((f m : Int) < (g m : Int)) = false := by simp; omega
        have HR := Lib.hid (lv_lt_of_top Hlg.out Hlf.out (show m < n by omega) (fun j h1 h2 => (hall.out j (by omega) h2).symm) h)
        go_wp2
        go_quiet (fail)
        go_wp2
        go_quiet (fail)
        go_wp2
        go_ret
        exact ⟨ret_int (cmpN_gt HR.out).symm, below_drewN (below_drewN (below_drewN (Below.refl _ _) _) _) _⟩
      · rw [h] at hc1
        have H := Lib.hid h
        clear h
        go_wp2
        go_quiet (fail)
        go_wp2
        go_roundw
        case rel => exact ⟨(m : Int) - 1, rfl, by omega, by omega, fun j h1 h2 => by
          by_cases e : j = m
          · subst e; exact H.out
          · exact hall.out j (by omega) h2, _, rfl⟩
        case measure => simp [intOf]

theorem order_any (a b : Option Addr) (la lb ca cb x y : Nat) (w : World) (h1 : Limbs w a la x) (h2 : Limbs w b lb y) (l1 : la ≤ 4294967296) (l2 : lb ≤ 4294967296) :
    Calls Tryz.prog 109 #[.slice a la ca, .slice b lb cb] w fun e w' => e = .returned (.int .i64 (cmpN x y)) ∧ Below w.heap.size w w' := by
  obtain ⟨f, rfl, hf, rf⟩ := h1
  obtain ⟨g, rfl, hg, rg⟩ := h2
  by_cases h : la = lb
  · subst h
    by_cases h0 : la = 0
    · subst h0
      exact (order_zero a b ca cb w).mono fun e w' ⟨he, hw⟩ => ⟨he, hw ▸ Below.refl _ _⟩
    · rcases rf with rf | ⟨b1, o1, rfl, r1⟩
      · exact absurd rf h0
      rcases rg with rg | ⟨b2, o2, rfl, r2⟩
      · exact absurd rg h0
      exact order_walk b1 o1 b2 o2 la ca cb f g w l1 (by omega) r1 r2 hf.1 hg.1
  · rcases (show la < lb ∨ lb < la by omega) with c | c
    · refine (order_lt a b la lb ca cb w c l2).mono fun e w' ⟨he, hw⟩ => ⟨he.trans (ret_int ?_), hw ▸ Below.refl _ _⟩
      rw [cmpN_lt (hf.len_lt hg c)]
    · refine (order_gt a b la lb ca cb w c l1).mono fun e w' ⟨he, hw⟩ => ⟨he.trans (ret_int ?_), hw ▸ Below.refl _ _⟩
      rw [cmpN_gt (hg.len_lt hf c)]


theorem minus_rel {F G C : Nat} {f g : Nat → Nat} {k lx : Nat} {w2 wr : World} {T : TypeId}
    (hF : f k = F) (hG : g k = G) (hC : bor f g k = C) (lF : F < LB) (lG : G < LB) (hrow : Row wr w2.heap.size T .u32 lx (ext (ddg f g) k)) (hbel : Below w2.heap.size w2 wr) (hk : k < lx) (dg : Int) (hdg : dg = ((F + LB * (if F < G + C then 1 else 0) - G - C : Nat) : Int)) :
    Row (wr.setCell ⟨w2.heap.size, k, none⟩ (.int .u32 dg)) w2.heap.size T .u32 lx (ext (ddg f g) (k + 1)) ∧
      Below w2.heap.size w2 (wr.setCell ⟨w2.heap.size, k, none⟩ (.int .u32 dg)) := by
  refine ⟨?_, hbel.setCell (Nat.le_refl _) _⟩
  have e1 : dg = ((ddg f g k : Nat) : Int) := by
    rw [hdg]; unfold ddg; rw [bor_succ, hF, hG, hC]
  rw [e1]
  exact (hrow.set k _).congr fun j _ => ext_upd _ k _ rfl j

set_option maxRecDepth 100000 in
set_option maxHeartbeats 1600000 in
theorem minus_any (ax ay : Option Addr) (lx ly cx cy x y : Nat) (w : World) (hX : Limbs w ax lx x) (hY : Limbs w ay ly y) (hle : y ≤ x) (hl : lx ≤ 1073741824) :
    Calls Tryz.prog 110 #[.slice ax lx cx, .slice ay ly cy] w (RetLimbs w (x - y)) := by
  obtain ⟨fx, hX⟩ := hX
  obtain ⟨fy, hY⟩ := hY
  have HX : Hid (LimbsF w ax lx x fx) := hX
  have HY : Hid (LimbsF w ay ly y fy) := hY
  clear hX hY
  have hly : ly ≤ lx := by
    rcases Nat.lt_or_ge lx ly with h | h
    · have := HX.out.2.1.len_lt HY.out.2.1 h
      rw [HX.out.1, HY.out.1] at this; omega
    · exact h
  go_enter Tryz.func110, Tryz.ntmps110
  go_wp2_with (refine wpList_makeT _ _ 137 142 .u32 4 lx _ rfl rfl Tryz.underlying137 u32info rfl rfl (by omega) (by omega) (by omega) ?_; intro w3 hr3 hb3 hz3)
  go_loopw [6, 7] (fun c i wr => ∃ k : Nat, i = .int .i64 k ∧ k ≤ lx ∧ c = .int .u64 (bor (ext fx lx) (ext fy ly) k) ∧ Row wr w.heap.size 142 .u32 lx (ext (ddg (ext fx lx) (ext fy ly)) k) ∧ Below w.heap.size w wr) (fun _ i _ => lx - (intOf i).toNat)
  case atStart => exact ⟨0, rfl, by omega, rfl, hr3.congr (fun j _ => by rw [ext_out (by omega)]), hb3⟩
  case round =>
    obtain ⟨k, rfl, hk, rfl, hrow, hbel⟩ := hrel
    clear hr3 hb3 hz3
    have c0 := bor_le (ext fx lx) (ext fy ly) k
    have fk' := ext_lt HX.out.2.1.1 k
    have gk' := ext_lt HY.out.2.1.1 k
    have FK := Lib.hid fk'
    have GK := Lib.hid gk'
    have fk := fk'
    have gk := gk'
    rw [LB_eq] at fk gk
    clear fk' gk'
    by_cases hlt : k < lx
    · rcases HX.out.2.2 with h0 | ⟨b1, o1, rfl, r1⟩
      · omega
      have hcx := (r1.below hbel (r1.lt (by omega))) k hlt
      rw [← ext_in (f := fx) hlt] at hcx
      have hold := hrow.cell (j := k) (by omega)
      have hfr := hrow.frozen k
      rw [ext_out (Nat.le_refl k)] at hold
      have HBS := Lib.hid (bor_succ (ext fx lx) (ext fy ly) k)
      generalize hC : bor (ext fx lx) (ext fy ly) k = C at *
      generalize hF : ext fx lx k = F at *
      have HC := Lib.hid hC
      have HF := Lib.hid hF
      clear hC hF
      have c1 : (C : Int) ≤ 1 := by omega
      have f1 : (F : Int) ≤ 4294967295 := by omega
      generalize hG : ext fy ly k = G at *
      have HG := Lib.hid hG
      clear hG
      have g1 : (G : Int) ≤ 4294967295 := by omega
      have HROW := Lib.hid hrow
      by_cases hlt2 : k < ly
      · rcases HY.out.2.2 with h0 | ⟨b2, o2, rfl, r2⟩
        · omega
        have hcy := (r2.below hbel (r2.lt (by omega))) k hlt2
        rw [← ext_in (f := fy) hlt2, HG.out] at hcy
        by_cases hlow : F < C + G
        · as_aux_lemma =>
          clear hrow r1 r2
          go_wp2
          go_roundw
          case rel =>
            have hh := minus_rel HF.out HG.out HC.out FK.out GK.out HROW.out hbel hlt ((F : Int) + 4294967296 - (C + G)) (by rw [if_pos (by omega)]; unfold LB; omega)
            exact ⟨k + 1, by go_num, by omega, by rw [HBS.out, if_pos (by omega)]; rfl, hh⟩
          case measure => simp [intOf]; omega
        · as_aux_lemma =>
          clear hrow r1 r2
          go_wp2
          go_roundw
          case rel =>
            have hh := minus_rel HF.out HG.out HC.out FK.out GK.out HROW.out hbel hlt ((F : Int) - (C + G)) (by rw [if_neg (by omega)]; unfold LB; omega)
            exact ⟨k + 1, by go_num, by omega, by rw [HBS.out, if_neg (by omega)]; rfl, hh⟩
          case measure => simp [intOf]; omega
      · have hG0 : G = 0 := by rw [← HG.out]; exact ext_out (by omega)
        subst hG0
        have hnn : decide (k < ly) = false := by simp; omega
        by_cases hlow : F < C
        · as_aux_lemma =>
          clear hrow r1
          go_wp2
          go_roundw
          case rel =>
            have hh := minus_rel HF.out HG.out HC.out FK.out GK.out HROW.out hbel hlt ((F : Int) + 4294967296 - C) (by rw [if_pos (by omega)]; unfold LB; omega)
            exact ⟨k + 1, by go_num, by omega, by rw [HBS.out, if_pos (by omega)]; rfl, hh⟩
          case measure => simp [intOf]; omega
        · as_aux_lemma =>
          clear hrow r1
          go_wp2
          go_roundw
          case rel =>
            have hh := minus_rel HF.out HG.out HC.out FK.out GK.out HROW.out hbel hlt ((F : Int) - C) (by rw [if_neg (by omega)]; unfold LB; omega)
            exact ⟨k + 1, by go_num, by omega, by rw [HBS.out, if_neg (by omega)]; rfl, hh⟩
          case measure => simp [intOf]; omega
    · obtain rfl : k = lx := by omega
      have hs := ddg_lv (f := ext fx k) (g := ext fy ly) (k := k) (fun j _ => ext_lt HX.out.2.1.1 j) (fun j _ => ext_lt HY.out.2.1.1 j)
      have hlim : ∀ j, j < k → ext (ddg (ext fx k) (ext fy ly)) k j < LB := fun j hj => by
        rw [ext_in hj]; exact (ddg_eq (ext_lt HX.out.2.1.1 j) (ext_lt HY.out.2.1.1 j)).2
      have hfin : lv (ext (ddg (ext fx k) (ext fy ly)) k) k = x - y := by
        have hlt := lv_lt hlim
        have e0 := lv_ext (f := ddg (ext fx k) (ext fy ly)) (Nat.le_refl k)
        rw [e0] at hlt ⊢
        rw [lv_ext (f := fx) (Nat.le_refl k), lv_ext hly, HX.out.1, HY.out.1] at hs
        rcases (show bor (ext fx k) (ext fy ly) k = 0 ∨ bor (ext fx k) (ext fy ly) k = 1 by omega) with c | c
        · rw [c] at hs; omega
        · rw [c] at hs; omega
      have HF := Lib.hid hfin
      have HL := Lib.hid hlim
      have HR := Lib.hid hrow
      clear hfin hlim hs hrow
      go_wp2_with fail
      refine (strip_row w w.heap.size k 142 _ _ (by omega) HR.out HL.out hbel).mono ?_
      rintro e w' ⟨a, len, cap, rfl, h1, h2, h3, h4⟩
      rw [HF.out] at h3
      go_wp2
      go_ret
      exact ⟨a, len, cap, rfl, h1, h2, h3, h4⟩


end Go.Proofs.Ins
