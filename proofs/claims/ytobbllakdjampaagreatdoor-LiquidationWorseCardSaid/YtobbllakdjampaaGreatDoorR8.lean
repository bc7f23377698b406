/- The walks of insolvencyref1: divide, common, GCD. -/
import Derived.Test.YtobbllakdjampaaGreatDoorR7
import Derived.Test.YtobbllakdjampaaGreatDoorP5
set_option linter.unusedSimpArgs false
set_option linter.unusedVariables false
namespace Go.Proofs.Ins
open Go.RowKit

set_option maxRecDepth 100000 in
set_option maxHeartbeats 1600000 in
theorem rdivide_less (ax ay : Option Addr) (lx ly cx cy x y : Nat) (w : World) (hX : Limbs w ax lx x) (hY : Limbs w ay ly y) (hlt : x < y) (h0 : lx ≤ 1073741824) (h1 : lx ≤ cx) (h2 : cx ≤ 9223372036854775807) (h3 : ly ≤ 4294967296) :
    Calls Tryz.prog 126 #[.slice ax lx cx, .slice ay ly cy] w (RetDiv w x y) := by
  have HX := Lib.hid hX
  have HY := Lib.hid hY
  have HL := Lib.hid hlt
  have hcm : decide (cmpN x y < 0) = true := by rw [cmpN_lt hlt]; rfl
  clear hX hY hlt
  go_enter Tryz.func126, Tryz.ntmps126
  go_wp2_with fail
  refine (order_any _ _ _ _ _ _ _ _ _ HX.out HY.out (by omega) (by omega)).mono ?_
  rintro e w3 ⟨rfl, hb3⟩
  have hb := Lib.hid hb3
  clear hb3
  go_wp2
  go_ret2
  refine ⟨none, 0, 0, ax, lx, cx, rfl, by omega, by omega, h1, h2, ?_, ?_, hb.out⟩
  · rw [Nat.div_eq_of_lt HL.out]; exact limbs_nil _
  · rw [Nat.mod_eq_of_lt HL.out]; exact HX.out.below hb.out (Nat.le_refl _)

set_option maxRecDepth 100000 in
set_option maxHeartbeats 1600000 in
theorem rdivide_small (ax ay : Option Addr) (lx cx cy x y : Nat) (w : World) (hX : Limbs w ax lx x) (hY : Limbs w ay 1 y) (hle : y ≤ x) (h1 : lx ≤ 1073741824) :
    Calls Tryz.prog 126 #[.slice ax lx cx, .slice ay 1 cy] w (RetDiv w x y) := by
  have hcm : decide (cmpN x y < 0) = false := by unfold cmpN; rw [if_neg (by omega)]; split <;> rfl
  have hy0 : 0 < y := by
    rcases Nat.eq_zero_or_pos y with e | e
    · have := hY.zero_iff.mp e; omega
    · exact e
  have hlx : 0 < lx := by
    rcases Nat.eq_zero_or_pos lx with e | e
    · have := hX.zero_iff.mpr e; omega
    · exact e
  have HX := Lib.hid hX
  have HY := Lib.hid hY
  clear hX hY hle
  go_enter Tryz.func126, Tryz.ntmps126
  go_wp2_with fail
  refine (order_any _ _ _ _ _ _ _ _ _ HX.out HY.out (by omega) (by omega)).mono ?_
  rintro e w3 ⟨rfl, hb3⟩
  have HX3 := HX.out.below hb3 (Nat.le_refl _)
  have HY3 := HY.out.below hb3 (Nat.le_refl _)
  obtain ⟨fx, ex, kx, rx⟩ := HX3
  obtain ⟨fy, ey, ky, ry⟩ := HY3
  rcases rx with h0 | ⟨b1, o1, rfl, rx⟩
  · omega
  rcases ry with h0 | ⟨b2, o2, rfl, ry⟩
  · omega
  have hcell := ry 0 (by omega)
  have hy1 : fy 0 = y := by rw [← ey]; simp [lv]
  have hyl : y < LB := by rw [← hy1]; exact ky.1 0 (by omega)
  rw [hy1, Nat.add_zero] at hcell
  have RX := Lib.hid rx
  have KX := Lib.hid kx
  have EX := Lib.hid ex
  have hb := Lib.hid hb3
  clear rx ry kx ky ex ey hy1 hb3 HX HY
  go_wp2_with fail
  refine (short_walk _ _ _ _ _ _ _ h1 RX.out KX.out.1 hy0 hyl hlx).mono ?_
  rintro e w4 ⟨aq, lq, cq, rfl, g1, g2, g3, g4⟩
  rw [EX.out] at g3 ⊢
  have G3 := Lib.hid g3
  have G4 := Lib.hid g4
  clear g3 g4
  have hr : x % y < LB := Nat.lt_trans (Nat.mod_lt _ hy0) hyl
  have hrow := row_one w4 142 (x % y)
  generalize hR : x % y = R at *
  have HR := Lib.hid hR
  have HROW := Lib.hid hrow
  clear hR hrow
  have hlv : lv (fun _ => R) 1 = R := by simp [lv]
  have HLV := Lib.hid hlv
  clear hlv
  go_wp2_with fail
  refine (strip_row w4 w4.heap.size 1 142 (fun _ => R) _ (by omega) HROW.out (fun _ _ => hr) ((Below.refl _ _).alloc (Nat.le_refl _) _)).mono ?_
  rintro e w5 ⟨ar, lr, cr, rfl, k1, k2, k3, k4⟩
  rw [HLV.out] at k3
  have K3 := Lib.hid k3
  have K4 := Lib.hid k4
  clear k3 k4
  go_wp2
  go_ret2
  refine ⟨aq, lq, cq, ar, lr, cr, rfl, g1, g2, k1, k2, G3.out.below K4.out (Nat.le_refl _), ?_, ?_⟩
  · rw [HR.out]; exact K3.out
  · exact hb.out.trans ((G4.out.mono hb.out.size).trans (K4.out.mono (Nat.le_trans hb.out.size G4.out.size)))


set_option maxRecDepth 100000 in
set_option maxHeartbeats 800000 in
theorem rdivide_long (ax ay : Option Addr) (lx ly cx cy x y : Nat) (w : World) (hX : Limbs w ax lx x) (hY : Limbs w ay ly y) (hle : y ≤ x) (h1 : lx ≤ 1073741824) (hly : 2 ≤ ly) (h4 : ly ≤ 1073741824) :
    Calls Tryz.prog 126 #[.slice ax lx cx, .slice ay ly cy] w (RetDiv w x y) := by
  have hcm : decide (cmpN x y < 0) = false := by unfold cmpN; rw [if_neg (by omega)]; split <;> rfl
  have hl1 : ((ly : Int) == 1) = false := by simp; omega
  have HX := Lib.hid hX
  have HY := Lib.hid hY
  have HLE := Lib.hid hle
  clear hX hY hle
  go_enter Tryz.func126, Tryz.ntmps126
  go_wp2_with fail
  refine (order_any _ _ _ _ _ _ _ _ _ HX.out HY.out (by omega) (by omega)).mono ?_
  rintro e w3 ⟨rfl, hb3⟩
  have HX3 := Lib.hid (HX.out.below hb3 (Nat.le_refl _))
  have HY3 := Lib.hid (HY.out.below hb3 (Nat.le_refl _))
  have hb := Lib.hid hb3
  clear hb3 HX HY
  go_wp2_with fail
  refine (long_walk _ _ _ _ _ _ _ _ _ HX3.out HY3.out HLE.out h1 hly).mono ?_
  rintro e w4 ⟨aq, lq, cq, ar, lr, cr, rfl, g1, g2, g3, g4, g5, g6, g7⟩
  have G5 := Lib.hid g5
  have G6 := Lib.hid g6
  have G7 := Lib.hid (chain hb.out g7 (Nat.le_refl _))
  clear g5 g6 g7
  go_wp2
  go_ret2
  exact ⟨aq, lq, cq, ar, lr, cr, rfl, g1, g2, g3, g4, G5.out, G6.out, G7.out⟩

theorem rdivide_any (ax ay : Option Addr) (lx ly cx cy x y : Nat) (w : World) (hX : Limbs w ax lx x) (hY : Limbs w ay ly y) (hy : 0 < y) (h1 : lx ≤ 1073741824) (h2 : lx ≤ cx) (h3 : cx ≤ 9223372036854775807) (h4 : ly ≤ 1073741824) :
    Calls Tryz.prog 126 #[.slice ax lx cx, .slice ay ly cy] w (RetDiv w x y) := by
  have hly : 0 < ly := by
    rcases Nat.eq_zero_or_pos ly with e | e
    · have := hY.zero_iff.mpr e; omega
    · exact e
  by_cases hlt : x < y
  · exact rdivide_less ax ay lx ly cx cy x y w hX hY hlt h1 h2 h3 (by omega)
  · by_cases h5 : ly = 1
    · subst h5; exact rdivide_small ax ay lx cx cy x y w hX hY (by omega) h1
    · exact rdivide_long ax ay lx ly cx cy x y w hX hY (by omega) h1 (by omega) h4

/-- A limbs value with room, as functions of the reference hand it on. -/
def LimV (w : World) (a : Option Addr) (l c x : Nat) : Prop := l ≤ c ∧ c ≤ 9223372036854775807 ∧ l ≤ 1073741824 ∧ Limbs w a l x

set_option maxRecDepth 100000 in
set_option maxHeartbeats 1600000 in
theorem common_any (ax ay : Option Addr) (lx ly cx cy x y : Nat) (w : World) (h1 : LimV w ax lx cx x) (h2 : LimV w ay ly cy y) :
    Calls Tryz.prog 125 #[.slice ax lx cx, .slice ay ly cy] w (RetLimbs w (Nat.gcd x y)) := by
  have hstart : GcdRel w w (Nat.gcd x y) y (.slice ax lx cx) (.slice ay ly cy) :=
    ⟨ax, lx, cx, ay, ly, cy, x, rfl, rfl, h1.1, h1.2.1, h1.2.2.1, h2.1, h2.2.1, h2.2.2.1, h1.2.2.2, h2.2.2.2, rfl, Below.refl _ _⟩
  have HS := Lib.hid hstart
  clear h1 h2 hstart
  go_enter Tryz.func125, Tryz.ntmps125
  go_wp2_with fail
  go_loopg [0, 1] y (fun k vx vy wr => GcdRel w wr (Nat.gcd x y) k vx vy)
  case atStart => exact HS.out
  case round =>
    obtain ⟨ax, lx, cx, ay, ly, cy, X, rfl, rfl, h1, h2, h3, h4, h5, h6, hX, hY, hg, hbel⟩ := hrel
    clear HS
    have HX := Lib.hid hX
    have HY := Lib.hid hY
    have HG := Lib.hid hg
    have HB := Lib.hid hbel
    by_cases h0 : ly = 0
    · as_aux_lemma =>
      subst h0
      have hk := hY.zero_iff.mpr rfl
      have HK := Lib.hid hk
      clear hk hX hY hg hbel
      go_wp2_with fail
      go_ret
      refine ⟨ax, lx, cx, rfl, h1, h2, ?_, HB.out⟩
      have := HG.out
      rw [HK.out, Nat.gcd_zero_right] at this
      rw [← this]; exact HX.out
    · as_aux_lemma =>
      have hk : 0 < gk := by
        rcases Nat.eq_zero_or_pos gk with e | e
        · have := hY.zero_iff.mp e; omega
        · exact e
      have hl0 : decide ((0 : Int) < (ly : Int)) = true := by simp; omega
      clear hX hY hg hbel
      go_wp2_with fail
      refine (rdivide_any _ _ _ _ _ _ _ _ _ HX.out HY.out hk h3 h1 h2 h6).mono ?_
      rintro e w3 ⟨aq, lq, cq, ar, lr, cr, rfl, g1, g2, g3, g4, g5, g6, g7⟩
      have hlr : lr ≤ ly := g6.len_le (Nat.lt_trans (Nat.mod_lt _ hk) HY.out.lt)
      have hnew : GcdRel w w3 (Nat.gcd x y) (X % gk) (.slice ay ly cy) (.slice ar lr cr) :=
        ⟨ay, ly, cy, ar, lr, cr, gk, rfl, rfl, h4, h5, h6, g3, g4, by omega, HY.out.below g7 (Nat.le_refl _), g6, by rw [← HG.out, Nat.gcd_comm X gk, Nat.gcd_rec gk X, Nat.gcd_comm], HB.out.trans (g7.mono HB.out.size)⟩
      have HN := Lib.hid hnew
      have HML := Lib.hid (Nat.mod_lt X hk)
      clear hnew g5 g6 g7
      go_wp2_with fail
      go_roundg (X % gk)
      case measure => exact HML.out
      case rel => exact HN.out

/-- The length of limbs by a bound of the number. -/
theorem RetLimbs.lim {w w' : World} {a : Option Addr} {l x k : Nat} (h : Limbs w' a l x) (hx : x < 256 ^ k) (hk : k ≤ 1073741824) : l ≤ (k + 3) / 4 := by
  refine h.len_le ?_
  rw [LB_pow]
  exact Nat.lt_of_lt_of_le hx (Nat.pow_le_pow_right (by omega) (by omega))

set_option maxRecDepth 100000 in
set_option maxHeartbeats 400000 in
theorem rgcd_any (a b : ByteArray) (w : World) (ha : a.size ≤ 268435456) (hb : b.size ≤ 268435456) :
    Calls Tryz.prog 102 #[.string a, .string b] w fun e w' => e = .returned (.string (bn (Nat.gcd (nv a) (nv b)))) ∧ Below w.heap.size w w' := by
  go_enter Tryz.func102, Tryz.ntmps102
  go_wp2_with fail
  refine (rlimbs_any a _ (by omega)).mono ?_; rintro e w1 ⟨ax, lx, cx, rfl, lcx, ccx, hX1, hb1⟩
  go_wp2_with fail
  refine (rlimbs_any b _ (by omega)).mono ?_; rintro e w2 ⟨ay, ly, cy, rfl, lcy, ccy, hY, hb2⟩
  have hX := hX1.below hb2 (Nat.le_refl _)
  have l1 := RetLimbs.lim (w := w) hX (nv_lt a) (by omega)
  have l2 := RetLimbs.lim (w := w) hY (nv_lt b) (by omega)
  have h1 : LimV w2 ax lx cx (nv a) := ⟨lcx, ccx, by omega, hX⟩
  have h2 : LimV w2 ay ly cy (nv b) := ⟨lcy, ccy, by omega, hY⟩
  have H1 := Lib.hid h1
  have H2 := Lib.hid h2
  have HB := Lib.hid (chain hb1 hb2 (Nat.le_refl _))
  clear hX hX1 hY hb1 hb2 h1 h2
  go_wp2_with fail
  refine (common_any _ _ _ _ _ _ _ _ _ H1.out H2.out).mono ?_; rintro e w3 ⟨ag, lg, cg, rfl, lcg, ccg, hG, hb3⟩
  have l3 : lg ≤ (a.size + 3) / 4 ∨ lg ≤ (b.size + 3) / 4 := by
    rcases Nat.eq_zero_or_pos (nv a) with h | h
    · right
      rw [h, Nat.gcd_zero_left] at hG
      exact RetLimbs.lim (w := w) hG (nv_lt b) (by omega)
    · left
      exact RetLimbs.lim (w := w) hG (Nat.lt_of_le_of_lt (Nat.gcd_le_left _ h) (nv_lt a)) (by omega)
  have hlg : lg ≤ 268435456 := by omega
  have HG := Lib.hid hG
  have HB := Lib.hid (chain HB.out hb3 (Nat.le_refl _))
  clear hb3 hG H1 H2
  go_wp2_with fail
  refine (rtext_any _ _ _ _ _ HG.out hlg lcg).mono ?_; rintro e w4 ⟨rfl, hb4⟩
  have HB := Lib.hid (chain HB.out hb4 (Nat.le_refl _))
  clear hb4 HG
  go_wp2
  go_ret
  exact ⟨rfl, HB.out⟩
end Go.Proofs.Ins
