/- The walks of natural: divide, Divide, GCD. -/
import Derived.Test.YtobbllakdjampaaGreatDoorW8
import Derived.Deep.RegionHeld3
import Derived.Deep.DrawnRows
set_option linter.unusedSimpArgs false
set_option linter.unusedVariables false
namespace Go.Proofs.Ins
open Go.RowKit

/-- A quotient and a rest, handed back as limbs. -/
def RetDiv (w : World) (x y : Nat) (e : Ending) (w' : World) : Prop :=
  ∃ q lq cq r lr cr, e = .returned (.tuple #[.slice q lq cq, .slice r lr cr]) ∧ lq ≤ cq ∧ cq ≤ 9223372036854775807 ∧ lr ≤ cr ∧ cr ≤ 9223372036854775807 ∧ Limbs w' q lq (x / y) ∧ Limbs w' r lr (x % y) ∧ Below w.heap.size w w'

theorem limbs_nil (w : World) : Limbs w none 0 0 := ⟨fun _ => 0, rfl, ⟨fun j hj => by omega, .inl rfl⟩, .inl rfl⟩

set_option maxRecDepth 100000 in
set_option maxHeartbeats 1600000 in
theorem divide_less (ax ay : Option Addr) (lx ly cx cy x y : Nat) (w : World) (hX : Limbs w ax lx x) (hY : Limbs w ay ly y) (hlt : x < y) (h0 : lx ≤ 1073741824) (h1 : lx ≤ cx) (h2 : cx ≤ 9223372036854775807) (h3 : ly ≤ 4294967296) :
    Calls Tryz.prog 124 #[.slice ax lx cx, .slice ay ly cy] w (RetDiv w x y) := by
  have HX := Lib.hid hX
  have HY := Lib.hid hY
  have HL := Lib.hid hlt
  have hcm : decide (cmpN x y < 0) = true := by rw [cmpN_lt hlt]; rfl
  clear hX hY hlt
  go_enter Tryz.func124, Tryz.ntmps124
  go_wp2_with fail
  refine (compare_any _ _ _ _ _ _ _ _ _ HX.out HY.out (by omega) (by omega)).mono ?_
  rintro e w3 ⟨rfl, hb3⟩
  have hb := Lib.hid hb3
  clear hb3
  go_wp2
  go_ret2
  refine ⟨none, 0, 0, ax, lx, cx, rfl, by omega, by omega, h1, h2, ?_, ?_, hb.out⟩
  · rw [Nat.div_eq_of_lt HL.out]; exact limbs_nil _
  · rw [Nat.mod_eq_of_lt HL.out]; exact HX.out.below hb.out (Nat.le_refl _)

theorem row_one (w : World) (T : TypeId) (x : Nat) : Row (w.alloc (.cells #[.int .u32 (x : Int)] T)) w.heap.size T .u32 1 (fun _ => x) := by
  refine ⟨_, heap_alloc_new w _, rfl, fun j hj => ?_⟩
  obtain rfl : j = 0 := by omega
  rfl

set_option maxRecDepth 100000 in
set_option maxHeartbeats 1600000 in
theorem divide_small (ax ay : Option Addr) (lx cx cy x y : Nat) (w : World) (hX : Limbs w ax lx x) (hY : Limbs w ay 1 y) (hle : y ≤ x) (h1 : lx ≤ 1073741824) :
    Calls Tryz.prog 124 #[.slice ax lx cx, .slice ay 1 cy] w (RetDiv w x y) := by
  have hcm : decide (cmpN x y < 0) = false := by unfold cmpN; rw [if_neg (by omega)]; split <;> rfl
  have hy0 : 0 < y := by
    rcases Nat.eq_zero_or_pos y with e | e
    · have := hY.zero_iff.mp e; omega
    · exact e
  have hlx : 0 < lx := by
    rcases Nat.eq_zero_or_pos lx with e | e
    · have := hX.zero_iff.mpr e; omega
    · exact e
  have HX := Lib.hid hX
  have HY := Lib.hid hY
  clear hX hY hle
  go_enter Tryz.func124, Tryz.ntmps124
  go_wp2_with fail
  refine (compare_any _ _ _ _ _ _ _ _ _ HX.out HY.out (by omega) (by omega)).mono ?_
  rintro e w3 ⟨rfl, hb3⟩
  have HX3 := HX.out.below hb3 (Nat.le_refl _)
  have HY3 := HY.out.below hb3 (Nat.le_refl _)
  obtain ⟨fx, ex, kx, rx⟩ := HX3
  obtain ⟨fy, ey, ky, ry⟩ := HY3
  rcases rx with h0 | ⟨b1, o1, rfl, rx⟩
  · omega
  rcases ry with h0 | ⟨b2, o2, rfl, ry⟩
  · omega
  have hcell := ry 0 (by omega)
  have hy1 : fy 0 = y := by rw [← ey]; simp [lv]
  have hyl : y < LB := by rw [← hy1]; exact ky.1 0 (by omega)
  rw [hy1, Nat.add_zero] at hcell
  have RX := Lib.hid rx
  have KX := Lib.hid kx
  have EX := Lib.hid ex
  have hb := Lib.hid hb3
  clear rx ry kx ky ex ey hy1 hb3 HX HY
  go_wp2_with fail
  refine (divideSmall_walk _ _ _ _ _ _ _ h1 RX.out KX.out.1 hy0 hyl hlx).mono ?_
  rintro e w4 ⟨aq, lq, cq, rfl, g1, g2, g3, g4⟩
  rw [EX.out] at g3 ⊢
  have G3 := Lib.hid g3
  have G4 := Lib.hid g4
  clear g3 g4
  have hr : x % y < LB := Nat.lt_trans (Nat.mod_lt _ hy0) hyl
  have hrow := row_one w4 142 (x % y)
  generalize hR : x % y = R at *
  have HR := Lib.hid hR
  have HROW := Lib.hid hrow
  clear hR hrow
  have hlv : lv (fun _ => R) 1 = R := by simp [lv]
  have HLV := Lib.hid hlv
  clear hlv
  go_wp2_with fail
  refine (trim_row w4 w4.heap.size 1 142 (fun _ => R) _ (by omega) HROW.out (fun _ _ => hr) ((Below.refl _ _).alloc (Nat.le_refl _) _)).mono ?_
  rintro e w5 ⟨ar, lr, cr, rfl, k1, k2, k3, k4⟩
  rw [HLV.out] at k3
  have K3 := Lib.hid k3
  have K4 := Lib.hid k4
  clear k3 k4
  go_wp2
  go_ret2
  refine ⟨aq, lq, cq, ar, lr, cr, rfl, g1, g2, k1, k2, G3.out.below K4.out (Nat.le_refl _), ?_, ?_⟩
  · rw [HR.out]; exact K3.out
  · exact hb.out.trans ((G4.out.mono hb.out.size).trans (K4.out.mono (Nat.le_trans hb.out.size G4.out.size)))

/-- What the loop of the long division holds in memory. -/
def DivMem (w wr : World) (T : TypeId) (bu bq bd N q n : Nat) (G O d : Nat → Nat) : Prop :=
  Row wr bu T .u32 N G ∧ Row wr bq T .u32 q O ∧ Row wr bd T .u32 n d ∧ Below w.heap.size w wr

set_option maxRecDepth 100000 in
set_option maxHeartbeats 3200000 in
theorem divide_long (ax ay : Option Addr) (lx ly cx cy x y : Nat) (w : World) (hX : Limbs w ax lx x) (hY : Limbs w ay ly y) (hle : y ≤ x) (h1 : lx ≤ 1073741824) (hly : 2 ≤ ly) :
    Calls Tryz.prog 124 #[.slice ax lx cx, .slice ay ly cy] w (RetDiv w x y) := by
  have hcm : decide (cmpN x y < 0) = false := by unfold cmpN; rw [if_neg (by omega)]; split <;> rfl
  have hll : ly ≤ lx := by
    obtain ⟨fx, ex, kx, rx⟩ := hX
    obtain ⟨fy, ey, ky, ry⟩ := hY
    rcases Nat.lt_or_ge lx ly with h | h
    · have := kx.len_lt ky h; omega
    · exact h
  have HX := Lib.hid hX
  have HY := Lib.hid hY
  clear hX hY hle
  go_enter Tryz.func124, Tryz.ntmps124
  go_wp2_with fail
  refine (compare_any _ _ _ _ _ _ _ _ _ HX.out HY.out (by omega) (by omega)).mono ?_
  rintro e w3 ⟨rfl, hb3⟩
  have HX3 := HX.out.below hb3 (Nat.le_refl _)
  have HY3 := HY.out.below hb3 (Nat.le_refl _)
  obtain ⟨fx, ex, kx, rx⟩ := HX3
  obtain ⟨fy, ey, ky, ry⟩ := HY3
  rcases rx with h0 | ⟨b1, o1, rfl, rx⟩
  · omega
  rcases ry with h0 | ⟨b2, o2, rfl, ry⟩
  · omega
  have hcell := ry (ly - 1) (by omega)
  have htop : fy (ly - 1) ≠ 0 := by rcases ky.2 with h | h; omega; exact h
  have htl := ky.1 (ly - 1) (by omega)
  obtain ⟨s1, s2, s3⟩ := lz_spec (by omega) htl
  have hlzc := fun w => lz_call (fy (ly - 1)) w (by omega) htl
  generalize hS : lz (fy (ly - 1)) = s at *
  have RX := Lib.hid rx
  have RY := Lib.hid ry
  have KX := Lib.hid kx
  have KY := Lib.hid ky
  have EX := Lib.hid ex
  have EY := Lib.hid ey
  have HB := Lib.hid hb3
  have HLZ := Lib.hid hlzc
  have S2 := Lib.hid s2
  have S3 := Lib.hid s3
  have hl1 : ((ly : Int) == 1) = false := by simp; omega
  clear rx ry kx ky ex ey hb3 HX HY hlzc hS s2 s3
  go_wp2_with fail
  refine (HLZ.out _).mono ?_
  rintro e w4 ⟨rfl, rfl⟩
  go_wp2_with fail
  refine (shift_walk b2 o2 ly cy s ly fy _ (by omega) RY.out KY.out.1 s1 (by omega) (Nat.le_refl _) (.inr S3.out)).mono ?_
  rintro e w5 ⟨D, rfl, rD, eD, lD, hb5⟩
  have RX5 := Lib.hid (RX.out.below hb5 (RX.out.lt (by omega)))
  have RD := Lib.hid rD
  have ED := Lib.hid eD
  have LD := Lib.hid lD
  have HB5 := Lib.hid (HB.out.trans (hb5.mono HB.out.size))
  have z5 : w3.heap.size < w5.heap.size := rD.lt
  clear rD eD lD hb5
  obtain ⟨N, hN1, hN2⟩ : ∃ N, N ≤ lx + 1 ∧ lx + 1 ≤ N := ⟨lx + 1, by omega, by omega⟩
  obtain rfl : N = lx + 1 := by omega
  go_wp2_with fail
  refine (shift_walk b1 o1 lx cx s (lx + 1) fx _ (by omega) RX5.out KX.out.1 s1 (by omega) (by omega) (.inl (by omega))).mono ?_
  rintro e w6 ⟨G, rfl, rG, eG, lG, hb6⟩
  have RD6 := Lib.hid (RD.out.below hb6 z5)
  have RG := Lib.hid rG
  have EG := Lib.hid eG
  have LG := Lib.hid lG
  have HB6 := Lib.hid (HB5.out.trans (hb6.mono HB5.out.size))
  have z6 : w5.heap.size < w6.heap.size := rG.lt
  clear rG eG lG hb6
  obtain ⟨q, hq1, hq2⟩ : ∃ q, q + ly ≤ lx + 1 ∧ lx + 1 ≤ q + ly := ⟨lx + 1 - ly, by omega, by omega⟩
  go_wp2_with (refine wpList_makeT _ _ 148 142 .u32 4 q _ rfl rfl Tryz.underlying148 u32info rfl rfl (by omega) (by omega) (by omega) ?_; intro w7 hr7 hb7 hz7)
  have hqe : q + ly = lx + 1 := by omega
  have hw3 := HB.out.size
  have RG7 := Lib.hid (RG.out.below hb7 z6)
  have RD7 := Lib.hid (RD6.out.below hb7 (by omega))
  have HB7 := Lib.hid (HB6.out.trans (hb7.mono HB6.out.size))
  have hU : lv G (lx + 1) = x * 2 ^ s := by rw [EG.out, EX.out]
  have hV : lv D ly = y * 2 ^ s := by rw [ED.out, EY.out]
  have hVpos : 0 < y * 2 ^ s := by
    rw [← EY.out]
    have := KY.out.ge (by omega)
    exact Nat.mul_pos (Nat.lt_of_lt_of_le (Nat.pow_pos LB_pos) this) (Nat.pow_pos (by omega))
  have hVlt : y * 2 ^ s < LB ^ ly := by rw [← hV]; exact lv_lt LD.out
  have hless : x * 2 ^ s < LB ^ q * (y * 2 ^ s) := by
    have := ldiv_less (s := s) KX.out KY.out (by omega) hqe
    rw [EX.out, EY.out] at this; exact this
  have hnorm := shl_norm (by omega) ED.out LD.out S2.out
  have HU := Lib.hid hU
  have HV := Lib.hid hV
  have HVP := Lib.hid hVpos
  have HVL := Lib.hid hVlt
  have HLS := Lib.hid hless
  have HNM := Lib.hid hnorm
  have HQE := Lib.hid hqe
  clear hU hV hVpos hVlt hless hnorm hqe RX RX5 RY RD RD6 RG HB HB5 HB6 hb7 HLZ S2 S3 htop htl hcell EG ED hz7
  generalize w3.heap.size = bd at *
  generalize w5.heap.size = bu at *
  generalize w6.heap.size = bq at *
  go_loopw [13] (fun i wr => ∃ I : Int, i = .int .i64 I ∧ -1 ≤ I ∧ I < q ∧ (∃ G' O, DivMem w wr 142 bu bq bd (lx + 1) q ly G' O D ∧ LongDiv (lx + 1) ly q (I + 1).toNat (y * 2 ^ s) (x * 2 ^ s) G' O)) (fun i _ => (intOf i + 1).toNat)
  case atStart =>
    refine ⟨_, rfl, by omega, by omega, G, _, ⟨RG7.out, hr7, RD7.out, HB7.out⟩, ?_⟩
    rw [show ((q : Int) - 1 + 1).toNat = q by omega]
    exact ldiv_start HU.out HQE.out HLS.out LG.out
  case round =>
    obtain ⟨I, rfl, hI1, hI2, G', O, hmem, hld⟩ := hrel
    clear hr7 RG7 RD7 HB7
    have HM := Lib.hid hmem
    have HL := Lib.hid hld
    clear hmem hld
    by_cases h0 : I = -1
    · as_aux_lemma =>
      subst h0
      obtain ⟨r1, r2, r3⟩ := ldiv_end HL.out rfl
      have R1 := Lib.hid r1
      have R2 := Lib.hid r2
      have R3 := Lib.hid r3
      clear r1 r2 r3
      have q1 : (0 : Int) ≤ ly := by omega
      have q2 : (ly : Int) ≤ (lx : Int) + 1 := by omega
      go_wp2_with fail
      go_region_held3 (fun _ => True) (trivial) (first | (go_at_call 134; refine (trim_walk bq 0 q q O (tlen O q) _ (by omega) (Nat.le_refl _) HM.out.2.1.drew.reads (tlen_le O q) (tlen_zero O q) (tlen_top O q)).mono ?_; rintro e w' ⟨rfl, rfl⟩) | (go_at_call 146; refine (unshift_walk bu 0 ly (lx + 1) s (x % y) G' _ (by omega) (by omega) (fun j hj => HM.out.1.drew.reads j (by omega)) (fun j hj => HL.out.lG j (by omega)) s1 R2.out).mono ?_; rintro e w9 ⟨ar, lr, cr, rfl, k1, k2, k3, k4⟩))
      all_goals go_wp2
      all_goals go_ret2
      all_goals (refine ⟨_, _, _, ar, lr, cr, rfl, tlen_le O q, by omega, k1, k2, ?_, k3, ?_⟩)
      · have hl : Limbs wr.drew (some ⟨bq, 0, none⟩) (tlen O q) (x / y) :=
          ⟨O, by rw [tlen_lv]; exact R1.out, tlen_can R3.out, .inr ⟨bq, 0, rfl, fun j hj => HM.out.2.1.drew.reads j (Nat.lt_of_lt_of_le hj (tlen_le O q))⟩⟩
        exact hl.below k4 (Nat.le_refl _)
      · exact HM.out.2.2.2.drew.trans (k4.mono HM.out.2.2.2.drew.size)
    · as_aux_lemma =>
      obtain ⟨m, rfl⟩ := Int.eq_ofNat_of_zero_le (show 0 ≤ I by omega)
      have hm : m < q := by omega
      have HL2 : Hid (LongDiv (lx + 1) ly q (m + 1) (y * 2 ^ s) (x * 2 ^ s) G' O) := HL.out
      clear HL
      have hold := HM.out.2.1.cell (j := m) hm
      have hfr := HM.out.2.1.frozen m
      have hpre : StepPre ly m (lx + 1) G' D := ⟨hly, by omega, by omega, HL2.out.lG, LD.out, HNM.out, by rw [HV.out]; exact ldiv_window HL2.out (by omega)⟩
      have HPRE := Lib.hid hpre
      clear hpre
      go_wp2_with fail
      rw [show m + ly + 1 - m = ly + 1 by omega]
      refine (step_walk bu m (lx + 1) ly _ bd 0 ly G' D _ HPRE.out HM.out.1 (HM.out.2.2.1.reads) (by omega)).mono ?_
      rintro e w8 ⟨G2, rfl, rG2, lG2, oG2, wG2, htch⟩
      clear hold hfr
      have hrq := HM.out.2.1.touch htch (by omega : bq ≠ bu)
      have hrd := HM.out.2.2.1.touch htch (by omega : bd ≠ bu)
      have hbw := Touch.below HM.out.2.2.2 htch (by omega)
      have hold := hrq.cell (j := m) hm
      have hfr := hrq.frozen m
      have hst := ldiv_step HL2.out hm HVP.out HVL.out (by omega) (by rw [wG2, HV.out]) oG2 lG2
      rw [HV.out]
      have HST := Lib.hid hst
      have RQ := Lib.hid hrq
      have RD8 := Lib.hid hrd
      have HB8 := Lib.hid hbw
      have RG8 := Lib.hid rG2
      clear hst hrq hrd hbw rG2 lG2 oG2 wG2 htch
      go_wp2_with fail
      go_roundw
      case rel =>
        refine ⟨(m : Int) - 1, rfl, by omega, by omega, G2, _, ⟨RG8.out.setOther _ _ (by simp; omega), RQ.out.set m _, RD8.out.setOther _ _ (by simp; omega), HB8.out.setCell (by simp; omega) _⟩, ?_⟩
        rw [show ((m : Int) - 1 + 1).toNat = m by omega]
        exact HST.out
      case measure => simp [intOf]

theorem divide_any (ax ay : Option Addr) (lx ly cx cy x y : Nat) (w : World) (hX : Limbs w ax lx x) (hY : Limbs w ay ly y) (hy : 0 < y) (h1 : lx ≤ 1073741824) (h2 : lx ≤ cx) (h3 : cx ≤ 9223372036854775807) (h4 : ly ≤ 1073741824) :
    Calls Tryz.prog 124 #[.slice ax lx cx, .slice ay ly cy] w (RetDiv w x y) := by
  have hly : 0 < ly := by
    rcases Nat.eq_zero_or_pos ly with e | e
    · have := hY.zero_iff.mpr e; omega
    · exact e
  by_cases hlt : x < y
  · exact divide_less ax ay lx ly cx cy x y w hX hY hlt h1 h2 h3 (by omega)
  · by_cases h5 : ly = 1
    · subst h5; exact divide_small ax ay lx cx cy x y w hX hY (by omega) h1
    · exact divide_long ax ay lx ly cx cy x y w hX hY (by omega) h1 (by omega)

/-- What Divide hands back for a divisor that is not 0. -/
def divV (x y : Nat) : Value := .tuple #[.string (bn (x / y)), .string (bn (x % y)), .bool true]

set_option maxRecDepth 100000 in
set_option maxHeartbeats 1600000 in
theorem divideS_any (a b : ByteArray) (w : World) (ha : a.size ≤ 1073741824) (hb : b.size ≤ 1073741824) (hy : 0 < nv b) :
    Calls Tryz.prog 99 #[.string a, .string b] w fun e w' => e = .returned (divV (nv a) (nv b)) ∧ Below w.heap.size w w' := by
  have HYP := Lib.hid hy
  clear hy
  go_enter Tryz.func99, Tryz.ntmps99
  go_wp2_with fail
  refine (parse_any b _ hb).mono ?_; rintro e w1 ⟨ay, ly, cy, rfl, lcy, ccy, hY, hb1⟩
  have hlm := hY.len_str
  have hl0 : ((ly : Int) == 0) = false := by
    rcases Nat.eq_zero_or_pos ly with e | e
    · have := hY.zero_iff.mpr e; have := HYP.out; omega
    · simp; omega
  have HY := Lib.hid hY
  clear hY
  go_wp2_with fail
  refine (parse_any a _ ha).mono ?_; rintro e w2 ⟨ax, lx, cx, rfl, lcx, ccx, hX, hb2⟩
  have hll := hX.len_str
  have HX := Lib.hid hX
  have HY2 := Lib.hid (HY.out.below hb2 (Nat.le_refl _))
  have HB := Lib.hid (hb1.trans (hb2.mono hb1.size))
  clear hX HY hb1 hb2
  go_wp2_with fail
  refine (divide_any _ _ _ _ _ _ _ _ _ HX.out HY2.out HYP.out (by omega) lcx ccx (by omega)).mono ?_
  rintro e w3 ⟨aq, lq, cq, ar, lr, cr, rfl, g1, g2, g3, g4, g5, g6, g7⟩
  have k1 : lq ≤ (a.size + 3) / 4 := g5.len_le (Nat.lt_of_le_of_lt (Nat.div_le_self _ _) (nv_lt_LB a))
  have k2 : lr ≤ (a.size + 3) / 4 := g6.len_le (Nat.lt_of_le_of_lt (Nat.mod_le _ _) (nv_lt_LB a))
  have G5 := Lib.hid g5
  have G6 := Lib.hid g6
  have HB3 := Lib.hid (HB.out.trans (g7.mono HB.out.size))
  clear g5 g6 g7 HX HY2 HB
  go_wp2_with fail
  refine (text_any _ _ _ _ _ G5.out (by omega) g1).mono ?_
  rintro e w4 ⟨rfl, hb4⟩
  have G64 := Lib.hid (G6.out.below hb4 (Nat.le_refl _))
  have HB4 := Lib.hid (HB3.out.trans (hb4.mono HB3.out.size))
  clear hb4 G5 G6 HB3
  go_wp2_with fail
  refine (text_any _ _ _ _ _ G64.out (by omega) g3).mono ?_
  rintro e w5 ⟨rfl, hb5⟩
  go_wp2
  go_ret3
  exact ⟨rfl, HB4.out.trans (hb5.mono HB4.out.size)⟩
end Go.Proofs.Ins
