/- The walks of insolvencyref1: order, minus, times, short. -/
import Derived.Test.YthplmloambdmlaaGreatDoorZ6
import Derived.Deep.RegionHeld3
import Derived.Deep.DrawnRows
import Derived.Deep.LoopGhost
import Derived.Test.YthplmloambdmlaaGreatDoorZ3

set_option linter.unusedSimpArgs false
set_option linter.unusedVariables false
namespace Go.Proofs.Ins
open Go.RowKit

/-- A quotient and a rest, handed back as limbs. -/
def RetDiv (w : World) (x y : Nat) (e : Ending) (w' : World) : Prop :=
  ∃ q lq cq r lr cr, e = .returned (.tuple #[.slice q lq cq, .slice r lr cr]) ∧ lq ≤ cq ∧ cq ≤ 9223372036854775807 ∧ lr ≤ cr ∧ cr ≤ 9223372036854775807 ∧ Limbs w' q lq (x / y) ∧ Limbs w' r lr (x % y) ∧ Below w.heap.size w w'

theorem limbs_nil (w : World) : Limbs w none 0 0 := ⟨fun _ => 0, rfl, ⟨fun j hj => by omega, .inl rfl⟩, .inl rfl⟩

set_option maxRecDepth 100000 in
set_option maxHeartbeats 1600000 in
theorem divide_less (ax ay : Option Addr) (lx ly cx cy x y : Nat) (w : World) (hX : Limbs w ax lx x) (hY : Limbs w ay ly y) (hlt : x < y) (h0 : lx ≤ 1073741824) (h1 : lx ≤ cx) (h2 : cx ≤ 9223372036854775807) (h3 : ly ≤ 4294967296) :
    Calls Tryz.prog 235 #[.slice ax lx cx, .slice ay ly cy] w (RetDiv w x y) := by
  have HX := Lib.hid hX
  have HY := Lib.hid hY
  have HL := Lib.hid hlt
  have hcm : decide (cmpN x y < 0) = true := by rw [cmpN_lt hlt]; rfl
  clear hX hY hlt
  go_enter Tryz.func235, Tryz.ntmps235
  go_wp2_with fail
  refine (compare_any _ _ _ _ _ _ _ _ _ HX.out HY.out (by omega) (by omega)).mono ?_
  rintro e w3 ⟨rfl, hb3⟩
  have hb := Lib.hid hb3
  clear hb3
  go_wp2
  go_ret2
  refine ⟨none, 0, 0, ax, lx, cx, rfl, by omega, by omega, h1, h2, ?_, ?_, hb.out⟩
  · rw [Nat.div_eq_of_lt HL.out]; exact limbs_nil _
  · rw [Nat.mod_eq_of_lt HL.out]; exact HX.out.below hb.out (Nat.le_refl _)

theorem row_one (w : World) (T : TypeId) (x : Nat) : Row (w.alloc (.cells #[.int .u32 (x : Int)] T)) w.heap.size T .u32 1 (fun _ => x) := by
  refine ⟨_, heap_alloc_new w _, rfl, fun j hj => ?_⟩
  obtain rfl : j = 0 := by omega
  rfl

set_option maxRecDepth 100000 in
set_option maxHeartbeats 1600000 in
theorem divide_small (ax ay : Option Addr) (lx cx cy x y : Nat) (w : World) (hX : Limbs w ax lx x) (hY : Limbs w ay 1 y) (hle : y ≤ x) (h1 : lx ≤ 1073741824) :
    Calls Tryz.prog 235 #[.slice ax lx cx, .slice ay 1 cy] w (RetDiv w x y) := by
  have hcm : decide (cmpN x y < 0) = false := by unfold cmpN; rw [if_neg (by omega)]; split <;> rfl
  have hy0 : 0 < y := by
    rcases Nat.eq_zero_or_pos y with e | e
    · have := hY.zero_iff.mp e; omega
    · exact e
  have hlx : 0 < lx := by
    rcases Nat.eq_zero_or_pos lx with e | e
    · have := hX.zero_iff.mpr e; omega
    · exact e
  have HX := Lib.hid hX
  have HY := Lib.hid hY
  clear hX hY hle
  go_enter Tryz.func235, Tryz.ntmps235
  go_wp2_with fail
  refine (compare_any _ _ _ _ _ _ _ _ _ HX.out HY.out (by omega) (by omega)).mono ?_
  rintro e w3 ⟨rfl, hb3⟩
  have HX3 := HX.out.below hb3 (Nat.le_refl _)
  have HY3 := HY.out.below hb3 (Nat.le_refl _)
  obtain ⟨fx, ex, kx, rx⟩ := HX3
  obtain ⟨fy, ey, ky, ry⟩ := HY3
  rcases rx with h0 | ⟨b1, o1, rfl, rx⟩
  · omega
  rcases ry with h0 | ⟨b2, o2, rfl, ry⟩
  · omega
  have hcell := ry 0 (by omega)
  have hy1 : fy 0 = y := by rw [← ey]; simp [lv]
  have hyl : y < LB := by rw [← hy1]; exact ky.1 0 (by omega)
  rw [hy1, Nat.add_zero] at hcell
  have RX := Lib.hid rx
  have KX := Lib.hid kx
  have EX := Lib.hid ex
  have hb := Lib.hid hb3
  clear rx ry kx ky ex ey hy1 hb3 HX HY
  go_wp2_with fail
  refine (divideSmall_walk _ _ _ _ _ _ _ h1 RX.out KX.out.1 hy0 hyl hlx).mono ?_
  rintro e w4 ⟨aq, lq, cq, rfl, g1, g2, g3, g4⟩
  rw [EX.out] at g3 ⊢
  have G3 := Lib.hid g3
  have G4 := Lib.hid g4
  clear g3 g4
  have hr : x % y < LB := Nat.lt_trans (Nat.mod_lt _ hy0) hyl
  have hrow := row_one w4 215 (x % y)
  generalize hR : x % y = R at *
  have HR := Lib.hid hR
  have HROW := Lib.hid hrow
  clear hR hrow
  have hlv : lv (fun _ => R) 1 = R := by simp [lv]
  have HLV := Lib.hid hlv
  clear hlv
  go_wp2_with fail
  refine (trim_row w4 w4.heap.size 1 215 (fun _ => R) _ (by omega) HROW.out (fun _ _ => hr) ((Below.refl _ _).alloc (Nat.le_refl _) _)).mono ?_
  rintro e w5 ⟨ar, lr, cr, rfl, k1, k2, k3, k4⟩
  rw [HLV.out] at k3
  have K3 := Lib.hid k3
  have K4 := Lib.hid k4
  clear k3 k4
  go_wp2
  go_ret2
  refine ⟨aq, lq, cq, ar, lr, cr, rfl, g1, g2, k1, k2, G3.out.below K4.out (Nat.le_refl _), ?_, ?_⟩
  · rw [HR.out]; exact K3.out
  · exact hb.out.trans ((G4.out.mono hb.out.size).trans (K4.out.mono (Nat.le_trans hb.out.size G4.out.size)))

/-- What the loop of the long division holds in memory. -/
def DivMem (w wr : World) (T : TypeId) (bu bq bd N q n : Nat) (G O d : Nat → Nat) : Prop :=
  Row wr bu T .u32 N G ∧ Row wr bq T .u32 q O ∧ Row wr bd T .u32 n d ∧ Below w.heap.size w wr

set_option maxRecDepth 100000 in
set_option maxHeartbeats 3200000 in
theorem divide_long (ax ay : Option Addr) (lx ly cx cy x y : Nat) (w : World) (hX : Limbs w ax lx x) (hY : Limbs w ay ly y) (hle : y ≤ x) (h1 : lx ≤ 1073741824) (hly : 2 ≤ ly) :
    Calls Tryz.prog 235 #[.slice ax lx cx, .slice ay ly cy] w (RetDiv w x y) := by
  have hcm : decide (cmpN x y < 0) = false := by unfold cmpN; rw [if_neg (by omega)]; split <;> rfl
  have hll : ly ≤ lx := by
    obtain ⟨fx, ex, kx, rx⟩ := hX
    obtain ⟨fy, ey, ky, ry⟩ := hY
    rcases Nat.lt_or_ge lx ly with h | h
    · have := kx.len_lt ky h; omega
    · exact h
  have HX := Lib.hid hX
  have HY := Lib.hid hY
  clear hX hY hle
  go_enter Tryz.func235, Tryz.ntmps235
  go_wp2_with fail
  refine (compare_any _ _ _ _ _ _ _ _ _ HX.out HY.out (by omega) (by omega)).mono ?_
  rintro e w3 ⟨rfl, hb3⟩
  have HX3 := HX.out.below hb3 (Nat.le_refl _)
  have HY3 := HY.out.below hb3 (Nat.le_refl _)
  obtain ⟨fx, ex, kx, rx⟩ := HX3
  obtain ⟨fy, ey, ky, ry⟩ := HY3
  rcases rx with h0 | ⟨b1, o1, rfl, rx⟩
  · omega
  rcases ry with h0 | ⟨b2, o2, rfl, ry⟩
  · omega
  have hcell := ry (ly - 1) (by omega)
  have htop : fy (ly - 1) ≠ 0 := by rcases ky.2 with h | h; omega; exact h
  have htl := ky.1 (ly - 1) (by omega)
  obtain ⟨s1, s2, s3⟩ := lz_spec (by omega) htl
  have hlzc := fun w => lz_call (fy (ly - 1)) w (by omega) htl
  generalize hS : lz (fy (ly - 1)) = s at *
  have RX := Lib.hid rx
  have RY := Lib.hid ry
  have KX := Lib.hid kx
  have KY := Lib.hid ky
  have EX := Lib.hid ex
  have EY := Lib.hid ey
  have HB := Lib.hid hb3
  have HLZ := Lib.hid hlzc
  have S2 := Lib.hid s2
  have S3 := Lib.hid s3
  have hl1 : ((ly : Int) == 1) = false := by simp; omega
  clear rx ry kx ky ex ey hb3 HX HY hlzc hS s2 s3
  go_wp2_with fail
  refine (HLZ.out _).mono ?_
  rintro e w4 ⟨rfl, rfl⟩
  go_wp2_with fail
  refine (shift_walk b2 o2 ly cy s ly fy _ (by omega) RY.out KY.out.1 s1 (by omega) (Nat.le_refl _) (.inr S3.out)).mono ?_
  rintro e w5 ⟨D, rfl, rD, eD, lD, hb5⟩
  have RX5 := Lib.hid (RX.out.below hb5 (RX.out.lt (by omega)))
  have RD := Lib.hid rD
  have ED := Lib.hid eD
  have LD := Lib.hid lD
  have HB5 := Lib.hid (HB.out.trans (hb5.mono HB.out.size))
  have z5 : w3.heap.size < w5.heap.size := rD.lt
  clear rD eD lD hb5
  obtain ⟨N, hN1, hN2⟩ : ∃ N, N ≤ lx + 1 ∧ lx + 1 ≤ N := ⟨lx + 1, by omega, by omega⟩
  obtain rfl : N = lx + 1 := by omega
  go_wp2_with fail
  refine (shift_walk b1 o1 lx cx s (lx + 1) fx _ (by omega) RX5.out KX.out.1 s1 (by omega) (by omega) (.inl (by omega))).mono ?_
  rintro e w6 ⟨G, rfl, rG, eG, lG, hb6⟩
  have RD6 := Lib.hid (RD.out.below hb6 z5)
  have RG := Lib.hid rG
  have EG := Lib.hid eG
  have LG := Lib.hid lG
  have HB6 := Lib.hid (HB5.out.trans (hb6.mono HB5.out.size))
  have z6 : w5.heap.size < w6.heap.size := rG.lt
  clear rG eG lG hb6
  obtain ⟨q, hq1, hq2⟩ : ∃ q, q + ly ≤ lx + 1 ∧ lx + 1 ≤ q + ly := ⟨lx + 1 - ly, by omega, by omega⟩
  go_wp2_with (refine wpList_makeT _ _ 213 215 .u32 4 q _ rfl rfl Tryz.underlying213 u32info rfl rfl (by omega) (by omega) (by omega) ?_; intro w7 hr7 hb7 hz7)
  have hqe : q + ly = lx + 1 := by omega
  have hw3 := HB.out.size
  have RG7 := Lib.hid (RG.out.below hb7 z6)
  have RD7 := Lib.hid (RD6.out.below hb7 (by omega))
  have HB7 := Lib.hid (HB6.out.trans (hb7.mono HB6.out.size))
  have hU : lv G (lx + 1) = x * 2 ^ s := by rw [EG.out, EX.out]
  have hV : lv D ly = y * 2 ^ s := by rw [ED.out, EY.out]
  have hVpos : 0 < y * 2 ^ s := by
    rw [← EY.out]
    have := KY.out.ge (by omega)
    exact Nat.mul_pos (Nat.lt_of_lt_of_le (Nat.pow_pos LB_pos) this) (Nat.pow_pos (by omega))
  have hVlt : y * 2 ^ s < LB ^ ly := by rw [← hV]; exact lv_lt LD.out
  have hless : x * 2 ^ s < LB ^ q * (y * 2 ^ s) := by
    have := ldiv_less (s := s) KX.out KY.out (by omega) hqe
    rw [EX.out, EY.out] at this; exact this
  have hnorm := shl_norm (by omega) ED.out LD.out S2.out
  have HU := Lib.hid hU
  have HV := Lib.hid hV
  have HVP := Lib.hid hVpos
  have HVL := Lib.hid hVlt
  have HLS := Lib.hid hless
  have HNM := Lib.hid hnorm
  have HQE := Lib.hid hqe
  clear hU hV hVpos hVlt hless hnorm hqe RX RX5 RY RD RD6 RG HB HB5 HB6 hb7 HLZ S2 S3 htop htl hcell EG ED hz7
  generalize w3.heap.size = bd at *
  generalize w5.heap.size = bu at *
  generalize w6.heap.size = bq at *
  go_loopw [13] (fun i wr => ∃ I : Int, i = .int .i64 I ∧ -1 ≤ I ∧ I < q ∧ (∃ G' O, DivMem w wr 215 bu bq bd (lx + 1) q ly G' O D ∧ LongDiv (lx + 1) ly q (I + 1).toNat (y * 2 ^ s) (x * 2 ^ s) G' O)) (fun i _ => (intOf i + 1).toNat)
  case atStart =>
    refine ⟨_, rfl, by omega, by omega, G, _, ⟨RG7.out, hr7, RD7.out, HB7.out⟩, ?_⟩
    rw [show ((q : Int) - 1 + 1).toNat = q by omega]
    exact ldiv_start HU.out HQE.out HLS.out LG.out
  case round =>
    obtain ⟨I, rfl, hI1, hI2, G', O, hmem, hld⟩ := hrel
    clear hr7 RG7 RD7 HB7
    have HM := Lib.hid hmem
    have HL := Lib.hid hld
    clear hmem hld
    by_cases h0 : I = -1
    · as_aux_lemma =>
      subst h0
      obtain ⟨r1, r2, r3⟩ := ldiv_end HL.out rfl
      have R1 := Lib.hid r1
      have R2 := Lib.hid r2
      have R3 := Lib.hid r3
      clear r1 r2 r3
      have q1 : (0 : Int) ≤ ly := by omega
      have q2 : (ly : Int) ≤ (lx : Int) + 1 := by omega
      go_wp2_with fail
      go_region_held3 (fun _ => True) (trivial) (first | (go_at_call 227; refine (trim_walk bq 0 q q O (tlen O q) _ (by omega) (Nat.le_refl _) HM.out.2.1.drew.reads (tlen_le O q) (tlen_zero O q) (tlen_top O q)).mono ?_; rintro e w' ⟨rfl, rfl⟩) | (go_at_call 307; refine (unshift_walk bu 0 ly (lx + 1) s (x % y) G' _ (by omega) (by omega) (fun j hj => HM.out.1.drew.reads j (by omega)) (fun j hj => HL.out.lG j (by omega)) s1 R2.out).mono ?_; rintro e w9 ⟨ar, lr, cr, rfl, k1, k2, k3, k4⟩))
      all_goals go_wp2
      all_goals go_ret2
      all_goals (refine ⟨_, _, _, ar, lr, cr, rfl, tlen_le O q, by omega, k1, k2, ?_, k3, ?_⟩)
      · have hl : Limbs wr.drew (some ⟨bq, 0, none⟩) (tlen O q) (x / y) :=
          ⟨O, by rw [tlen_lv]; exact R1.out, tlen_can R3.out, .inr ⟨bq, 0, rfl, fun j hj => HM.out.2.1.drew.reads j (Nat.lt_of_lt_of_le hj (tlen_le O q))⟩⟩
        exact hl.below k4 (Nat.le_refl _)
      · exact HM.out.2.2.2.drew.trans (k4.mono HM.out.2.2.2.drew.size)
    · as_aux_lemma =>
      obtain ⟨m, rfl⟩ := Int.eq_ofNat_of_zero_le (show 0 ≤ I by omega)
      have hm : m < q := by omega
      have HL2 : Hid (LongDiv (lx + 1) ly q (m + 1) (y * 2 ^ s) (x * 2 ^ s) G' O) := HL.out
      clear HL
      have hold := HM.out.2.1.cell (j := m) hm
      have hfr := HM.out.2.1.frozen m
      have hpre : StepPre ly m (lx + 1) G' D := ⟨hly, by omega, by omega, HL2.out.lG, LD.out, HNM.out, by rw [HV.out]; exact ldiv_window HL2.out (by omega)⟩
      have HPRE := Lib.hid hpre
      clear hpre
      go_wp2_with fail
      rw [show m + ly + 1 - m = ly + 1 by omega]
      refine (step_walk bu m (lx + 1) ly _ bd 0 ly G' D _ HPRE.out HM.out.1 (HM.out.2.2.1.reads) (by omega)).mono ?_
      rintro e w8 ⟨G2, rfl, rG2, lG2, oG2, wG2, htch⟩
      clear hold hfr
      have hrq := HM.out.2.1.touch htch (by omega : bq ≠ bu)
      have hrd := HM.out.2.2.1.touch htch (by omega : bd ≠ bu)
      have hbw := Touch.below HM.out.2.2.2 htch (by omega)
      have hold := hrq.cell (j := m) hm
      have hfr := hrq.frozen m
      have hst := ldiv_step HL2.out hm HVP.out HVL.out (by omega) (by rw [wG2, HV.out]) oG2 lG2
      rw [HV.out]
      have HST := Lib.hid hst
      have RQ := Lib.hid hrq
      have RD8 := Lib.hid hrd
      have HB8 := Lib.hid hbw
      have RG8 := Lib.hid rG2
      clear hst hrq hrd hbw rG2 lG2 oG2 wG2 htch
      go_wp2_with fail
      go_roundw
      case rel =>
        refine ⟨(m : Int) - 1, rfl, by omega, by omega, G2, _, ⟨RG8.out.setOther _ _ (by simp; omega), RQ.out.set m _, RD8.out.setOther _ _ (by simp; omega), HB8.out.setCell (by simp; omega) _⟩, ?_⟩
        rw [show ((m : Int) - 1 + 1).toNat = m by omega]
        exact HST.out
      case measure => simp [intOf]

theorem divide_any (ax ay : Option Addr) (lx ly cx cy x y : Nat) (w : World) (hX : Limbs w ax lx x) (hY : Limbs w ay ly y) (hy : 0 < y) (h1 : lx ≤ 1073741824) (h2 : lx ≤ cx) (h3 : cx ≤ 9223372036854775807) (h4 : ly ≤ 1073741824) :
    Calls Tryz.prog 235 #[.slice ax lx cx, .slice ay ly cy] w (RetDiv w x y) := by
  have hly : 0 < ly := by
    rcases Nat.eq_zero_or_pos ly with e | e
    · have := hY.zero_iff.mpr e; omega
    · exact e
  by_cases hlt : x < y
  · exact divide_less ax ay lx ly cx cy x y w hX hY hlt h1 h2 h3 (by omega)
  · by_cases h5 : ly = 1
    · subst h5; exact divide_small ax ay lx cx cy x y w hX hY (by omega) h1
    · exact divide_long ax ay lx ly cx cy x y w hX hY (by omega) h1 (by omega)

/-- What Divide hands back for a divisor that is not 0. -/
def divV (x y : Nat) : Value := .tuple #[.string (bn (x / y)), .string (bn (x % y)), .bool true]

set_option maxRecDepth 100000 in
set_option maxHeartbeats 1600000 in
theorem divideS_any (a b : ByteArray) (w : World) (ha : a.size ≤ 1073741824) (hb : b.size ≤ 1073741824) (hy : 0 < nv b) :
    Calls Tryz.prog 161 #[.string a, .string b] w fun e w' => e = .returned (divV (nv a) (nv b)) ∧ Below w.heap.size w w' := by
  have HYP := Lib.hid hy
  clear hy
  go_enter Tryz.func161, Tryz.ntmps161
  go_wp2_with fail
  refine (parse_any b _ hb).mono ?_; rintro e w1 ⟨ay, ly, cy, rfl, lcy, ccy, hY, hb1⟩
  have hlm := hY.len_str
  have hl0 : ((ly : Int) == 0) = false := by
    rcases Nat.eq_zero_or_pos ly with e | e
    · have := hY.zero_iff.mpr e; have := HYP.out; omega
    · simp; omega
  have HY := Lib.hid hY
  clear hY
  go_wp2_with fail
  refine (parse_any a _ ha).mono ?_; rintro e w2 ⟨ax, lx, cx, rfl, lcx, ccx, hX, hb2⟩
  have hll := hX.len_str
  have HX := Lib.hid hX
  have HY2 := Lib.hid (HY.out.below hb2 (Nat.le_refl _))
  have HB := Lib.hid (hb1.trans (hb2.mono hb1.size))
  clear hX HY hb1 hb2
  go_wp2_with fail
  refine (divide_any _ _ _ _ _ _ _ _ _ HX.out HY2.out HYP.out (by omega) lcx ccx (by omega)).mono ?_
  rintro e w3 ⟨aq, lq, cq, ar, lr, cr, rfl, g1, g2, g3, g4, g5, g6, g7⟩
  have k1 : lq ≤ (a.size + 3) / 4 := g5.len_le (Nat.lt_of_le_of_lt (Nat.div_le_self _ _) (nv_lt_LB a))
  have k2 : lr ≤ (a.size + 3) / 4 := g6.len_le (Nat.lt_of_le_of_lt (Nat.mod_le _ _) (nv_lt_LB a))
  have G5 := Lib.hid g5
  have G6 := Lib.hid g6
  have HB3 := Lib.hid (HB.out.trans (g7.mono HB.out.size))
  clear g5 g6 g7 HX HY2 HB
  go_wp2_with fail
  refine (text_any _ _ _ _ _ G5.out (by omega) g1).mono ?_
  rintro e w4 ⟨rfl, hb4⟩
  have G64 := Lib.hid (G6.out.below hb4 (Nat.le_refl _))
  have HB4 := Lib.hid (HB3.out.trans (hb4.mono HB3.out.size))
  clear hb4 G5 G6 HB3
  go_wp2_with fail
  refine (text_any _ _ _ _ _ G64.out (by omega) g3).mono ?_
  rintro e w5 ⟨rfl, hb5⟩
  go_wp2
  go_ret3
  exact ⟨rfl, HB4.out.trans (hb5.mono HB4.out.size)⟩
end Go.Proofs.Ins

set_option linter.unusedSimpArgs false
set_option linter.unusedVariables false
namespace Go.Proofs.Ins
open Go.RowKit

theorem Limbs.lt {w : World} {a : Option Addr} {len x : Nat} (h : Limbs w a len x) : x < LB ^ len := by
  obtain ⟨f, rfl, h2, _⟩ := h; exact h2.lt

/-- What the loop of GCD holds. -/
def GcdRel (w wr : World) (G : Nat) (k : Nat) (vx vy : Value) : Prop :=
  ∃ ax lx cx ay ly cy X, vx = .slice ax lx cx ∧ vy = .slice ay ly cy ∧ lx ≤ cx ∧ cx ≤ 9223372036854775807 ∧ lx ≤ 1073741824 ∧ ly ≤ cy ∧ cy ≤ 9223372036854775807 ∧ ly ≤ 1073741824 ∧ Limbs wr ax lx X ∧ Limbs wr ay ly k ∧ Nat.gcd X k = G ∧ Below w.heap.size w wr

set_option maxRecDepth 100000 in
set_option maxHeartbeats 1600000 in
theorem gcd_any (a b : ByteArray) (w : World) (ha : a.size ≤ 1073741824) (hb : b.size ≤ 1073741824) :
    Calls Tryz.prog 160 #[.string a, .string b] w fun e w' => e = .returned (.string (bn (Nat.gcd (nv a) (nv b)))) ∧ Below w.heap.size w w' := by
  go_enter Tryz.func160, Tryz.ntmps160
  go_wp2_with fail
  refine (parse_any a _ ha).mono ?_; rintro e w1 ⟨ax, lx, cx, rfl, lcx, ccx, hX1, hb1⟩
  go_wp2_with fail
  refine (parse_any b _ hb).mono ?_; rintro e w2 ⟨ay, ly, cy, rfl, lcy, ccy, hY, hb2⟩
  have hX := hX1.below hb2 (Nat.le_refl _)
  have hll := hX.len_str
  have hlm := hY.len_str
  have hstart : GcdRel w w2 (Nat.gcd (nv a) (nv b)) (nv b) (.slice ax lx cx) (.slice ay ly cy) :=
    ⟨ax, lx, cx, ay, ly, cy, nv a, rfl, rfl, lcx, ccx, by omega, lcy, ccy, by omega, hX, hY, rfl, hb1.trans (hb2.mono hb1.size)⟩
  have HS := Lib.hid hstart
  clear hX hY hX1 hb1 hb2 hstart
  go_wp2_with fail
  go_loopg [5, 6] (nv b) (fun k vx vy wr => GcdRel w wr (Nat.gcd (nv a) (nv b)) k vx vy)
  case atStart => exact HS.out
  case round =>
    obtain ⟨ax, lx, cx, ay, ly, cy, X, rfl, rfl, h1, h2, h3, h4, h5, h6, hX, hY, hg, hbel⟩ := hrel
    clear HS
    have HX := Lib.hid hX
    have HY := Lib.hid hY
    have HG := Lib.hid hg
    have HB := Lib.hid hbel
    by_cases h0 : ly = 0
    · as_aux_lemma =>
      subst h0
      have hk := hY.zero_iff.mpr rfl
      have HK := Lib.hid hk
      clear hk hX hY hg hbel
      go_wp2_with fail
      refine (text_any _ _ _ _ _ HX.out h3 h1).mono ?_
      rintro e w4 ⟨rfl, hb4⟩
      go_wp2
      go_ret
      refine ⟨ret_str ?_, HB.out.trans (hb4.mono HB.out.size)⟩
      have := HG.out
      rw [HK.out, Nat.gcd_zero_right] at this
      rw [this]
    · as_aux_lemma =>
      have hk : 0 < gk := by
        rcases Nat.eq_zero_or_pos gk with e | e
        · have := hY.zero_iff.mp e; omega
        · exact e
      have hl0 : decide ((0 : Int) < (ly : Int)) = true := by simp; omega
      clear hX hY hg hbel
      go_wp2_with fail
      refine (divide_any _ _ _ _ _ _ _ _ _ HX.out HY.out hk h3 h1 h2 h6).mono ?_
      rintro e w3 ⟨aq, lq, cq, ar, lr, cr, rfl, g1, g2, g3, g4, g5, g6, g7⟩
      have hlr : lr ≤ ly := g6.len_le (Nat.lt_trans (Nat.mod_lt _ hk) HY.out.lt)
      have hnew : GcdRel w w3 (Nat.gcd (nv a) (nv b)) (X % gk) (.slice ay ly cy) (.slice ar lr cr) :=
        ⟨ay, ly, cy, ar, lr, cr, gk, rfl, rfl, h4, h5, h6, g3, g4, by omega, HY.out.below g7 (Nat.le_refl _), g6, by rw [← HG.out, Nat.gcd_comm X gk, Nat.gcd_rec gk X, Nat.gcd_comm], HB.out.trans (g7.mono HB.out.size)⟩
      have HN := Lib.hid hnew
      have HML := Lib.hid (Nat.mod_lt X hk)
      clear hnew g5 g6 g7
      go_wp2_with fail
      go_roundg (X % gk)
      case measure => exact HML.out
      case rel => exact HN.out

theorem row_two (w : World) (T : TypeId) (x y : Nat) : Row (w.alloc (.cells #[.int .u32 (x : Int), .int .u32 (y : Int)] T)) w.heap.size T .u32 2 (fun j => if j = 0 then x else y) := by
  refine ⟨_, heap_alloc_new w _, rfl, fun j hj => ?_⟩
  rcases (show j = 0 ∨ j = 1 by omega) with rfl | rfl <;> rfl

set_option maxRecDepth 100000 in
set_option maxHeartbeats 1600000 in
theorem fromUint_any (u : Nat) (w : World) (hu : u < 18446744073709551616) :
    Calls Tryz.prog 162 #[.int .u64 (u : Int)] w fun e w' => e = .returned (.string (bn u)) ∧ Below w.heap.size w w' := by
  have e1 : ((u : Int) % 4294967296) = ((u % 4294967296 : Nat) : Int) := by omega
  have e2 : ((u : Int) / 4294967296) = ((u / 4294967296 : Nat) : Int) := by omega
  obtain ⟨x, hx⟩ : ∃ x, x = u % 4294967296 := ⟨_, rfl⟩
  obtain ⟨y, hy⟩ : ∃ y, y = u / 4294967296 := ⟨_, rfl⟩
  have hyl : y < 4294967296 := by omega
  have hu2 : (u : Int) ≤ 18446744073709551615 := by omega
  have hlv : lv (fun j => if j = 0 then x else y) 2 = u := by simp [lv]; unfold LB; omega
  have hlim : ∀ j, j < 2 → (if j = 0 then x else y) < LB := by intro j _; unfold LB; split <;> omega
  have hyl2 : (y : Int) % 4294967296 = y := by omega
  rw [← hx] at e1
  rw [← hy] at e2
  have HLV := Lib.hid hlv
  have HLM := Lib.hid hlim
  clear hx hy hlv hlim
  go_enter Tryz.func162, Tryz.ntmps162
  go_wp2_with fail
  have hrow := row_two w 215 x y
  refine (text_walk w.heap.size 0 2 2 _ _ (by omega) (by omega) hrow.reads HLM.out).mono ?_
  rintro e w4 ⟨rfl, hb4⟩
  rw [HLV.out]
  clear hrow
  go_wp2
  go_ret
  exact ⟨rfl, ((Below.refl _ _).alloc (Nat.le_refl _) _).trans (hb4.mono (by simp))⟩
end Go.Proofs.Ins

set_option linter.unusedSimpArgs false
set_option linter.unusedVariables false
namespace Go.Proofs.Ins
open Go.RowKit

theorem bv_drop (l : List UInt8) (k : Nat) (h : ∀ j, j < k → l.getD j 0 = 0) : bv (l.drop k) = bv l := by
  induction k generalizing l with
  | zero => rfl
  | succ k ih =>
    cases l with
    | nil => rfl
    | cons x l =>
      have hx : x = 0 := by simpa using h 0 (by omega)
      rw [List.drop_succ_cons, ih l (fun j hj => by simpa using h (j + 1) (by omega)), bv_cons, hx]
      simp

theorem extract_norm (s : ByteArray) (k : Nat) (hk : k ≤ s.size) (h : ∀ j, j < k → s.data.toList.getD j 0 = 0) (h2 : k = s.size ∨ s.data.toList.getD k 0 ≠ 0) : s.extract k s.size = bn (nv s) := by
  have e : (s.extract k s.size).data.toList = s.data.toList.drop k := by
    rw [Lib.extract_data, List.take_of_length_le]
    rw [List.length_drop, size_toList]
    exact Nat.le_refl _
  have e2 : nv (s.extract k s.size) = nv s := by unfold nv; rw [e]; exact bv_drop _ _ h
  rw [← e2]
  symm
  apply bn_unique
  rw [e]
  rcases h2 with h2 | h2
  · rw [List.drop_eq_nil_of_le (by rw [size_toList]; omega)]; simp
  · rw [List.head?_drop]
    rw [List.getD_eq_getElem?_getD] at h2
    intro h3
    rw [h3] at h2
    exact h2 rfl

theorem getD_eq (s : ByteArray) (k : Nat) (h : k < s.size) : s.data.toList.getD k 0 = s[k]'h := by
  rw [List.getD_eq_getElem?_getD, List.getElem?_eq_getElem (by rw [size_toList]; exact h)]
  rfl

set_option maxRecDepth 100000 in
set_option maxHeartbeats 400000 in
theorem rNormalize_any (s : ByteArray) (w : World) (hs : s.size ≤ 9223372036854775000) :
    Calls Tryz.prog 242 #[.string s] w fun e w' => e = .returned (.string (bn (nv s))) ∧ w = w' := by
  go_enter Tryz.func242, Tryz.ntmps242
  go_wp2
  go_loop [3] (fun v => ∃ k : Nat, v = .int .i64 k ∧ k ≤ s.size ∧ Hid (∀ j, j < k → s.data.toList.getD j 0 = 0)) (fun v => s.size - (intOf v).toNat)
  case atStart => exact ⟨0, rfl, by omega, fun j hj => by omega⟩
  case round =>
    obtain ⟨k, rfl, hk, hz⟩ := hrel
    by_cases hlt : k < s.size
    · have hgd := Lib.hid (getD_eq s k hlt)
      by_cases h0 : s[k].toNat = 0
      · have h0' : (s[k].toNat : Int) = 0 := by omega
        have HZ := Lib.hid h0
        clear h0
        go_wp2
        go_round
        case rel => exact ⟨k + 1, by go_num, by omega, fun j hj => by
          by_cases e : j = k
          · subst e; rw [hgd.out]; exact UInt8.toNat_inj.mp (by rw [HZ.out]; rfl)
          · exact hz.out j (by omega)⟩
        case measure => simp [intOf]; omega
      · have h0' : ((s[k].toNat : Int) == 0) = false := by simp; omega
        have hx := Lib.hid (extract_norm s k hk hz.out (.inr (by rw [hgd.out]; intro e; rw [e] at h0; exact h0 rfl)))
        clear h0
        go_wp2
        go_ret
        exact ⟨ret_str hx.out, rfl⟩
    · obtain rfl : k = s.size := by omega
      have hx := Lib.hid (extract_norm s s.size hk hz.out (.inl rfl))
      go_wp2
      go_ret
      exact ⟨ret_str (by rw [← hx.out]; simp), rfl⟩

set_option maxHeartbeats 400000 in
theorem strip_walk (b off len cap : Nat) (xs : Nat → Nat) (n : Nat) (w : World) (hl : len ≤ 4294967296) (hcap : len ≤ cap)
   (hc : ∀ j, j < len → w.cell? ⟨b, off + j, none⟩ = some (.int .u32 (xs j)))
   (hn : n ≤ len) (hz : ∀ j, n ≤ j → j < len → xs j = 0) (hnz : n = 0 ∨ xs (n-1) ≠ 0) :
    Calls Tryz.prog 318 #[.slice (some ⟨b, off, none⟩) len cap] w fun e w' => e = .returned (.slice (some ⟨b, off, none⟩) n cap) ∧ w = w' := by
  go_enter Tryz.func318, Tryz.ntmps318
  go_wp2
  go_loop [3] (fun i => ∃ k : Nat, i = .int .i64 k ∧ n ≤ k ∧ k ≤ len) (fun i => (intOf i).toNat)
  case atStart => exact ⟨len, rfl, hn, by omega⟩
  case round =>
    obtain ⟨k, rfl, h1, h2⟩ := hrel
    by_cases hk : k = n
    · subst hk
      by_cases h0 : k = 0
      · subst h0
        go_wp2
        go_ret
        exact ⟨rfl, rfl⟩
      · have h3 : xs (k-1) ≠ 0 := by omega
        have hcell := hc (k-1) (by omega)
        clear hc hz
        have hb : ((xs (k-1) : Int) == 0) = false := by simp; omega
        go_wp2
        go_ret
        exact ⟨rfl, rfl⟩
    · have hcell := hc (k-1) (by omega)
      have hz1 := hz (k-1) (by omega) (by omega)
      clear hc hz
      rw [hz1] at hcell
      clear hz1
      go_wp2
      go_round
      case rel => exact ⟨k-1, by go_num, by omega, by omega⟩
      case measure => simp [intOf]; omega

/-- A row of the call's own, trimmed. -/
theorem strip_row (w0 : World) (b len : Nat) (T : TypeId) (f : Nat → Nat) (w : World) (hl : len ≤ 4294967296) (hr : Row w b T .u32 len f) (hf : ∀ j, j < len → f j < LB) (hbel : Below w0.heap.size w0 w) :
    Calls Tryz.prog 318 #[.slice (some ⟨b, 0, none⟩) len len] w (RetLimbs w0 (lv f len)) :=
  (strip_walk b 0 len len f (tlen f len) w hl (Nat.le_refl _) hr.reads (tlen_le f len) (tlen_zero f len) (tlen_top f len)).mono (by
    rintro e w' ⟨rfl, rfl⟩
    refine ⟨_, _, _, rfl, tlen_le f len, (by omega), ⟨f, tlen_lv f len, tlen_can hf, ?_⟩, hbel⟩
    exact .inr ⟨b, 0, rfl, fun j hj => hr.reads j (Nat.lt_of_lt_of_le hj (tlen_le f len))⟩)


theorem bn_size_lower {x : Nat} (h : 0 < (bn x).size) : 256 ^ ((bn x).size - 1) ≤ x := by
  have h1 : bnL x ≠ [] := by
    intro e
    have : (bn x).size = (bnL x).length := rfl
    rw [e] at this
    have h0 : (bn x).size = 0 := this
    omega
  have := bv_ge (bnL_head x) h1
  rw [bv_bnL] at this
  exact this

theorem limbs_can (x n : Nat) (h1 : (bn x).size ≤ 4 * n) (h2 : 4 * n ≤ (bn x).size + 3) : Can (pw (byt (bn x)) (bn x).size) n ∧ lv (pw (byt (bn x)) (bn x).size) n = x := by
  have hv : lv (pw (byt (bn x)) (bn x).size) n = x := by rw [lv_pw _ h1, bl_byt, nv_bn]
  refine ⟨⟨fun j _ => pw_lt (byt_lt _) _ j, ?_⟩, hv⟩
  rcases Nat.eq_zero_or_pos n with e | e
  · exact .inl e
  · right
    intro h0
    obtain ⟨k, rfl⟩ : ∃ k, n = k + 1 := ⟨n - 1, by omega⟩
    rw [Nat.add_sub_cancel] at h0
    rw [lv_succ, h0, Nat.mul_zero, Nat.add_zero] at hv
    have h3 := lv_lt (f := pw (byt (bn x)) (bn x).size) (n := k) (fun j _ => pw_lt (byt_lt _) _ j)
    have h4 := bn_size_lower (x := x) (by omega)
    have h5 : LB ^ k ≤ 256 ^ ((bn x).size - 1) := by rw [LB_pow]; exact Nat.pow_le_pow_right (by omega) (by omega)
    omega

set_option maxRecDepth 100000 in
set_option maxHeartbeats 800000 in
theorem rlimbs_any (s : ByteArray) (w : World) (hs : s.size ≤ 1073741824) :
    Calls Tryz.prog 256 #[.string s] w (RetLimbs w (nv s)) := by
  have hsz := bn_size_of s
  obtain ⟨t, ht⟩ : ∃ t, t = bn (nv s) := ⟨_, rfl⟩
  have HN : Hid (∀ w, Calls Tryz.prog 242 #[.string s] w fun e w' => e = .returned (.string t) ∧ w = w') := by
    rw [ht]; exact fun w => rNormalize_any s w (by omega)
  rw [← ht] at hsz
  obtain ⟨n, hn1, hn2, hn⟩ : ∃ n, t.size ≤ 4 * n ∧ 4 * n ≤ t.size + 3 ∧ Hid (n = (t.size + 3) / 4) := ⟨_, by omega, by omega, rfl⟩
  have HC := Lib.hid (limbs_can (nv s) n (by rw [← ht]; exact hn1) (by rw [← ht]; exact hn2))
  rw [← ht] at HC
  clear ht
  go_enter Tryz.func256, Tryz.ntmps256
  go_wp2_with fail
  refine (HN.out _).mono ?_; rintro e w' ⟨rfl, rfl⟩
  go_wp2_with (refine wpList_makeT _ _ 212 215 .u32 4 n _ rfl rfl Tryz.underlying212 u32info rfl rfl (by have := hn.out; omega) (by omega) (by omega) ?_; intro w1 hr1 hb1 hz1)
  go_loopw [4] (fun i wr => ∃ k : Nat, i = .int .i64 k ∧ k ≤ t.size ∧ Row wr w.heap.size 215 .u32 n (pw (byt t) k) ∧ Below w.heap.size w wr) (fun i _ => t.size - (intOf i).toNat)
  case atStart => exact ⟨0, rfl, by omega, hr1.congr (fun j _ => (pw_zero _ _).symm), hb1⟩
  case round =>
    obtain ⟨k, rfl, hk, hrow, hbel⟩ := hrel
    clear hr1 hb1 hz1
    by_cases hlt : k < t.size
    · have hcell := hrow.cell (j := k/4) (by omega)
      have hfr := hrow.frozen (k/4)
      go_wp2
      have q2 : ((k : Int) / 4).toNat = k / 4 := by omega
      have q9 : ((t.size : Int) - 1 - k).toNat = t.size - 1 - k := by omega
      refine wp_region_still_tail 23 (by kernel_rfl) (by kernel_rfl) ?_
      simp only [List.take_succ_cons, List.take_zero, List.drop_succ_cons, List.drop_zero]
      repeat (refine wpStill_step (fun K hK => ?_); go_simp; (try simp (disch := omega) only [ar9]); (first | (refine hK _ ?_; clear hK K) | (simp (disch := omega) only [if_pos, dif_pos, if_neg, dif_neg, ar9]; go_simp; refine hK _ ?_; clear hK K)))
      refine wpStill_nil ?_
      change wpList _ _ _ _ _ (World.drew _)
      go_wp2
      go_round
      case rel =>
        refine ⟨k+1, by go_num, by omega, ?_, (hbel.setCell (Nat.le_refl _) _).drew⟩
        have hb := byt_lt t k
        have hx := pw_low (byt_lt t) k
        have hy := pw_lt (byt_lt t) (k+1) (k/4)
        rw [pw_next, upd_same] at hy
        rw [byt_eq t k (by omega)]
        have e1 : ((byt t k : Int) % 4294967296) = (byt t k : Int) := by omega
        have e2 : (byt t k : Int) * 2 ^ (8 * (k % 4)) % 4294967296 = (byt t k : Int) * 2 ^ (8 * (k % 4)) := by
          have : byt t k * 2 ^ (8 * (k % 4)) < 4294967296 := by unfold LB at hy; omega
          have h3 : (byt t k : Int) * 2 ^ (8 * (k % 4)) = ((byt t k * 2 ^ (8 * (k % 4)) : Nat) : Int) := by push_cast; rfl
          rw [h3]; omega
        rw [e1, e2, or_u32 _ _ _ hx hy]
        exact (hrow.set (k/4) _).drew.congr fun j _ => (pw_next _ _ _).symm
      case measure => simp [intOf]; omega
    · obtain rfl : k = t.size := by omega
      have HR := Lib.hid hrow
      clear hrow
      go_wp2
      go_ret
      exact ⟨_, n, n, rfl, Nat.le_refl _, by omega, ⟨_, HC.out.2, HC.out.1, .inr ⟨_, 0, rfl, HR.out.reads⟩⟩, hbel⟩
end Go.Proofs.Ins

set_option linter.unusedSimpArgs false
set_option linter.unusedVariables false
namespace Go.Proofs.Ins
open Go.RowKit

set_option maxRecDepth 100000 in
set_option maxHeartbeats 400000 in
theorem order_lt (a b : Option Addr) (la lb ca cb : Nat) (w : World) (h : la < lb) (h2 : lb ≤ 4294967296) :
    Calls Tryz.prog 259 #[.slice a la ca, .slice b lb cb] w fun e w' => e = .returned (.int .i64 (-1)) ∧ w = w' := by
  have HL2 : ((la : Int) != (lb : Int)) = true := by simp; omega
  have HL3 : decide (la < lb) = true := by simp; omega
  go_enter Tryz.func259, Tryz.ntmps259
  go_wp2
  go_ret
  exact ⟨rfl, rfl⟩

set_option maxRecDepth 100000 in
set_option maxHeartbeats 400000 in
theorem order_gt (a b : Option Addr) (la lb ca cb : Nat) (w : World) (h : lb < la) (h2 : la ≤ 4294967296) :
    Calls Tryz.prog 259 #[.slice a la ca, .slice b lb cb] w fun e w' => e = .returned (.int .i64 1) ∧ w = w' := by
  have HL2 : ((la : Int) != (lb : Int)) = true := by simp; omega
  have HL3 : decide (la < lb) = false := by simp; omega
  go_enter Tryz.func259, Tryz.ntmps259
  go_wp2
  go_ret
  exact ⟨rfl, rfl⟩

set_option maxRecDepth 100000 in
set_option maxHeartbeats 400000 in
theorem order_zero (a b : Option Addr) (ca cb : Nat) (w : World) :
    Calls Tryz.prog 259 #[.slice a 0 ca, .slice b 0 cb] w fun e w' => e = .returned (.int .i64 0) ∧ w = w' := by
  go_enter Tryz.func259, Tryz.ntmps259
  go_wp2
  go_loop [5] (fun v => v = .int .i64 (-1)) (fun _ => 0)
  case atStart => exact rfl
  case round =>
    subst hrel
    go_wp2
    go_ret
    exact ⟨rfl, rfl⟩

set_option maxRecDepth 100000 in
set_option maxHeartbeats 400000 in
theorem order_walk (b1 o1 b2 o2 n c1 c2 : Nat) (f g : Nat → Nat) (w : World) (hn : n ≤ 4294967296) (hn0 : 0 < n) (hf : Reads w b1 o1 .u32 n f) (hg : Reads w b2 o2 .u32 n g)
    (lf : ∀ j, j < n → f j < LB) (lg : ∀ j, j < n → g j < LB) :
    Calls Tryz.prog 259 #[.slice (some ⟨b1, o1, none⟩) n c1, .slice (some ⟨b2, o2, none⟩) n c2] w fun e w' => e = .returned (.int .i64 (cmpN (lv f n) (lv g n))) ∧ Below w.heap.size w w' := by
  have Hlf := Lib.hid lf
  have Hlg := Lib.hid lg
  have Hf := Lib.hid hf
  have Hg := Lib.hid hg
  clear lf lg hf hg
  go_enter Tryz.func259, Tryz.ntmps259
  go_wp2
  go_loopw [5] (fun v wr => ∃ i : Int, v = .int .i64 i ∧ -1 ≤ i ∧ i < n ∧ Hid (∀ j : Nat, i < j → j < n → f j = g j) ∧ ∃ q, wr = w.drewN q) (fun v _ => (intOf v + 1).toNat)
  case atStart => exact ⟨(n : Int) - 1, rfl, by omega, by omega, fun j h1 h2 => by omega, 0, rfl⟩
  case round =>
    obtain ⟨i, rfl, hi1, hi2, hall, q, rfl⟩ := hrel
    by_cases h0 : i = -1
    · subst h0
      have he : lv f n = lv g n := lv_congr fun j hj => hall.out j (by omega) hj
      have HE := Lib.hid he
      clear he
      go_wp2
      go_ret
      exact ⟨ret_int (by rw [HE.out, cmpN_eq]), below_drewN (Below.refl _ _) q⟩
    · obtain ⟨m, rfl⟩ := Int.eq_ofNat_of_zero_le (show 0 ≤ i by omega)
      have hm : (m : Int) < n := hi2
      have hc1 := Hf.out m (by omega)
      have hc2 := Hg.out m (by omega)
      rcases (show f m < g m ∨ g m < f m ∨ f m = g m by omega) with h | h | h
      · have t1 : ((f m : Int) != (g m : Int)) = true := by simp; omega
        have t2 : ((f m : Int) < (g m : Int)) := by omega
        have HR := Lib.hid (lv_lt_of_top Hlf.out Hlg.out (show m < n by omega) (fun j h1 h2 => hall.out j (by omega) h2) h)
        go_wp2
        go_quiet (fail)
        go_wp2
        go_quiet (fail)
        go_wp2
        go_ret
        exact ⟨ret_int (cmpN_lt HR.out).symm, below_drewN (below_drewN (below_drewN (Below.refl _ _) _) _) _⟩
      · have t1 : ((f m : Int) != (g m : Int)) = true := by simp; omega
        have t2 : decide ((f m : Int) < (g m : Int)) = false := by simp; omega
        have HR := Lib.hid (lv_lt_of_top Hlg.out Hlf.out (show m < n by omega) (fun j h1 h2 => (hall.out j (by omega) h2).symm) h)
        go_wp2
        go_quiet (fail)
        go_wp2
        go_quiet (fail)
        go_wp2
        go_ret
        exact ⟨ret_int (cmpN_gt HR.out).symm, below_drewN (below_drewN (below_drewN (Below.refl _ _) _) _) _⟩
      · rw [h] at hc1
        have H := Lib.hid h
        clear h
        go_wp2
        go_quiet (fail)
        go_wp2
        go_roundw
        case rel => exact ⟨(m : Int) - 1, rfl, by omega, by omega, fun j h1 h2 => by
          by_cases e : j = m
          · subst e; exact H.out
          · exact hall.out j (by omega) h2, _, rfl⟩
        case measure => simp [intOf]

theorem order_any (a b : Option Addr) (la lb ca cb x y : Nat) (w : World) (h1 : Limbs w a la x) (h2 : Limbs w b lb y) (l1 : la ≤ 4294967296) (l2 : lb ≤ 4294967296) :
    Calls Tryz.prog 259 #[.slice a la ca, .slice b lb cb] w fun e w' => e = .returned (.int .i64 (cmpN x y)) ∧ Below w.heap.size w w' := by
  obtain ⟨f, rfl, hf, rf⟩ := h1
  obtain ⟨g, rfl, hg, rg⟩ := h2
  by_cases h : la = lb
  · subst h
    by_cases h0 : la = 0
    · subst h0
      exact (order_zero a b ca cb w).mono fun e w' ⟨he, hw⟩ => ⟨he, hw ▸ Below.refl _ _⟩
    · rcases rf with rf | ⟨b1, o1, rfl, r1⟩
      · exact absurd rf h0
      rcases rg with rg | ⟨b2, o2, rfl, r2⟩
      · exact absurd rg h0
      exact order_walk b1 o1 b2 o2 la ca cb f g w l1 (by omega) r1 r2 hf.1 hg.1
  · rcases (show la < lb ∨ lb < la by omega) with c | c
    · refine (order_lt a b la lb ca cb w c l2).mono fun e w' ⟨he, hw⟩ => ⟨he.trans (ret_int ?_), hw ▸ Below.refl _ _⟩
      rw [cmpN_lt (hf.len_lt hg c)]
    · refine (order_gt a b la lb ca cb w c l1).mono fun e w' ⟨he, hw⟩ => ⟨he.trans (ret_int ?_), hw ▸ Below.refl _ _⟩
      rw [cmpN_gt (hg.len_lt hf c)]


theorem minus_rel {F G C : Nat} {f g : Nat → Nat} {k lx : Nat} {w2 wr : World} {T : TypeId}
    (hF : f k = F) (hG : g k = G) (hC : bor f g k = C) (lF : F < LB) (lG : G < LB) (hrow : Row wr w2.heap.size T .u32 lx (ext (ddg f g) k)) (hbel : Below w2.heap.size w2 wr) (hk : k < lx) (dg : Int) (hdg : dg = ((F + LB * (if F < G + C then 1 else 0) - G - C : Nat) : Int)) :
    Row (wr.setCell ⟨w2.heap.size, k, none⟩ (.int .u32 dg)) w2.heap.size T .u32 lx (ext (ddg f g) (k + 1)) ∧
      Below w2.heap.size w2 (wr.setCell ⟨w2.heap.size, k, none⟩ (.int .u32 dg)) := by
  refine ⟨?_, hbel.setCell (Nat.le_refl _) _⟩
  have e1 : dg = ((ddg f g k : Nat) : Int) := by
    rw [hdg]; unfold ddg; rw [bor_succ, hF, hG, hC]
  rw [e1]
  exact (hrow.set k _).congr fun j _ => ext_upd _ k _ rfl j

set_option maxRecDepth 100000 in
set_option maxHeartbeats 1600000 in
theorem minus_any (ax ay : Option Addr) (lx ly cx cy x y : Nat) (w : World) (hX : Limbs w ax lx x) (hY : Limbs w ay ly y) (hle : y ≤ x) (hl : lx ≤ 1073741824) :
    Calls Tryz.prog 260 #[.slice ax lx cx, .slice ay ly cy] w (RetLimbs w (x - y)) := by
  obtain ⟨fx, hX⟩ := hX
  obtain ⟨fy, hY⟩ := hY
  have HX : Hid (LimbsF w ax lx x fx) := hX
  have HY : Hid (LimbsF w ay ly y fy) := hY
  clear hX hY
  have hly : ly ≤ lx := by
    rcases Nat.lt_or_ge lx ly with h | h
    · have := HX.out.2.1.len_lt HY.out.2.1 h
      rw [HX.out.1, HY.out.1] at this; omega
    · exact h
  go_enter Tryz.func260, Tryz.ntmps260
  go_wp2_with (refine wpList_makeT _ _ 212 215 .u32 4 lx _ rfl rfl Tryz.underlying212 u32info rfl rfl (by omega) (by omega) (by omega) ?_; intro w3 hr3 hb3 hz3)
  go_loopw [6, 7] (fun c i wr => ∃ k : Nat, i = .int .i64 k ∧ k ≤ lx ∧ c = .int .u64 (bor (ext fx lx) (ext fy ly) k) ∧ Row wr w.heap.size 215 .u32 lx (ext (ddg (ext fx lx) (ext fy ly)) k) ∧ Below w.heap.size w wr) (fun _ i _ => lx - (intOf i).toNat)
  case atStart => exact ⟨0, rfl, by omega, rfl, hr3.congr (fun j _ => by rw [ext_out (by omega)]), hb3⟩
  case round =>
    obtain ⟨k, rfl, hk, rfl, hrow, hbel⟩ := hrel
    clear hr3 hb3 hz3
    have c0 := bor_le (ext fx lx) (ext fy ly) k
    have fk' := ext_lt HX.out.2.1.1 k
    have gk' := ext_lt HY.out.2.1.1 k
    have FK := Lib.hid fk'
    have GK := Lib.hid gk'
    have fk := fk'
    have gk := gk'
    rw [LB_eq] at fk gk
    clear fk' gk'
    by_cases hlt : k < lx
    · rcases HX.out.2.2 with h0 | ⟨b1, o1, rfl, r1⟩
      · omega
      have hcx := (r1.below hbel (r1.lt (by omega))) k hlt
      rw [← ext_in (f := fx) hlt] at hcx
      have hold := hrow.cell (j := k) (by omega)
      have hfr := hrow.frozen k
      rw [ext_out (Nat.le_refl k)] at hold
      have HBS := Lib.hid (bor_succ (ext fx lx) (ext fy ly) k)
      generalize hC : bor (ext fx lx) (ext fy ly) k = C at *
      generalize hF : ext fx lx k = F at *
      have HC := Lib.hid hC
      have HF := Lib.hid hF
      clear hC hF
      have c1 : (C : Int) ≤ 1 := by omega
      have f1 : (F : Int) ≤ 4294967295 := by omega
      generalize hG : ext fy ly k = G at *
      have HG := Lib.hid hG
      clear hG
      have g1 : (G : Int) ≤ 4294967295 := by omega
      have HROW := Lib.hid hrow
      by_cases hlt2 : k < ly
      · rcases HY.out.2.2 with h0 | ⟨b2, o2, rfl, r2⟩
        · omega
        have hcy := (r2.below hbel (r2.lt (by omega))) k hlt2
        rw [← ext_in (f := fy) hlt2, HG.out] at hcy
        by_cases hlow : F < C + G
        · as_aux_lemma =>
          clear hrow r1 r2
          go_wp2
          go_roundw
          case rel =>
            have hh := minus_rel HF.out HG.out HC.out FK.out GK.out HROW.out hbel hlt ((F : Int) + 4294967296 - (C + G)) (by rw [if_pos (by omega)]; unfold LB; omega)
            exact ⟨k + 1, by go_num, by omega, by rw [HBS.out, if_pos (by omega)]; rfl, hh⟩
          case measure => simp [intOf]; omega
        · as_aux_lemma =>
          clear hrow r1 r2
          go_wp2
          go_roundw
          case rel =>
            have hh := minus_rel HF.out HG.out HC.out FK.out GK.out HROW.out hbel hlt ((F : Int) - (C + G)) (by rw [if_neg (by omega)]; unfold LB; omega)
            exact ⟨k + 1, by go_num, by omega, by rw [HBS.out, if_neg (by omega)]; rfl, hh⟩
          case measure => simp [intOf]; omega
      · have hG0 : G = 0 := by rw [← HG.out]; exact ext_out (by omega)
        subst hG0
        have hnn : decide (k < ly) = false := by simp; omega
        by_cases hlow : F < C
        · as_aux_lemma =>
          clear hrow r1
          go_wp2
          go_roundw
          case rel =>
            have hh := minus_rel HF.out HG.out HC.out FK.out GK.out HROW.out hbel hlt ((F : Int) + 4294967296 - C) (by rw [if_pos (by omega)]; unfold LB; omega)
            exact ⟨k + 1, by go_num, by omega, by rw [HBS.out, if_pos (by omega)]; rfl, hh⟩
          case measure => simp [intOf]; omega
        · as_aux_lemma =>
          clear hrow r1
          go_wp2
          go_roundw
          case rel =>
            have hh := minus_rel HF.out HG.out HC.out FK.out GK.out HROW.out hbel hlt ((F : Int) - C) (by rw [if_neg (by omega)]; unfold LB; omega)
            exact ⟨k + 1, by go_num, by omega, by rw [HBS.out, if_neg (by omega)]; rfl, hh⟩
          case measure => simp [intOf]; omega
    · obtain rfl : k = lx := by omega
      have hs := ddg_lv (f := ext fx k) (g := ext fy ly) (k := k) (fun j _ => ext_lt HX.out.2.1.1 j) (fun j _ => ext_lt HY.out.2.1.1 j)
      have hlim : ∀ j, j < k → ext (ddg (ext fx k) (ext fy ly)) k j < LB := fun j hj => by
        rw [ext_in hj]; exact (ddg_eq (ext_lt HX.out.2.1.1 j) (ext_lt HY.out.2.1.1 j)).2
      have hfin : lv (ext (ddg (ext fx k) (ext fy ly)) k) k = x - y := by
        have hlt := lv_lt hlim
        have e0 := lv_ext (f := ddg (ext fx k) (ext fy ly)) (Nat.le_refl k)
        rw [e0] at hlt ⊢
        rw [lv_ext (f := fx) (Nat.le_refl k), lv_ext hly, HX.out.1, HY.out.1] at hs
        rcases (show bor (ext fx k) (ext fy ly) k = 0 ∨ bor (ext fx k) (ext fy ly) k = 1 by omega) with c | c
        · rw [c] at hs; omega
        · rw [c] at hs; omega
      have HF := Lib.hid hfin
      have HL := Lib.hid hlim
      have HR := Lib.hid hrow
      clear hfin hlim hs hrow
      go_wp2_with fail
      refine (strip_row w w.heap.size k 215 _ _ (by omega) HR.out HL.out hbel).mono ?_
      rintro e w' ⟨a, len, cap, rfl, h1, h2, h3, h4⟩
      rw [HF.out] at h3
      go_wp2
      go_ret
      exact ⟨a, len, cap, rfl, h1, h2, h3, h4⟩


end Go.Proofs.Ins
