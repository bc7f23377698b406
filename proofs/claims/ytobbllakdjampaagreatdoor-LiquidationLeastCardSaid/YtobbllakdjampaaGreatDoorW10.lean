/- The walks of natural.GCD and natural.FromUint. -/
import Derived.Test.YtobbllakdjampaaGreatDoorW9
import Derived.Deep.LoopGhost
set_option linter.unusedSimpArgs false
set_option linter.unusedVariables false
namespace Go.Proofs.Ins
open Go.RowKit

theorem Limbs.lt {w : World} {a : Option Addr} {len x : Nat} (h : Limbs w a len x) : x < LB ^ len := by
  obtain ⟨f, rfl, h2, _⟩ := h; exact h2.lt

/-- What the loop of GCD holds. -/
def GcdRel (w wr : World) (G : Nat) (k : Nat) (vx vy : Value) : Prop :=
  ∃ ax lx cx ay ly cy X, vx = .slice ax lx cx ∧ vy = .slice ay ly cy ∧ lx ≤ cx ∧ cx ≤ 9223372036854775807 ∧ lx ≤ 1073741824 ∧ ly ≤ cy ∧ cy ≤ 9223372036854775807 ∧ ly ≤ 1073741824 ∧ Limbs wr ax lx X ∧ Limbs wr ay ly k ∧ Nat.gcd X k = G ∧ Below w.heap.size w wr

set_option maxRecDepth 100000 in
set_option maxHeartbeats 1600000 in
theorem gcd_any (a b : ByteArray) (w : World) (ha : a.size ≤ 1073741824) (hb : b.size ≤ 1073741824) :
    Calls Tryz.prog 98 #[.string a, .string b] w fun e w' => e = .returned (.string (bn (Nat.gcd (nv a) (nv b)))) ∧ Below w.heap.size w w' := by
  go_enter Tryz.func98, Tryz.ntmps98
  go_wp2_with fail
  refine (parse_any a _ ha).mono ?_; rintro e w1 ⟨ax, lx, cx, rfl, lcx, ccx, hX1, hb1⟩
  go_wp2_with fail
  refine (parse_any b _ hb).mono ?_; rintro e w2 ⟨ay, ly, cy, rfl, lcy, ccy, hY, hb2⟩
  have hX := hX1.below hb2 (Nat.le_refl _)
  have hll := hX.len_str
  have hlm := hY.len_str
  have hstart : GcdRel w w2 (Nat.gcd (nv a) (nv b)) (nv b) (.slice ax lx cx) (.slice ay ly cy) :=
    ⟨ax, lx, cx, ay, ly, cy, nv a, rfl, rfl, lcx, ccx, by omega, lcy, ccy, by omega, hX, hY, rfl, hb1.trans (hb2.mono hb1.size)⟩
  have HS := Lib.hid hstart
  clear hX hY hX1 hb1 hb2 hstart
  go_wp2_with fail
  go_loopg [5, 6] (nv b) (fun k vx vy wr => GcdRel w wr (Nat.gcd (nv a) (nv b)) k vx vy)
  case atStart => exact HS.out
  case round =>
    obtain ⟨ax, lx, cx, ay, ly, cy, X, rfl, rfl, h1, h2, h3, h4, h5, h6, hX, hY, hg, hbel⟩ := hrel
    clear HS
    have HX := Lib.hid hX
    have HY := Lib.hid hY
    have HG := Lib.hid hg
    have HB := Lib.hid hbel
    by_cases h0 : ly = 0
    · as_aux_lemma =>
      subst h0
      have hk := hY.zero_iff.mpr rfl
      have HK := Lib.hid hk
      clear hk hX hY hg hbel
      go_wp2_with fail
      refine (text_any _ _ _ _ _ HX.out h3 h1).mono ?_
      rintro e w4 ⟨rfl, hb4⟩
      go_wp2
      go_ret
      refine ⟨ret_str ?_, HB.out.trans (hb4.mono HB.out.size)⟩
      have := HG.out
      rw [HK.out, Nat.gcd_zero_right] at this
      rw [this]
    · as_aux_lemma =>
      have hk : 0 < gk := by
        rcases Nat.eq_zero_or_pos gk with e | e
        · have := hY.zero_iff.mp e; omega
        · exact e
      have hl0 : decide ((0 : Int) < (ly : Int)) = true := by simp; omega
      clear hX hY hg hbel
      go_wp2_with fail
      refine (divide_any _ _ _ _ _ _ _ _ _ HX.out HY.out hk h3 h1 h2 h6).mono ?_
      rintro e w3 ⟨aq, lq, cq, ar, lr, cr, rfl, g1, g2, g3, g4, g5, g6, g7⟩
      have hlr : lr ≤ ly := g6.len_le (Nat.lt_trans (Nat.mod_lt _ hk) HY.out.lt)
      have hnew : GcdRel w w3 (Nat.gcd (nv a) (nv b)) (X % gk) (.slice ay ly cy) (.slice ar lr cr) :=
        ⟨ay, ly, cy, ar, lr, cr, gk, rfl, rfl, h4, h5, h6, g3, g4, by omega, HY.out.below g7 (Nat.le_refl _), g6, by rw [← HG.out, Nat.gcd_comm X gk, Nat.gcd_rec gk X, Nat.gcd_comm], HB.out.trans (g7.mono HB.out.size)⟩
      have HN := Lib.hid hnew
      have HML := Lib.hid (Nat.mod_lt X hk)
      clear hnew g5 g6 g7
      go_wp2_with fail
      go_roundg (X % gk)
      case measure => exact HML.out
      case rel => exact HN.out

theorem row_two (w : World) (T : TypeId) (x y : Nat) : Row (w.alloc (.cells #[.int .u32 (x : Int), .int .u32 (y : Int)] T)) w.heap.size T .u32 2 (fun j => if j = 0 then x else y) := by
  refine ⟨_, heap_alloc_new w _, rfl, fun j hj => ?_⟩
  rcases (show j = 0 ∨ j = 1 by omega) with rfl | rfl <;> rfl

set_option maxRecDepth 100000 in
set_option maxHeartbeats 1600000 in
theorem fromUint_any (u : Nat) (w : World) (hu : u < 18446744073709551616) :
    Calls Tryz.prog 100 #[.int .u64 (u : Int)] w fun e w' => e = .returned (.string (bn u)) ∧ Below w.heap.size w w' := by
  have e1 : ((u : Int) % 4294967296) = ((u % 4294967296 : Nat) : Int) := by omega
  have e2 : ((u : Int) / 4294967296) = ((u / 4294967296 : Nat) : Int) := by omega
  obtain ⟨x, hx⟩ : ∃ x, x = u % 4294967296 := ⟨_, rfl⟩
  obtain ⟨y, hy⟩ : ∃ y, y = u / 4294967296 := ⟨_, rfl⟩
  have hyl : y < 4294967296 := by omega
  have hu2 : (u : Int) ≤ 18446744073709551615 := by omega
  have hlv : lv (fun j => if j = 0 then x else y) 2 = u := by simp [lv]; unfold LB; omega
  have hlim : ∀ j, j < 2 → (if j = 0 then x else y) < LB := by intro j _; unfold LB; split <;> omega
  have hyl2 : (y : Int) % 4294967296 = y := by omega
  rw [← hx] at e1
  rw [← hy] at e2
  have HLV := Lib.hid hlv
  have HLM := Lib.hid hlim
  clear hx hy hlv hlim
  go_enter Tryz.func100, Tryz.ntmps100
  go_wp2_with fail
  have hrow := row_two w 142 x y
  refine (text_walk w.heap.size 0 2 2 _ _ (by omega) (by omega) hrow.reads HLM.out).mono ?_
  rintro e w4 ⟨rfl, hb4⟩
  rw [HLV.out]
  clear hrow
  go_wp2
  go_ret
  exact ⟨rfl, ((Below.refl _ _).alloc (Nat.le_refl _) _).trans (hb4.mono (by simp))⟩
end Go.Proofs.Ins
