/- The walks of insolvencylaw0.FewRats and insolvencylaw31.few. -/
import Derived.Test.YtobbllakdjampaaGreatDoorL1
import Derived.Test.YtobbllakdjampaaGreatDoorDat
set_option linter.unusedSimpArgs false
set_option linter.unusedVariables false
namespace Go.Proofs.Ins
open Go.RowKit

def smallB (r : R3) : Bool := decide (r.s.size ≤ 24 ∧ r.d.size ≤ 24)
/-- What FewRats says. -/
def fewR (m n : Nat) (Q : Nat → R3) : Bool := decide (n ≤ m) && allB (fun i => smallB (Q i)) n
theorem fewR_long {m n : Nat} {Q : Nat → R3} (h : m < n) : fewR m n Q = false := by unfold fewR; rw [decide_eq_false (by omega)]; rfl
theorem fewR_false {m n i : Nat} {Q : Nat → R3} (hi : i < n) (h : smallB (Q i) = false) : fewR m n Q = false := by unfold fewR; rw [allB_false hi h, Bool.and_false]
theorem fewR_true {m n : Nat} {Q : Nat → R3} (h : n ≤ m) (h2 : ∀ i, i < n → smallB (Q i) = true) : fewR m n Q = true := by unfold fewR; rw [allB_true h2, decide_eq_true h]; rfl

theorem few_r3 (r : R3) (w : World) (h : r.fits 140737488351232) :
    Calls Tryz.prog 14 #[.agg #[.bool r.n, .string r.s, .string r.d]] w fun e w' => e = .returned (.bool (smallB r)) ∧ Below w.heap.size w w' := few_any r.n r.s r.d w h.1 h.2

set_option maxRecDepth 100000 in
set_option maxHeartbeats 800000 in
theorem fewRats_any (a : Option Addr) (n cap m : Nat) (Q : Nat → R3) (w : World) (hA : SArg w a n 3 fun i => (Q i).c) (hQ : ∀ i, i < n → (Q i).fits 140737488351232) (hn : n ≤ 140737488351232) (hm : m ≤ 1000000) :
    Calls Tryz.prog 26 #[.slice a n cap, .int .i64 (m : Int)] w fun e w' => e = .returned (.bool (fewR m n Q)) ∧ Below w.heap.size w w' := by
  have HQ := Lib.hid hQ
  have HA := Lib.hid hA
  clear hA hQ
  by_cases hlm : m < n
  · have HF := Lib.hid (fewR_long (Q := Q) hlm)
    go_enter Tryz.func26, Tryz.ntmps26
    go_wp2
    go_ret
    exact ⟨ret_bool HF.out.symm, Below.refl _ _⟩
  · have hlm2 : decide (m < n) = false := by simp; omega
    have HE := Lib.hid (fun h2 => fewR_true (m := m) (n := n) (Q := Q) (by omega) h2)
    have HX := Lib.hid (fun i hi h => fewR_false (m := m) (n := n) (i := i) (Q := Q) hi h)
    go_enter Tryz.func26, Tryz.ntmps26
    go_wp2
    go_loopw [13] (fun i wr => ∃ k : Nat, i = .int .i64 k ∧ k ≤ n ∧ Hid (∀ i, i < k → smallB (Q i) = true) ∧ Below w.heap.size w wr) (fun i _ => n - (intOf i).toNat)
    case atStart => exact ⟨0, rfl, by omega, fun i hi => by omega, Below.refl _ _⟩
    case round =>
      obtain ⟨k, rfl, hk, hs, hbel⟩ := hrel
      by_cases hlt : k < n
      · rcases HA.out with h0 | ⟨b, off, rfl, hb, hr⟩
        · omega
        obtain ⟨c0, c1, c2⟩ := (hr.below hbel hb).r3 hlt
        have HC := Lib.hid (fun w => few_r3 (Q k) w (HQ.out k hlt))
        have HB := Lib.hid hbel
        have hsz := hbel.size
        have HXK := Lib.hid (HX.out k hlt)
        have hsn : (∀ i, i < k → smallB (Q i) = true) → smallB (Q k) = true → ∀ i, i < k + 1 → smallB (Q i) = true := fun h1 h2 i hi => by
          by_cases e : i = k
          · rw [e]; exact h2
          · exact h1 i (by omega)
        have HSN := Lib.hid (hsn hs.out)
        generalize smallB (Q k) = sb at *
        generalize hr3 : Q k = r at *
        obtain ⟨rn', rs', rd'⟩ := r
        have HR := Lib.hid hr3
        clear hr hbel hr3 hsn
        go_wp2_with fail
        refine (HC.out _).mono ?_; rintro e w3 ⟨rfl, hb3⟩
        have HB3 := Lib.hid (chain HB.out (boxes1 hb3).2 (by omega))
        clear hb3
        cases sb
        · go_wp2
          go_ret
          exact ⟨ret_bool (HXK.out (by first | rfl | trivial)).symm, HB3.out⟩
        · go_wp2
          go_roundw
          case rel => exact ⟨k + 1, by go_num, by omega, HSN.out (by first | rfl | trivial), HB3.out⟩
          case measure => simp [intOf]; omega
      · obtain rfl : k = n := by omega
        have HF := Lib.hid (HE.out hs.out)
        clear HX HE
        go_wp2
        go_ret
        exact ⟨ret_bool HF.out.symm, hbel⟩

/-- Whether the two numbers of a voter are short. -/
def fewV (v : V8) : Bool := smallB v.a && smallB v.k
/-- What few says. -/
def fewL (n m : Nat) (V : Nat → V8) (Q : Nat → R3) : Bool := decide (n ≤ 10) && fewR 10 m Q && allB (fun i => fewV (V i)) n
theorem fewL_long {n m : Nat} {V : Nat → V8} {Q : Nat → R3} (h : 10 < n) : fewL n m V Q = false := by unfold fewL; rw [decide_eq_false (by omega)]; rfl
theorem fewL_rats {n m : Nat} {V : Nat → V8} {Q : Nat → R3} (h : fewR 10 m Q = false) : fewL n m V Q = false := by unfold fewL; rw [h, Bool.and_false]; rfl
theorem fewL_false {n m i : Nat} {V : Nat → V8} {Q : Nat → R3} (hi : i < n) (h : fewV (V i) = false) : fewL n m V Q = false := by unfold fewL; rw [allB_false hi h, Bool.and_false]
theorem fewL_true {n m : Nat} {V : Nat → V8} {Q : Nat → R3} (h : n ≤ 10) (h1 : fewR 10 m Q = true) (h2 : ∀ i, i < n → fewV (V i) = true) : fewL n m V Q = true := by unfold fewL; rw [allB_true h2, decide_eq_true h, h1]; rfl
theorem fewL_get {n m : Nat} {V : Nat → V8} {Q : Nat → R3} (h : fewL n m V Q = true) : n ≤ 10 ∧ m ≤ 10 ∧ (∀ i, i < m → (Q i).fits 24) ∧ ∀ i, i < n → (V i).a.fits 24 ∧ (V i).k.fits 24 := by
  unfold fewL fewR at h
  simp only [Bool.and_eq_true, decide_eq_true_eq] at h
  obtain ⟨⟨h1, h2, h3⟩, h4⟩ := h
  refine ⟨h1, h2, fun i hi => ?_, fun i hi => ?_⟩
  · have := allB_get h3 i hi
    exact of_decide_eq_true (p := (Q i).s.size ≤ 24 ∧ (Q i).d.size ≤ 24) this
  · have := allB_get h4 i hi
    unfold fewV at this
    simp only [Bool.and_eq_true] at this
    exact ⟨of_decide_eq_true (p := (V i).a.s.size ≤ 24 ∧ (V i).a.d.size ≤ 24) this.1, of_decide_eq_true (p := (V i).k.s.size ≤ 24 ∧ (V i).k.d.size ≤ 24) this.2⟩

set_option maxRecDepth 100000 in
set_option maxHeartbeats 800000 in
theorem few_law (a1 : Option Addr) (n c1 : Nat) (a2 : Option Addr) (m c2 : Nat) (V : Nat → V8) (Q : Nat → R3) (w : World) (hV : SArg w a1 n 8 fun i => (V i).c) (hA : SArg w a2 m 3 fun i => (Q i).c)
    (fV : ∀ i, i < n → (V i).a.fits 140737488351232 ∧ (V i).k.fits 140737488351232) (fQ : ∀ i, i < m → (Q i).fits 140737488351232) (hn : n ≤ 140737488351232) (hm : m ≤ 140737488351232) :
    Calls Tryz.prog 8 #[.slice a1 n c1, .slice a2 m c2] w fun e w' => e = .returned (.bool (fewL n m V Q)) ∧ Below w.heap.size w w' := by
  have HFQ := Lib.hid fQ
  have HFV := Lib.hid fV
  have HV := Lib.hid hV
  have HR := Lib.hid (fun w (h : SArg w a2 m 3 fun i => (Q i).c) => fewRats_any a2 m c2 10 Q w h fQ hm (by omega))
  have HA := Lib.hid hA
  clear fQ fV hV hA
  by_cases hl : 10 < n
  · have HF := Lib.hid (fewL_long (m := m) (V := V) (Q := Q) hl)
    go_enter Tryz.func8, Tryz.ntmps8
    go_wp2
    go_ret
    exact ⟨ret_bool HF.out.symm, Below.refl _ _⟩
  · have hl2 : decide (10 < n) = false := by simp; omega
    have hl3 : decide ((10 : Int) < (n : Int)) = false := by simp; omega
    have HX := Lib.hid (fun h => fewL_rats (n := n) (m := m) (V := V) (Q := Q) h)
    have HE := Lib.hid (fun h1 h2 => fewL_true (n := n) (m := m) (V := V) (Q := Q) (by omega) h1 h2)
    have HI := Lib.hid (fun i hi h => fewL_false (n := n) (m := m) (i := i) (V := V) (Q := Q) hi h)
    generalize fewR 10 m Q = fr at *
    go_enter Tryz.func8, Tryz.ntmps8
    go_wp2_with fail
    refine (HR.out _ HA.out).mono ?_; rintro e w3 ⟨rfl, hb3⟩
    have HB3 := Lib.hid hb3
    have HV3 := Lib.hid (HV.out.on hb3)
    clear hb3 HR HA
    cases fr
    · go_wp2
      go_ret
      exact ⟨ret_bool (HX.out (by first | rfl | trivial)).symm, HB3.out⟩
    · go_wp2
      go_loopw [5] (fun i wr => ∃ k : Nat, i = .int .i64 k ∧ k ≤ n ∧ Hid (∀ i, i < k → fewV (V i) = true) ∧ Below w3.heap.size w3 wr) (fun i _ => n - (intOf i).toNat)
      case atStart => exact ⟨0, rfl, by omega, fun i hi => by omega, Below.refl _ _⟩
      case round =>
        obtain ⟨k, rfl, hk, hs, hbel⟩ := hrel
        by_cases hlt : k < n
        · rcases HV3.out with h0 | ⟨b, off, rfl, hb, hr⟩
          · omega
          obtain ⟨-, c1, c2, c3, c4, c5, c6, -⟩ := (hr.below hbel hb).v8 hlt
          have HC1 := Lib.hid (fun w => few_r3 (V k).a w (HFV.out k hlt).1)
          have HC2 := Lib.hid (fun w => few_r3 (V k).k w (HFV.out k hlt).2)
          have HB := Lib.hid hbel
          have hsz := hbel.size
          have HXK := Lib.hid (HI.out k hlt)
          have hsn : (∀ i, i < k → fewV (V i) = true) → fewV (V k) = true → ∀ i, i < k + 1 → fewV (V i) = true := fun h1 h2 i hi => by
            by_cases e : i = k
            · rw [e]; exact h2
            · exact h1 i (by omega)
          have HSN := Lib.hid (hsn hs.out)
          have HDF : Hid (fewV (V k) = (smallB (V k).a && smallB (V k).k)) := rfl
          have hcell : ∀ w', Below wr.heap.size wr w' → w'.cell? ⟨b, off + k * 8 + 4, none⟩ = some (.bool (V k).k.n) ∧ w'.cell? ⟨b, off + k * 8 + 5, none⟩ = some (.string (V k).k.s) ∧ w'.cell? ⟨b, off + k * 8 + 6, none⟩ = some (.string (V k).k.d) := fun w' h => by
            have := ((hr.below hbel hb).below h (Nat.lt_of_lt_of_le hb hbel.size)).v8 hlt
            exact ⟨this.2.2.2.2.1, this.2.2.2.2.2.1, this.2.2.2.2.2.2.1⟩
          have HCELL := Lib.hid hcell
          generalize fewV (V k) = fv at *
          generalize smallB (V k).a = s1 at *
          generalize smallB (V k).k = s2 at *
          generalize (V k).a.n = an at *
          generalize (V k).a.s = as' at *
          generalize (V k).a.d = ad at *
          generalize (V k).k.n = kn at *
          generalize (V k).k.s = ks at *
          generalize (V k).k.d = kd at *
          clear hr hbel hsn hcell
          go_wp2_with fail
          refine (HC1.out _).mono ?_; rintro e w4 ⟨rfl, hb4⟩
          cases s1
          · as_aux_lemma =>
            have HB4 := Lib.hid (chain HB3.out (chain HB.out hb4 (Nat.le_refl _)) (by omega))
            have hfv : fv = false := by rw [HDF.out]; rfl
            have HFV2 := Lib.hid hfv
            clear hb4 hfv
            go_wp2
            go_ret
            exact ⟨ret_bool (HXK.out HFV2.out).symm, HB4.out⟩
          · as_aux_lemma =>
            have HB4 := Lib.hid (chain HB.out hb4 (Nat.le_refl _))
            have hfv : fv = s2 := by rw [HDF.out]; rfl
            obtain ⟨d4, d5, d6⟩ := HCELL.out w4 hb4
            have HFV2 := Lib.hid hfv
            have hz4 := hb4.size
            clear hb4 hfv c1 c2 c3 c4 c5 c6
            go_wp2_with fail
            refine (HC2.out _).mono ?_; rintro e w5 ⟨rfl, hb5⟩
            have HB5 := Lib.hid (chain HB4.out hb5 (by omega))
            clear hb5
            cases s2
            · go_wp2
              go_ret
              exact ⟨ret_bool (HXK.out HFV2.out).symm, chain HB3.out HB5.out (by omega)⟩
            · go_wp2
              go_roundw
              case rel => exact ⟨k + 1, by go_num, by omega, HSN.out HFV2.out, HB5.out⟩
              case measure => simp [intOf]; omega
        · obtain rfl : k = n := by omega
          have HF := Lib.hid (HE.out (by first | rfl | trivial) hs.out)
          have HB := Lib.hid hbel
          clear HX HE HI
          go_wp2
          go_ret
          exact ⟨ret_bool HF.out.symm, chain HB3.out HB.out (by omega)⟩
end Go.Proofs.Ins
