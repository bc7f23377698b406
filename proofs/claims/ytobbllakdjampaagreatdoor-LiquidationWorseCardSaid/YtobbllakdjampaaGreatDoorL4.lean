/- The walks of liquidation.check and liquidation.least. -/
import Derived.Test.YtobbllakdjampaaGreatDoorL3
import Derived.Test.YtobbllakdjampaaGreatDoorP5
set_option linter.unusedSimpArgs false
set_option linter.unusedVariables false
namespace Go.Proofs.Ins
open Go.RowKit

/-- A voter as one value. -/
def V8.v (v : V8) : Value := .agg #[.int .i64 v.p, .bool v.a.n, .string v.a.s, .string v.a.d, .bool v.k.n, .string v.k.s, .string v.k.d, .bool v.x]
def V8.fits (v : V8) (k : Nat) : Prop := v.a.fits k ∧ v.k.fits k
/-- One of a voter's numbers lies below 0. -/
def negV (v : V8) : Bool := decide (sg v.a.q < 0) || decide (sg v.k.q < 0)
def negR (r : R3) : Bool := decide (sg r.q < 0)

theorem sign_r3 (r : R3) (w : World) (h : r.fits 268435456) :
    Calls Tryz.prog 60 #[.agg #[.bool r.n, .string r.s, .string r.d]] w fun e w' => e = .returned (.int .i64 (sg r.q)) ∧ Below w.heap.size w w' := sign_rat r.n r.s r.d w h.1 h.2

set_option maxRecDepth 100000 in
set_option maxHeartbeats 800000 in
theorem check1_any (v : V8) (w : World) (h : v.fits 268435456) :
    Calls Tryz.prog 59 #[v.v] w fun e w' => e = .returned (.bool (negV v)) ∧ Below w.heap.size w w' := by
  have HC1 := Lib.hid (fun w => sign_r3 v.a w h.1)
  have HC2 := Lib.hid (fun w => sign_r3 v.k w h.2)
  unfold negV V8.v
  clear h
  generalize sg v.a.q = s1 at *
  generalize sg v.k.q = s2 at *
  generalize v.a.n = an at *
  generalize v.a.s = as' at *
  generalize v.a.d = ad at *
  generalize v.k.n = kn at *
  generalize v.k.s = ks at *
  generalize v.k.d = kd at *
  generalize v.p = vp at *
  generalize v.x = vx at *
  generalize hT : (decide (s1 < 0) || decide (s2 < 0)) = T
  have HT := Lib.hid hT
  clear hT
  go_enter Tryz.func59, Tryz.ntmps59
  go_wp2_with fail
  refine (HC1.out _).mono ?_; rintro e w3 ⟨rfl, hb3⟩
  obtain ⟨H1, HB⟩ := boxes1 hb3
  have a4 : w3.cell? ⟨w.heap.size, 4, none⟩ = some (.bool kn) := H1.cell 4
  have a5 : w3.cell? ⟨w.heap.size, 5, none⟩ = some (.string ks) := H1.cell 5
  have a6 : w3.cell? ⟨w.heap.size, 6, none⟩ = some (.string kd) := H1.cell 6
  have HB := Lib.hid HB
  clear hb3 H1
  by_cases h1 : s1 < 0
  · have h2 : decide (s1 < 0) = true := decide_eq_true h1
    have HR := Lib.hid (show T = true by rw [← HT.out, h2]; rfl)
    clear h1
    go_wp2
    go_ret
    exact ⟨ret_bool HR.out.symm, HB.out⟩
  · have h2 : decide (s1 < 0) = false := decide_eq_false h1
    have HR := Lib.hid (show T = decide (s2 < 0) by rw [← HT.out, h2]; rfl)
    clear h1
    go_wp2_with fail
    refine (HC2.out _).mono ?_; rintro e w4 ⟨rfl, hb4⟩
    have HB := Lib.hid (chain HB.out hb4 (Nat.le_refl _))
    clear hb4 a4 a5 a6
    go_wp2
    go_ret
    exact ⟨ret_bool HR.out.symm, HB.out⟩

set_option maxRecDepth 100000 in
set_option maxHeartbeats 800000 in
theorem check2_any (r : R3) (w : World) (h : r.fits 268435456) :
    Calls Tryz.prog 63 #[.agg #[.bool r.n, .string r.s, .string r.d]] w fun e w' => e = .returned (.bool (negR r)) ∧ Below w.heap.size w w' := by
  have HC1 := Lib.hid (fun w => sign_r3 r w h)
  unfold negR
  clear h
  generalize sg r.q = s1 at *
  generalize r.n = an at *
  generalize r.s = as' at *
  generalize r.d = ad at *
  go_enter Tryz.func63, Tryz.ntmps63
  go_wp2_with fail
  refine (HC1.out _).mono ?_; rintro e w3 ⟨rfl, hb3⟩
  have HB := Lib.hid (boxes1 hb3).2
  clear hb3
  go_wp2
  go_ret
  exact ⟨rfl, HB.out⟩

/-- For one below n, as a truth value. -/
def anyB (p : Nat → Bool) (n : Nat) : Bool := (List.range n).any p
theorem anyB_false {p : Nat → Bool} {n : Nat} (h : ∀ i, i < n → p i = false) : anyB p n = false := by
  unfold anyB; rw [List.any_eq_false]; intro x hx; rw [h x (by simpa using hx)]; simp
theorem anyB_true {p : Nat → Bool} {n i : Nat} (hi : i < n) (h : p i = true) : anyB p n = true := by
  unfold anyB; rw [List.any_eq_true]; exact ⟨i, by simpa using hi, h⟩
theorem anyB_get {p : Nat → Bool} {n : Nat} (h : anyB p n = false) : ∀ i, i < n → p i = false := by
  unfold anyB at h; rw [List.any_eq_false] at h; intro i hi; have := h i (by simpa using hi); simpa using this
/-- What an index search hands back. -/
def RetIx (w : World) (b : Bool) (e : Ending) (w' : World) : Prop := ∃ i : Int, e = .returned (.int .i64 i) ∧ decide (0 ≤ i) = b ∧ Below w.heap.size w w'

set_option maxRecDepth 100000 in
set_option maxHeartbeats 800000 in
theorem index_voter (a : Option Addr) (n cap : Nat) (V : Nat → V8) (w : World) (hA : SArg w a n 8 fun i => (V i).c) (hQ : ∀ i, i < n → (V i).fits 268435456) (hn : n ≤ 140737488351232) :
    Calls Tryz.prog 92 #[.slice a n cap, .func (.func 59) #[] #[]] w (RetIx w (anyB (fun i => negV (V i)) n)) := by
  have HQ := Lib.hid hQ
  have HA := Lib.hid hA
  clear hA hQ
  have HE := Lib.hid (fun h2 => anyB_false (n := n) (p := fun i => negV (V i)) h2)
  have HX := Lib.hid (fun i hi h => anyB_true (n := n) (i := i) (p := fun i => negV (V i)) hi h)
  go_enter Tryz.func92, Tryz.ntmps92
  go_wp2
  go_loopw [8] (fun i wr => ∃ k : Nat, i = .int .i64 k ∧ k ≤ n ∧ Hid (∀ i, i < k → negV (V i) = false) ∧ Below w.heap.size w wr) (fun i _ => n - (intOf i).toNat)
  case atStart => exact ⟨0, rfl, by omega, fun i hi => by omega, Below.refl _ _⟩
  case round =>
    obtain ⟨k, rfl, hk, hs, hbel⟩ := hrel
    by_cases hlt : k < n
    · rcases HA.out with h0 | ⟨b, off, rfl, hb, hr⟩
      · omega
      obtain ⟨c0, c1, c2, c3, c4, c5, c6, c7⟩ := (hr.below hbel hb).v8 hlt
      have HC := Lib.hid (fun w => check1_any (V k) w (HQ.out k hlt))
      have HB := Lib.hid hbel
      have hsz := hbel.size
      have HXK := Lib.hid (HX.out k hlt)
      have hsn : (∀ i, i < k → negV (V i) = false) → negV (V k) = false → ∀ i, i < k + 1 → negV (V i) = false := fun h1 h2 i hi => by
        by_cases e : i = k
        · rw [e]; exact h2
        · exact h1 i (by omega)
      have HSN := Lib.hid (hsn hs.out)
      generalize negV (V k) = sb at *
      unfold V8.v at HC
      have HK := Lib.hid (show decide (0 ≤ (k : Int)) = true by simp)
      clear hr hbel hsn
      go_wp2_with fail
      refine (HC.out _).mono ?_; rintro e w3 ⟨rfl, hb3⟩
      have HB3 := Lib.hid (chain HB.out hb3 (Nat.le_refl _))
      clear hb3
      cases sb
      · go_wp2
        go_roundw
        case rel => exact ⟨k + 1, by go_num, by omega, HSN.out (by first | rfl | trivial), HB3.out⟩
        case measure => simp [intOf]; omega
      · go_wp2
        go_ret
        exact ⟨_, rfl, by rw [HXK.out (by first | rfl | trivial)]; exact HK.out, HB3.out⟩
    · obtain rfl : k = n := by omega
      have HF := Lib.hid (HE.out hs.out)
      clear HX HE
      go_wp2
      go_ret
      exact ⟨_, rfl, by rw [HF.out]; rfl, hbel⟩

set_option maxRecDepth 100000 in
set_option maxHeartbeats 800000 in
theorem contains_voter (a : Option Addr) (n cap : Nat) (V : Nat → V8) (w : World) (hA : SArg w a n 8 fun i => (V i).c) (hQ : ∀ i, i < n → (V i).fits 268435456) (hn : n ≤ 140737488351232) :
    Calls Tryz.prog 61 #[.slice a n cap, .func (.func 59) #[] #[]] w fun e w' => e = .returned (.bool (anyB (fun i => negV (V i)) n)) ∧ Below w.heap.size w w' := by
  have HC := Lib.hid (index_voter a n cap V w hA hQ hn)
  generalize anyB (fun i => negV (V i)) n = T at *
  clear hA hQ
  go_enter Tryz.func61, Tryz.ntmps61
  go_wp2_with fail
  refine HC.out.mono ?_
  rintro e w3 ⟨i, rfl, hi, hb3⟩
  have HI := Lib.hid hi
  have HB3 := Lib.hid hb3
  clear hi hb3 HC
  go_wp2
  go_ret
  exact ⟨ret_bool HI.out, HB3.out⟩

set_option maxRecDepth 100000 in
set_option maxHeartbeats 800000 in
theorem index_rat (a : Option Addr) (n cap : Nat) (V : Nat → R3) (w : World) (hA : SArg w a n 3 fun i => (V i).c) (hQ : ∀ i, i < n → (V i).fits 268435456) (hn : n ≤ 140737488351232) :
    Calls Tryz.prog 93 #[.slice a n cap, .func (.func 63) #[] #[]] w (RetIx w (anyB (fun i => negR (V i)) n)) := by
  have HQ := Lib.hid hQ
  have HA := Lib.hid hA
  clear hA hQ
  have HE := Lib.hid (fun h2 => anyB_false (n := n) (p := fun i => negR (V i)) h2)
  have HX := Lib.hid (fun i hi h => anyB_true (n := n) (i := i) (p := fun i => negR (V i)) hi h)
  go_enter Tryz.func93, Tryz.ntmps93
  go_wp2
  go_loopw [8] (fun i wr => ∃ k : Nat, i = .int .i64 k ∧ k ≤ n ∧ Hid (∀ i, i < k → negR (V i) = false) ∧ Below w.heap.size w wr) (fun i _ => n - (intOf i).toNat)
  case atStart => exact ⟨0, rfl, by omega, fun i hi => by omega, Below.refl _ _⟩
  case round =>
    obtain ⟨k, rfl, hk, hs, hbel⟩ := hrel
    by_cases hlt : k < n
    · rcases HA.out with h0 | ⟨b, off, rfl, hb, hr⟩
      · omega
      obtain ⟨c0, c1, c2⟩ := (hr.below hbel hb).r3 hlt
      have HC := Lib.hid (fun w => check2_any (V k) w (HQ.out k hlt))
      have HB := Lib.hid hbel
      have hsz := hbel.size
      have HXK := Lib.hid (HX.out k hlt)
      have hsn : (∀ i, i < k → negR (V i) = false) → negR (V k) = false → ∀ i, i < k + 1 → negR (V i) = false := fun h1 h2 i hi => by
        by_cases e : i = k
        · rw [e]; exact h2
        · exact h1 i (by omega)
      have HSN := Lib.hid (hsn hs.out)
      generalize negR (V k) = sb at *
      skip
      have HK := Lib.hid (show decide (0 ≤ (k : Int)) = true by simp)
      clear hr hbel hsn
      go_wp2_with fail
      refine (HC.out _).mono ?_; rintro e w3 ⟨rfl, hb3⟩
      have HB3 := Lib.hid (chain HB.out hb3 (Nat.le_refl _))
      clear hb3
      cases sb
      · go_wp2
        go_roundw
        case rel => exact ⟨k + 1, by go_num, by omega, HSN.out (by first | rfl | trivial), HB3.out⟩
        case measure => simp [intOf]; omega
      · go_wp2
        go_ret
        exact ⟨_, rfl, by rw [HXK.out (by first | rfl | trivial)]; exact HK.out, HB3.out⟩
    · obtain rfl : k = n := by omega
      have HF := Lib.hid (HE.out hs.out)
      clear HX HE
      go_wp2
      go_ret
      exact ⟨_, rfl, by rw [HF.out]; rfl, hbel⟩

set_option maxRecDepth 100000 in
set_option maxHeartbeats 800000 in
theorem contains_rat (a : Option Addr) (n cap : Nat) (V : Nat → R3) (w : World) (hA : SArg w a n 3 fun i => (V i).c) (hQ : ∀ i, i < n → (V i).fits 268435456) (hn : n ≤ 140737488351232) :
    Calls Tryz.prog 62 #[.slice a n cap, .func (.func 63) #[] #[]] w fun e w' => e = .returned (.bool (anyB (fun i => negR (V i)) n)) ∧ Below w.heap.size w w' := by
  have HC := Lib.hid (index_rat a n cap V w hA hQ hn)
  generalize anyB (fun i => negR (V i)) n = T at *
  clear hA hQ
  go_enter Tryz.func62, Tryz.ntmps62
  go_wp2_with fail
  refine HC.out.mono ?_
  rintro e w3 ⟨i, rfl, hi, hb3⟩
  have HI := Lib.hid hi
  have HB3 := Lib.hid hb3
  clear hi hb3 HC
  go_wp2
  go_ret
  exact ⟨ret_bool HI.out, HB3.out⟩

/-- What a check of voters and amounts says. -/
def chk (n m : Nat) (V : Nat → V8) (Q : Nat → R3) : Int := if 64 < n then 2 else if m ≠ n then 4 else if (anyB (fun i => negV (V i)) n || anyB (fun i => negR (Q i)) m) = true then 7 else 0

set_option maxRecDepth 100000 in
set_option maxHeartbeats 800000 in
theorem check_any (a1 : Option Addr) (n c1 : Nat) (a2 : Option Addr) (m c2 : Nat) (V : Nat → V8) (Q : Nat → R3) (w : World) (hV : SArg w a1 n 8 fun i => (V i).c) (hA : SArg w a2 m 3 fun i => (Q i).c)
    (fV : ∀ i, i < n → (V i).fits 268435456) (fQ : ∀ i, i < m → (Q i).fits 268435456) (hn : n ≤ 140737488351232) (hm : m ≤ 140737488351232) :
    Calls Tryz.prog 28 #[.slice a1 n c1, .slice a2 m c2] w fun e w' => e = .returned (.int .i64 (chk n m V Q)) ∧ Below w.heap.size w w' := by
  have HC1 := Lib.hid (fun w (h : SArg w a1 n 8 fun i => (V i).c) => contains_voter a1 n c1 V w h fV hn)
  have HC2 := Lib.hid (fun w (h : SArg w a2 m 3 fun i => (Q i).c) => contains_rat a2 m c2 Q w h fQ hm)
  have HV := Lib.hid hV
  have HA := Lib.hid hA
  clear hV hA fV fQ
  unfold chk
  generalize anyB (fun i => negV (V i)) n = T1 at *
  generalize anyB (fun i => negR (Q i)) m = T2 at *
  by_cases h1 : 64 < n
  · rw [if_pos h1]
    go_enter Tryz.func28, Tryz.ntmps28
    go_wp2
    go_ret
    exact ⟨rfl, Below.refl _ _⟩
  · rw [if_neg h1]
    have hl1 : decide (64 < n) = false := by simp; omega
    have hl1' : decide ((64 : Int) < (n : Int)) = false := by simp; omega
    by_cases h2 : m = n
    · rw [if_neg (by omega)]
      generalize hR : (if (T1 || T2) = true then (7 : Int) else 0) = R
      have HR := Lib.hid hR
      clear hR
      subst h2
      go_enter Tryz.func28, Tryz.ntmps28
      go_wp2_with fail
      refine (HC1.out _ HV.out).mono ?_
      rintro e w3 ⟨rfl, hb3⟩
      have HB := Lib.hid hb3
      have HA2 := Lib.hid (HA.out.on hb3)
      clear hb3
      cases T1
      · go_wp2_with fail
        refine (HC2.out _ HA2.out).mono ?_
        rintro e w4 ⟨rfl, hb4⟩
        have HB := Lib.hid (chain HB.out hb4 (Nat.le_refl _))
        clear hb4
        cases T2
        · have HR2 := Lib.hid (show R = 0 from HR.out.symm.trans rfl)
          go_wp2
          go_ret
          exact ⟨by rw [HR2.out]; rfl, HB.out⟩
        · have HR2 := Lib.hid (show R = 7 from HR.out.symm.trans rfl)
          go_wp2
          go_ret
          exact ⟨by rw [HR2.out]; rfl, HB.out⟩
      · have HR2 := Lib.hid (show R = 7 from HR.out.symm.trans rfl)
        go_wp2
        go_ret
        exact ⟨by rw [HR2.out]; rfl, HB.out⟩
    · rw [if_pos h2]
      have h2' : ((m : Int) == (n : Int)) = false := by simp; omega
      have h2'' : ¬ ((m : Int) = (n : Int)) := by omega
      go_enter Tryz.func28, Tryz.ntmps28
      go_wp2
      go_ret
      exact ⟨rfl, Below.refl _ _⟩

/-- The least share of one voter. -/
def leastR (v : V8) (x : R3) : R3 := if x.q = 0 then ofQ 0 else if v.a.q = 0 then v.k else ofQ (minR (x.q / v.a.q) v.k.q)
theorem sg_eq_zero {q : Rat} : sg q = 0 ↔ q = 0 := by
  unfold sg; by_cases h : q = 0
  · simp [h]
  · rw [if_neg h]; by_cases h2 : q < 0
    · rw [if_pos h2]; simp [h]
    · rw [if_neg h2]; simp [h]

set_option maxRecDepth 100000 in
set_option maxHeartbeats 1600000 in
theorem least_any (v : V8) (x : R3) (w : World) (hv : v.fits 1000) (hx : x.fits 1000) :
    Calls Tryz.prog 30 #[v.v, .agg #[.bool x.n, .string x.s, .string x.d]] w fun e w' => e = .returned (.agg #[.bool (leastR v x).n, .string (leastR v x).s, .string (leastR v x).d]) ∧ Below w.heap.size w w' := by
  obtain ⟨⟨hv1, hv2⟩, hv3, hv4⟩ := hv
  obtain ⟨hx1, hx2⟩ := hx
  have HS := Lib.hid (fun w => sign_r3 x w ⟨by omega, by omega⟩)
  have HD := Lib.hid (fun w => divide_rat x.n x.s x.d v.a.n v.a.s v.a.d w (by omega) (by omega))
  unfold leastR V8.v
  have hq1 : rq x.n x.s x.d = x.q := rfl
  have hq2 : rq v.a.n v.a.s v.a.d = v.a.q := rfl
  rw [hq1, hq2] at HD
  clear hq1 hq2
  by_cases h1 : x.q = 0
  · rw [if_pos h1]
    have h2 := sg_eq_zero.mpr h1
    rw [h2] at HS
    unfold ofQ
    rw [rn_zero, rs_zero, rd_zero]
    clear HD h1 h2
    generalize x.n = xn at *
    generalize x.s = xs at *
    generalize x.d = xd at *
    generalize v.a.n = an at *
    generalize v.a.s = as' at *
    generalize v.a.d = ad at *
    generalize v.k.n = kn at *
    generalize v.k.s = ks at *
    generalize v.k.d = kd at *
    generalize v.p = vp at *
    generalize v.x = vx at *
    go_enter Tryz.func30, Tryz.ntmps30
    go_wp2_with fail
    refine (HS.out _).mono ?_; rintro e w3 ⟨rfl, hb3⟩
    obtain ⟨H1, H2, H3, HB⟩ := boxes3 hb3
    obtain ⟨a0, a1, a2, a3, a4, a5⟩ := H3.get3
    have H2 := Lib.hid H3
    have HB := Lib.hid HB
    clear hb3 H1 H3
    go_wp2
    refine bodyPost_forget (fun W => Blk W (w.heap.size + 1 + 1) #[.bool false, .string ⟨#[]⟩, .string ⟨#[]⟩] ∧ Below w.heap.size w W) ⟨by exact Blk.set3 H2.out _ _ _, below_set3 HB.out (by omega) _ _ _⟩ ?_
    rintro WR ⟨hr9, hb9⟩
    obtain ⟨y90, y91, y92, -, -, -⟩ := hr9.get3
    exact bodyPost_ret (v := .agg #[.bool false, .string ⟨#[]⟩, .string ⟨#[]⟩]) (by simp [results, Tryz.results30, go_sem, y90, y91, y92]) rfl ⟨rfl, hb9⟩
  · rw [if_neg h1]
    have h2 : (sg x.q == 0) = false := by simp [sg_eq_zero, h1]
    have h2' : ¬ sg x.q = 0 := by simp [sg_eq_zero, h1]
    by_cases h3 : v.a.q = 0
    · rw [if_pos h3]
      unfold rvB at HD
      rw [h3] at HD
      have hok : okR 0 = false := by decide
      rw [hok] at HD
      generalize rn (divR x.q 0) = r1 at *
      generalize rs (divR x.q 0) = r2 at *
      generalize rd (divR x.q 0) = r3 at *
      generalize sg x.q = sx at *
      clear h1 h3 hok
      generalize x.n = xn at *
      generalize x.s = xs at *
      generalize x.d = xd at *
      generalize v.a.n = an at *
      generalize v.a.s = as' at *
      generalize v.a.d = ad at *
      generalize v.k.n = kn at *
      generalize v.k.s = ks at *
      generalize v.k.d = kd at *
      generalize v.p = vp at *
      generalize v.x = vx at *
      go_enter Tryz.func30, Tryz.ntmps30
      go_wp2_with fail
      refine (HS.out _).mono ?_; rintro e w3 ⟨rfl, hb3⟩
      obtain ⟨H1, H2, H3, HB⟩ := boxes3 hb3
      obtain ⟨a0, a1, a2, -, -, -⟩ := H2.get3
      have b1 : w3.cell? ⟨w.heap.size, 1, none⟩ = some (.bool an) := H1.cell 1
      have b2 : w3.cell? ⟨w.heap.size, 2, none⟩ = some (.string as') := H1.cell 2
      have b3 : w3.cell? ⟨w.heap.size, 3, none⟩ = some (.string ad) := H1.cell 3
      have H1 := Lib.hid H1
      have H3 := Lib.hid H3
      have HB := Lib.hid HB
      clear hb3 H2
      go_wp2_with fail
      refine (HD.out _).mono ?_; rintro e w4 ⟨rfl, hb4⟩
      have J1 := Lib.hid (H1.out.on hb4)
      have H4 := H3.out.on hb4
      have HB := Lib.hid (chain HB.out hb4 (Nat.le_refl _))
      have b1 : (w4.alloc (.cells #[.bool r1, .string r2, .string r3] 30)).cell? ⟨w.heap.size, 4, none⟩ = some (.bool kn) := (J1.out.alloc _).cell 4
      have b2 : (w4.alloc (.cells #[.bool r1, .string r2, .string r3] 30)).cell? ⟨w.heap.size, 5, none⟩ = some (.string ks) := (J1.out.alloc _).cell 5
      have b3 : (w4.alloc (.cells #[.bool r1, .string r2, .string r3] 30)).cell? ⟨w.heap.size, 6, none⟩ = some (.string kd) := (J1.out.alloc _).cell 6
      obtain ⟨f0, f1, f2, f3, f4, f5⟩ := (H4.alloc (.cells #[.bool r1, .string r2, .string r3] 30)).get3
      have hz4 : w.heap.size + 1 + 1 < w4.heap.size := H4.lt
      have H5 := Lib.hid H4
      have HB5 := Lib.hid HB.out
      obtain ⟨g0, g1, g2, g3, g4, g5⟩ := H4.get3
      have H2 := Lib.hid (H4.alloc (.cells #[.bool r1, .string r2, .string r3] 30))
      have HB := Lib.hid (HB.out.alloc (by omega) (.cells #[.bool r1, .string r2, .string r3] 30))
      clear hb4 H1 H3 a0 a1 a2 H4
      go_wp2
      refine bodyPost_forget (fun W => Blk W (w.heap.size + 1 + 1) #[.bool kn, .string ks, .string kd] ∧ Below w.heap.size w W) ⟨(Blk.set3 H5.out _ _ _).alloc _, (below_set3 HB5.out (by omega) _ _ _).alloc (by simp; omega) _⟩ ?_
      rintro WR ⟨hr9, hb9⟩
      obtain ⟨y90, y91, y92, -, -, -⟩ := hr9.get3
      exact bodyPost_ret (v := .agg #[.bool kn, .string ks, .string kd]) (by simp [results, Tryz.results30, go_sem, y90, y91, y92]) rfl ⟨rfl, hb9⟩
    · rw [if_neg h3]
      unfold rvB at HD
      have hok : okR v.a.q = true := by unfold okR; simp [h3]
      have hdv : divR x.q v.a.q = x.q / v.a.q := by unfold divR; rw [if_neg h3]
      rw [hok, hdv] at HD
      have hsm : Sm 4002 (x.q / v.a.q) := ((sm_raw x.n x.s x.d).div (sm_raw v.a.n v.a.s v.a.d) h3).mono (by omega)
      have hM := fun w => min_rat (rn (x.q / v.a.q)) (rs (x.q / v.a.q)) (rd (x.q / v.a.q)) v.k.n v.k.s v.k.d w (by have := hsm.rs; have := hsm.rd; omega) (by omega)
      have hq3 : rq v.k.n v.k.s v.k.d = v.k.q := rfl
      rw [rq_of, hq3] at hM
      unfold rv at hM
      have HM := Lib.hid hM
      unfold ofQ
      generalize minR (x.q / v.a.q) v.k.q = M at *
      generalize x.q / v.a.q = R at *
      clear hsm hM hdv hok h1 h3 hq3
      generalize rn M = m1 at *
      generalize rs M = m2 at *
      generalize rd M = m3 at *
      generalize rn R = r1 at *
      generalize rs R = r2 at *
      generalize rd R = r3 at *
      generalize sg x.q = sx at *
      generalize x.n = xn at *
      generalize x.s = xs at *
      generalize x.d = xd at *
      generalize v.a.n = an at *
      generalize v.a.s = as' at *
      generalize v.a.d = ad at *
      generalize v.k.n = kn at *
      generalize v.k.s = ks at *
      generalize v.k.d = kd at *
      generalize v.p = vp at *
      generalize v.x = vx at *
      go_enter Tryz.func30, Tryz.ntmps30
      go_wp2_with fail
      refine (HS.out _).mono ?_; rintro e w3 ⟨rfl, hb3⟩
      obtain ⟨H1, H2, H3, HB⟩ := boxes3 hb3
      obtain ⟨a0, a1, a2, -, -, -⟩ := H2.get3
      have b1 : w3.cell? ⟨w.heap.size, 1, none⟩ = some (.bool an) := H1.cell 1
      have b2 : w3.cell? ⟨w.heap.size, 2, none⟩ = some (.string as') := H1.cell 2
      have b3 : w3.cell? ⟨w.heap.size, 3, none⟩ = some (.string ad) := H1.cell 3
      have H1 := Lib.hid H1
      have H3 := Lib.hid H3
      have HB := Lib.hid HB
      clear hb3 H2
      go_wp2_with fail
      refine (HD.out _).mono ?_; rintro e w4 ⟨rfl, hb4⟩
      have J1 := Lib.hid (H1.out.on hb4)
      have H4 := H3.out.on hb4
      have HB := Lib.hid (chain HB.out hb4 (Nat.le_refl _))
      have b1 : (w4.alloc (.cells #[.bool r1, .string r2, .string r3] 30)).cell? ⟨w.heap.size, 4, none⟩ = some (.bool kn) := (J1.out.alloc _).cell 4
      have b2 : (w4.alloc (.cells #[.bool r1, .string r2, .string r3] 30)).cell? ⟨w.heap.size, 5, none⟩ = some (.string ks) := (J1.out.alloc _).cell 5
      have b3 : (w4.alloc (.cells #[.bool r1, .string r2, .string r3] 30)).cell? ⟨w.heap.size, 6, none⟩ = some (.string kd) := (J1.out.alloc _).cell 6
      obtain ⟨f0, f1, f2, f3, f4, f5⟩ := (H4.alloc (.cells #[.bool r1, .string r2, .string r3] 30)).get3
      have hz4 : w.heap.size + 1 + 1 < w4.heap.size := H4.lt
      have H5 := Lib.hid H4
      have HB5 := Lib.hid HB.out
      obtain ⟨g0, g1, g2, g3, g4, g5⟩ := H4.get3
      have H2 := Lib.hid (H4.alloc (.cells #[.bool r1, .string r2, .string r3] 30))
      have HB := Lib.hid (HB.out.alloc (by omega) (.cells #[.bool r1, .string r2, .string r3] 30))
      clear hb4 H1 H3 a0 a1 a2 H4
      clear f0 f1 f2 f3 f4 f5
      go_wp2_with fail
      refine (HM.out _).mono ?_; rintro e w5 ⟨rfl, hb5⟩
      have H2 := Lib.hid (H2.out.on hb5)
      have HB := Lib.hid (chain HB.out hb5 (Nat.le_refl _))
      obtain ⟨f0, f1, f2, f3, f4, f5⟩ := H2.out.get3
      clear hb5 b1 b2 b3
      go_wp2
      refine bodyPost_forget (fun W => Blk W (w.heap.size + 1 + 1) #[.bool m1, .string m2, .string m3] ∧ Below w.heap.size w W) ⟨by exact Blk.set3 H2.out _ _ _, below_set3 HB.out (by omega) _ _ _⟩ ?_
      rintro WR ⟨hr9, hb9⟩
      obtain ⟨y90, y91, y92, -, -, -⟩ := hr9.get3
      exact bodyPost_ret (v := .agg #[.bool m1, .string m2, .string m3]) (by simp [results, Tryz.results30, go_sem, y90, y91, y92]) rfl ⟨rfl, hb9⟩
end Go.Proofs.Ins
