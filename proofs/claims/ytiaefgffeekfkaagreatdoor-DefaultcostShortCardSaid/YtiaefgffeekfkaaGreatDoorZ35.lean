/- The two functions Short of layer 21, and SameBools, in the executor's words. -/
import Derived.Test.YtiaefgffeekfkaaGreatDoorZ33

set_option linter.unusedSimpArgs false
set_option linter.unusedVariables false
namespace Go.Proofs.Xe
open Go.RowKit Go.Proofs.Ins
def shB (c : List C5) (L : List (List Rat)) (i : Nat) : Nat → Bool
 | 0 => false
 | k + 1 => shB c L i k || (decide ((ix c k).r < Int.ofNat 6) && decide (paidQ L i k < (ix c k).a.q))
def shO (g : Grp) (L : List (List Rat)) (i : Nat) : Bool := shB (ix g.e i).c L i (ix g.e i).c.length
def outF (g : Grp) (L : List (List Rat)) (i : Nat) (b : Bool) : Nat → B := fun j => .bool (if j < i then shO g L j else if j = i then b else false)
theorem outF_step (g : Grp) (L : List (List Rat)) (i : Nat) : outF g L i (shO g L i) = outF g L (i + 1) false := by
 funext j
 unfold outF
 congr 1
 by_cases h1 : j < i
 ·rw [if_pos h1, if_pos (by omega)]
 ·by_cases h2 : j = i
  ·subst h2; rw [if_neg (by omega), if_pos rfl, if_pos (by omega)]
  ·rw [if_neg h1, if_neg h2, if_neg (by omega)]
   split <;> rfl
theorem outF_set (g : Grp) (L : List (List Rat)) (i : Nat) (b c : Bool) : updF (outF g L i b) i (.bool c) = outF g L i c := by
 funext j
 unfold updF outF
 by_cases h : j = i
 ·subst h; rw [if_pos rfl, if_neg (by omega), if_pos rfl]
 ·rw [if_neg h, if_neg h, if_neg h]
theorem outF_end (g : Grp) (L : List (List Rat)) (n : Nat) : ones n (outF g L n false) = ones n fun j => .bool (shO g L j) := ones_congr fun i hi => by unfold outF; rw [if_pos hi]
theorem outF_zero (g : Grp) (L : List (List Rat)) (n : Nat) : (ones n fun _ => .bool false) = ones n (outF g L 0 false) := ones_congr fun i hi => by unfold outF; rw [if_neg (by omega)]; split <;> rfl
def SzG (g : Grp) : Prop := ∀ i, i < g.e.length → ∀ k, k < (ix g.e i).c.length → (ix (ix g.e i).c k).a.s.size + (ix (ix g.e i).c k).a.d.size ≤ 130000000 ∧ Sz (ix (ix g.e i).c k).a.q
theorem cmp_lt0 (p q : Rat) : decide (cmpR p q < Int.ofNat 0) = decide (p < q) := cmp_lt p q
theorem R3.q_rq (r : R3) : rq r.n r.s r.d = r.q := rfl
section
variable {m gv n2 n3 n4 n5 n6 n7 : B}
set_option maxRecDepth 10000 in
set_option maxHeartbeats 4000000 in
theorem short_x {σ : St} (hW : WF σ) {p p' : Nat → Prop} {ev dv : B} (g : Grp) (hg : HGrp p' σ.h ev dv g) (hn : g.e.length ≤ 1000) (hcl : ∀ i, i < g.e.length → (ix g.e i).c.length ≤ 1000) (hs : SzG g) (L : List (List Rat)) (hT : HTab p σ.h gv L) (hL : SzT L)
  (hm : m.kn = true) (k2 : n2.kn = true) (k3 : n3.kn = true) (k4 : n4.kn = true) (k5 : n5.kn = true) (k6 : n6.kn = true) (k7 : n7.kn = true) :
  CallX EN 13 [.agg [ev, dv], .agg [m, gv, n2, n3, n4, n5, n6, n7]] σ fun r σ' => (∃ b, r = .c (.sl b 0 g.e.length (.ex g.e.length)) ∧ σ'.h b = some ⟨ones g.e.length (fun j => .bool (shO g L j)), none⟩ ∧ σ.nxt ≤ b) ∧ Fr σ σ' := by
 refine call_fn (O_defaultcost_Short _ _) F_defaultcost_Short ?_
 unfold a_defaultcost_Short
 have hek := hg.e.kn
 have hdk := hg.d.kn
 have hlenE := hg.e.len
 have hgk := hT.choose_spec.1.kn
 simp (config := { maxSteps := 1000000 }) (disch := first | assumption | decide | omega) only [go_sem, z3, hek, hdk, hlenE, hgk, hm, k2, k3, k4, k5, k6, k7]
 refine run_loop (fun q tm σ' => ∃ i, q = g.e.length - i ∧ i ≤ g.e.length ∧ Tr.getV tm 3 = .c (.ptr (σ.nxt + 1) 0) ∧ Tr.getV tm 5 = .c (.sl (σ.nxt + 1 + 1) 0 g.e.length (.ex g.e.length)) ∧ Tr.getV tm 15 = .c ev ∧ Tr.getV tm 16 = .c (.int .i64 (.ofNat g.e.length)) ∧ Tr.getV tm 17 = .c (.int .i64 (.ofNat i))
  ∧ σ'.h (σ.nxt + 1) = some ⟨[m, gv, n2, n3, n4, n5, n6, n7], none⟩ ∧ σ'.h (σ.nxt + 1 + 1) = some ⟨ones g.e.length (outF g L i false), none⟩ ∧ Fr σ σ' ∧ σ.nxt + 1 + 1 + 1 ≤ σ'.nxt) g.e.length ?_ ?_
 ·refine ⟨0, by omega, by omega, ?_⟩
  simp (config := { maxSteps := 1000000 }) (disch := first | assumption | decide | omega) only [go_sem, z3, true_and]
  refine ⟨?_, ?_, by omega⟩
  ·rw [outF_zero g L]
  ·repeat (first | assumption | exact Fr.refl (by assumption) | exact Fr.up (by assumption) (by first | omega | (dsimp only; omega)) | exact Fr.up (Fr.refl (by assumption)) (by first | omega | (dsimp only; omega)) | refine Fr.set1 ?_ (by first | omega | (dsimp only; omega)) (by first | omega | (dsimp only; omega)) | refine Fr.del1 ?_ (by first | omega | (dsimp only; omega)) | refine Fr.newU ?_ (by first | omega | (dsimp only; omega)))
 ·rintro q tm σ' ⟨i, rfl, hi, t3, t5, t15, t16, t17, q1, q2, hf, hnx⟩
  have hle := hf.le
  simp (config := { maxSteps := 1000000 }) (disch := first | assumption | decide | omega) only [go_sem, z3, t3, t5, t15, t16, t17, lt_ofNat]
  refine ifV_dec (fun hlt => ?_) (fun hlt => ?_)
  ·obtain ⟨b, o, c, rfl, C, A, hld, hld3, hC, hA⟩ := hg.e.at hlt
   have hld := hf.ld hW hld
   have hCk := hC.kn
   have hAk := hA.kn
   have hlenC := hC.len
   have hcl1 := hcl i hlt
   have hs1 := hs i hlt
   have hsho : shO g L i = shB (ix g.e i).c L i (ix g.e i).c.length := rfl
   generalize ix g.e i = e at *
   simp (config := { maxSteps := 1000000 }) (disch := first | assumption | decide | omega) only [go_sem, z3, t3, t5, t15, t16, t17, hld, hCk, hAk, hlenC]
   refine run_loop (fun q tm σ3 => ∃ k, q = e.c.length - k ∧ k ≤ e.c.length ∧ Tr.getV tm 3 = .c (.ptr (σ.nxt + 1) 0) ∧ Tr.getV tm 5 = .c (.sl (σ.nxt + 1 + 1) 0 g.e.length (.ex g.e.length)) ∧ Tr.getV tm 6 = .c (.int .i64 (.ofNat i)) ∧ Tr.getV tm 15 = .c (.sl b o g.e.length c) ∧ Tr.getV tm 16 = .c (.int .i64 (.ofNat g.e.length)) ∧ Tr.getV tm 17 = .c (.int .i64 (.ofNat i))
    ∧ Tr.getV tm 23 = .c C ∧ Tr.getV tm 24 = .c (.int .i64 (.ofNat e.c.length)) ∧ Tr.getV tm 25 = .c (.int .i64 (.ofNat k))
    ∧ σ3.h (σ.nxt + 1) = some ⟨[m, gv, n2, n3, n4, n5, n6, n7], none⟩ ∧ σ3.h (σ.nxt + 1 + 1) = some ⟨ones g.e.length (outF g L i (shB e.c L i k)), none⟩ ∧ Fr σ σ3 ∧ σ.nxt + 1 + 1 + 1 ≤ σ3.nxt) e.c.length ?_ ?_
   ·refine ⟨0, by omega, by omega, ?_⟩
    simp (config := { maxSteps := 1000000 }) (disch := first | assumption | decide | omega) only [go_sem, z3, t3, t5, t15, t16, t17, true_and]
    exact ⟨q1, q2, by repeat (first | assumption | exact Fr.refl (by assumption) | exact Fr.up (by assumption) (by first | omega | (dsimp only; omega)) | exact Fr.up (Fr.refl (by assumption)) (by first | omega | (dsimp only; omega)) | refine Fr.set1 ?_ (by first | omega | (dsimp only; omega)) (by first | omega | (dsimp only; omega)) | refine Fr.del1 ?_ (by first | omega | (dsimp only; omega)) | refine Fr.newU ?_ (by first | omega | (dsimp only; omega))), by omega⟩
   ·rintro q tm3 σ3 ⟨k, rfl, hk, t3, t5, t6, t15, t16, t17, t23, t24, t25, q1, q2, hf3, hn3⟩
    have hle3 := hf3.le
    simp (config := { maxSteps := 1000000 }) (disch := first | assumption | decide | omega) only [go_sem, z3, t3, t5, t6, t15, t16, t17, t23, t24, t25, lt_ofNat]
    refine ifV_dec (fun hlk => ?_) (fun hlk => ?_)
    ·obtain ⟨b5, o5, c5, e5, -, hld5⟩ := hC.pos (by omega)
     have hld5 := hf3.ld hW (hld5 k hlk)
     unfold c5B at hld5
     rw [e5] at t23
     obtain ⟨z1, z2⟩ := hs1 k hlk
     have hsh : shB e.c L i (k + 1) = (shB e.c L i k || (decide ((ix e.c k).r < Int.ofNat 6) && decide (paidQ L i k < (ix e.c k).a.q))) := rfl
     simp (config := { maxSteps := 1000000 }) (disch := first | assumption | decide | omega) only [go_sem, z3, t3, t5, t6, t15, t16, t17, t23, t24, t25, hld5]
     refine gsV_dec (fun hr => ?_) (fun hr => ?_)
     ·simp (config := { maxSteps := 1000000 }) (disch := first | assumption | decide | omega) only [go_sem, z3, t3, t5, t6, t15, t16, t17, t23, t24, t25, ld_blk q1, hgk, hm, k2, k3, k4, k5, k6, k7, hr]
      refine CallX.st (Fr σ3) (by have hF := Fr.refl hf3.wf; repeat (first | assumption | exact Fr.refl (by assumption) | exact Fr.up (by assumption) (by first | omega | (dsimp only; omega)) | exact Fr.up (Fr.refl (by assumption)) (by first | omega | (dsimp only; omega)) | refine Fr.set1 ?_ (by first | omega | (dsimp only; omega)) (by first | omega | (dsimp only; omega)) | refine Fr.del1 ?_ (by first | omega | (dsimp only; omega)) | refine Fr.newU ?_ (by first | omega | (dsimp only; omega)))) fun hF3 => ?_
      have hF03 := hf3.trans hF3
      refine (paid_x hF3.wf L (hT.fr hW hF03) hm k2 k3 k4 k5 k6 k7 i k).mono ?_
      rintro _ σ4 ⟨rfl, hf4⟩
      have hz := (hL.paid i k).two
      unfold rV
      have hF4 := hF3.trans hf4
      have hF04 := hf3.trans hF4
      have hle4 := hF4.le
      have q1' := hF4.get hf3.wf q1
      have q2' := hF4.get hf3.wf q2
      have hst : σ4.h σ3.nxt = some ⟨[.int .i64 (ix e.c k).h, .int .i64 (ix e.c k).r, .bool (ix e.c k).a.n, .str (ix e.c k).a.s, .str (ix e.c k).a.d], none⟩ := hf4.get hF3.wf (hset_get _ _ _)
      simp (config := { maxSteps := 1000000 }) (disch := first | assumption | decide | omega) only [go_sem, z3, t3, t5, t6, t15, t16, t17, t23, t24, t25, R3.q_rq, cmp_lt0, ld_blk hst, hgk, hm, k2, k3, k4, k5, k6, k7, ld_blk q1']
      refine ifV_dec (fun hc => ?_) (fun hc => ?_)
      ·rw [decide_eq_true hr, decide_eq_true hc, Bool.and_self, Bool.or_true] at hsh
       have ho := outF_set g L i (shB e.c L i k) true
       simp (config := { maxSteps := 1000000 }) (disch := first | assumption | decide | omega) only [go_sem, z3, t3, t5, t6, t15, t16, t17, t23, t24, t25, sto_blk q2', ho]
       refine ⟨e.c.length - (k + 1), by omega, k + 1, rfl, by omega, by rw [e5], rfl, q1', by rw [hsh], by repeat (first | assumption | exact Fr.refl (by assumption) | exact Fr.up (by assumption) (by first | omega | (dsimp only; omega)) | exact Fr.up (Fr.refl (by assumption)) (by first | omega | (dsimp only; omega)) | refine Fr.set1 ?_ (by first | omega | (dsimp only; omega)) (by first | omega | (dsimp only; omega)) | refine Fr.del1 ?_ (by first | omega | (dsimp only; omega)) | refine Fr.newU ?_ (by first | omega | (dsimp only; omega))), by omega⟩
      ·rw [decide_eq_false hc, Bool.and_false, Bool.or_false] at hsh
       simp (config := { maxSteps := 1000000 }) (disch := first | assumption | decide | omega) only [go_sem, z3, t3, t5, t6, t15, t16, t17, t23, t24, t25]
       refine ⟨e.c.length - (k + 1), by omega, k + 1, rfl, by omega, by rw [e5], rfl, q1', by rw [hsh]; exact q2', hF04, by omega⟩
     ·rw [decide_eq_false hr, Bool.false_and, Bool.or_false] at hsh
      simp (config := { maxSteps := 1000000 }) (disch := first | assumption | decide | omega) only [go_sem, z3, t3, t5, t6, t15, t16, t17, t23, t24, t25, hr]
      refine ⟨e.c.length - (k + 1), by omega, k + 1, rfl, by omega, by rw [e5], rfl, q1, by rw [hsh]; exact q2, by repeat (first | assumption | exact Fr.refl (by assumption) | exact Fr.up (by assumption) (by first | omega | (dsimp only; omega)) | exact Fr.up (Fr.refl (by assumption)) (by first | omega | (dsimp only; omega)) | refine Fr.set1 ?_ (by first | omega | (dsimp only; omega)) (by first | omega | (dsimp only; omega)) | refine Fr.del1 ?_ (by first | omega | (dsimp only; omega)) | refine Fr.newU ?_ (by first | omega | (dsimp only; omega))), by omega⟩
    ·have : k = e.c.length := by omega
     subst this
     rw [← hsho, outF_step] at q2
     simp (config := { maxSteps := 1000000 }) (disch := first | assumption | decide | omega) only [go_sem, z3, t3, t5, t6, t15, t16, t17, t23, t24, t25]
     exact ⟨g.e.length - (i + 1), by omega, i + 1, rfl, by omega, rfl, q1, q2, hf3, hn3⟩
  ·have : i = g.e.length := by omega
   subst this
   rw [outF_end] at q2
   simp (config := { maxSteps := 1000000 }) (disch := first | assumption | decide | omega) only [go_sem, z3, t5]
   exact ⟨⟨_, rfl, q2, by omega⟩, hf⟩
end
theorem ltB_dec (p q : Rat) : ltB p q = decide (p < q) := rfl
set_option maxRecDepth 10000 in
theorem rpaid_x {σ : St} (hW : WF σ) {p : Nat → Prop} (L : List (List Rat)) {gv : B} (hT : HTab p σ.h gv L) (hL : SzT L) (i k : Nat) :
  CallX EN 39 [.c gv, .c (.int .i64 (.ofNat i)), .c (.int .i64 (.ofNat k))] σ fun r σ' => r = rV (paidQ L i k) ∧ Fr σ σ' := by
 refine call_fn (O_r21_paid _ _) F_r21_paid ?_
 unfold a_r21_paid
 obtain ⟨R, hR, hR2⟩ := hT
 have hlen := hR.len
 have hkn := hR.kn
 have hge : ∀ a b : Nat, decide (Int.ofNat a ≤ Int.ofNat b) = decide (a ≤ b) := fun a b => by simp
 simp (config := { maxSteps := 1000000 }) (disch := first | assumption | decide | omega) only [go_sem, z3, hlen, hkn, hge]
 refine gsV_dec' (fun hi => ?_) (fun hi => ?_)
 ·simp (config := { maxSteps := 1000000 }) (disch := first | assumption | decide | omega) only [go_sem, z3, hi]
  refine ⟨?_, by repeat (first | assumption | exact Fr.refl (by assumption) | exact Fr.up (by assumption) (by first | omega | (dsimp only; omega)) | exact Fr.up (Fr.refl (by assumption)) (by first | omega | (dsimp only; omega)) | refine Fr.set1 ?_ (by first | omega | (dsimp only; omega)) (by first | omega | (dsimp only; omega)) | refine Fr.del1 ?_ (by first | omega | (dsimp only; omega)) | refine Fr.newU ?_ (by first | omega | (dsimp only; omega)))⟩
  unfold paidQ rV
  rw [if_neg (by omega)]
 ·obtain ⟨b, o, c, rfl, -, hld⟩ := hR.pos (by omega)
  obtain ⟨l1, l2⟩ := ld_one (hld i (by omega))
  have hb := hW.ld_lt l1
  have hRi := hR2 i (by omega)
  have hlen2 := hRi.len
  simp (config := { maxSteps := 1000000 }) (disch := first | assumption | decide | omega) only [go_sem, z3, hlen, hkn, hi, l1, hlen2, hge]
  refine ifV_dec (fun hk => ?_) (fun hk => ?_)
  ·simp (config := { maxSteps := 1000000 }) (disch := first | assumption | decide | omega) only [go_sem, z3, hk]
   refine ⟨?_, by repeat (first | assumption | exact Fr.refl (by assumption) | exact Fr.up (by assumption) (by first | omega | (dsimp only; omega)) | exact Fr.up (Fr.refl (by assumption)) (by first | omega | (dsimp only; omega)) | refine Fr.set1 ?_ (by first | omega | (dsimp only; omega)) (by first | omega | (dsimp only; omega)) | refine Fr.del1 ?_ (by first | omega | (dsimp only; omega)) | refine Fr.newU ?_ (by first | omega | (dsimp only; omega)))⟩
   unfold paidQ rV
   rw [if_pos (by omega), if_neg (by omega)]
  ·obtain ⟨b2, o2, c2, e2, -, hld2⟩ := hRi.pos (by omega)
   have hld2 := hld2 k (by omega)
   have hb2 := hW.ld_lt hld2
   have hz : Sz (ix (ix L i) k) := hL i (by omega) k (by omega)
   unfold ratC at hld2
   rw [e2] at l1
   simp (config := { maxSteps := 1000000 }) (disch := first | assumption | decide | omega) only [go_sem, z3, hkn, l1, hld2]
   refine ⟨?_, by repeat (first | assumption | exact Fr.refl (by assumption) | exact Fr.up (by assumption) (by first | omega | (dsimp only; omega)) | exact Fr.up (Fr.refl (by assumption)) (by first | omega | (dsimp only; omega)) | refine Fr.set1 ?_ (by first | omega | (dsimp only; omega)) (by first | omega | (dsimp only; omega)) | refine Fr.del1 ?_ (by first | omega | (dsimp only; omega)) | refine Fr.newU ?_ (by first | omega | (dsimp only; omega)))⟩
   unfold paidQ rV
   rw [if_pos (by omega), if_pos (by omega)]
section
variable {m gv n2 n3 n4 n5 n6 n7 : B}
set_option maxRecDepth 10000 in
set_option maxHeartbeats 4000000 in
theorem rshort_x {σ : St} (hW : WF σ) {p p' : Nat → Prop} {ev dv : B} (g : Grp) (hg : HGrp p' σ.h ev dv g) (hn : g.e.length ≤ 1000) (hcl : ∀ i, i < g.e.length → (ix g.e i).c.length ≤ 1000) (hs : SzG g) (L : List (List Rat)) (hT : HTab p σ.h gv L) (hL : SzT L)
  (hm : m.kn = true) (k2 : n2.kn = true) (k3 : n3.kn = true) (k4 : n4.kn = true) (k5 : n5.kn = true) (k6 : n6.kn = true) (k7 : n7.kn = true) :
  CallX EN 14 [.agg [ev, dv], .agg [m, gv, n2, n3, n4, n5, n6, n7]] σ fun r σ' => (∃ b, r = .c (.sl b 0 g.e.length (.ex g.e.length)) ∧ σ'.h b = some ⟨ones g.e.length (fun j => .bool (shO g L j)), none⟩ ∧ σ.nxt ≤ b) ∧ Fr σ σ' := by
 refine call_fn (O_r21_Short _ _) F_r21_Short ?_
 unfold a_r21_Short
 have hek := hg.e.kn
 have hdk := hg.d.kn
 have hlenE := hg.e.len
 have hgk := hT.choose_spec.1.kn
 simp (config := { maxSteps := 1000000 }) (disch := first | assumption | decide | omega) only [go_sem, z3, hek, hdk, hlenE, hgk, hm, k2, k3, k4, k5, k6, k7]
 refine run_loop (fun q tm σ' => ∃ i, q = g.e.length - i ∧ i ≤ g.e.length ∧ Tr.getV tm 2 = .c (.ptr σ.nxt 0) ∧ Tr.getV tm 3 = .c (.ptr (σ.nxt + 1) 0) ∧ Tr.getV tm 5 = .c (.sl (σ.nxt + 1 + 1) 0 g.e.length (.ex g.e.length)) ∧ Tr.getV tm 6 = .c (.int .i64 (.ofNat i))
  ∧ σ'.h σ.nxt = some ⟨[ev, dv], none⟩ ∧ σ'.h (σ.nxt + 1) = some ⟨[m, gv, n2, n3, n4, n5, n6, n7], none⟩ ∧ σ'.h (σ.nxt + 1 + 1) = some ⟨ones g.e.length (outF g L i false), none⟩ ∧ Fr σ σ' ∧ σ.nxt + 1 + 1 + 1 ≤ σ'.nxt) g.e.length ?_ ?_
 ·refine ⟨0, by omega, by omega, ?_⟩
  simp (config := { maxSteps := 1000000 }) (disch := first | assumption | decide | omega) only [go_sem, z3, true_and]
  refine ⟨?_, ?_, by omega⟩
  ·rw [outF_zero g L]
  ·repeat (first | assumption | exact Fr.refl (by assumption) | exact Fr.up (by assumption) (by first | omega | (dsimp only; omega)) | exact Fr.up (Fr.refl (by assumption)) (by first | omega | (dsimp only; omega)) | refine Fr.set1 ?_ (by first | omega | (dsimp only; omega)) (by first | omega | (dsimp only; omega)) | refine Fr.del1 ?_ (by first | omega | (dsimp only; omega)) | refine Fr.newU ?_ (by first | omega | (dsimp only; omega)))
 ·rintro q tm σ' ⟨i, rfl, hi, t2, t3, t5, t6, q0, q1, q2, hf, hnx⟩
  have hle := hf.le
  simp (config := { maxSteps := 1000000 }) (disch := first | assumption | decide | omega) only [go_sem, z3, t2, t3, t5, t6, ld_blk q0, hek, hlenE, lt_ofNat]
  refine ifV_dec (fun hlt => ?_) (fun hlt => ?_)
  ·obtain ⟨b, o, c, rfl, C, A, hld, hld3, hC, hA⟩ := hg.e.at hlt
   have hld3 := hf.ld hW hld3
   have hlenC := hC.len
   have hcl1 := hcl i hlt
   have hs1 := hs i hlt
   have hsho : shO g L i = shB (ix g.e i).c L i (ix g.e i).c.length := rfl
   generalize ix g.e i = e at *
   simp (config := { maxSteps := 1000000 }) (disch := first | assumption | decide | omega) only [go_sem, z3, t2, t3, t5, t6, ld_blk q0, hek, hld3]
   refine run_loop (fun q tm σ3 => ∃ k, q = e.c.length - k ∧ k ≤ e.c.length ∧ Tr.getV tm 2 = .c (.ptr σ.nxt 0) ∧ Tr.getV tm 3 = .c (.ptr (σ.nxt + 1) 0) ∧ Tr.getV tm 5 = .c (.sl (σ.nxt + 1 + 1) 0 g.e.length (.ex g.e.length)) ∧ Tr.getV tm 6 = .c (.int .i64 (.ofNat i)) ∧ Tr.getV tm 7 = .c C ∧ Tr.getV tm 8 = .c (.int .i64 (.ofNat k))
    ∧ σ3.h σ.nxt = some ⟨[.sl b o g.e.length c, dv], none⟩ ∧ σ3.h (σ.nxt + 1) = some ⟨[m, gv, n2, n3, n4, n5, n6, n7], none⟩ ∧ σ3.h (σ.nxt + 1 + 1) = some ⟨ones g.e.length (outF g L i (shB e.c L i k)), none⟩ ∧ Fr σ σ3 ∧ σ.nxt + 1 + 1 + 1 ≤ σ3.nxt) e.c.length ?_ ?_
   ·refine ⟨0, by omega, by omega, ?_⟩
    simp (config := { maxSteps := 1000000 }) (disch := first | assumption | decide | omega) only [go_sem, z3, t2, t3, t5, t6, true_and]
    exact ⟨q0, q1, q2, hf, by omega⟩
   ·rintro q tm3 σ3 ⟨k, rfl, hk, t2, t3, t5, t6, t7, t8, q0, q1, q2, hf3, hn3⟩
    have hle3 := hf3.le
    simp (config := { maxSteps := 1000000 }) (disch := first | assumption | decide | omega) only [go_sem, z3, t2, t3, t5, t6, t7, t8, hlenC, lt_ofNat]
    refine ifV_dec (fun hlk => ?_) (fun hlk => ?_)
    ·obtain ⟨b5, o5, c5, e5, -, hld5⟩ := hC.pos (by omega)
     have hld5 := hf3.ld hW (hld5 k hlk)
     unfold c5B at hld5
     have hr5 : ld σ3.h b5 (o5 + k * 5 + 1) 1 false = some (.c (.int .i64 (ix e.c k).r)) := by
      rw [ld_sub hld5 1 1 false (by decide) (by decide)]; rfl
     have ha5 : ld σ3.h b5 (o5 + k * 5 + 2) 3 true = some (.agg [.bool (ix e.c k).a.n, .str (ix e.c k).a.s, .str (ix e.c k).a.d]) := by
      rw [ld_sub hld5 2 3 true (by decide) (by decide)]; rfl
     rw [e5] at t7
     obtain ⟨z1, z2⟩ := hs1 k hlk
     have hz := hL.paid i k
     have hsh : shB e.c L i (k + 1) = (shB e.c L i k || (decide ((ix e.c k).r < Int.ofNat 6) && decide (paidQ L i k < (ix e.c k).a.q))) := rfl
     simp (config := { maxSteps := 1000000 }) (disch := first | assumption | decide | omega) only [go_sem, z3, t2, t3, t5, t6, t7, t8, hr5]
     refine gsV_dec (fun hr => ?_) (fun hr => ?_)
     ·simp (config := { maxSteps := 1000000 }) (disch := first | assumption | decide | omega) only [go_sem, z3, t2, t3, t5, t6, t7, t8, hr5, ha5, ld_blk q1, hgk, hr]
      refine (rpaid_x hf3.wf L (hT.fr hW hf3) hL i k).mono ?_
      rintro _ σ4 ⟨rfl, hf4⟩
      unfold rV
      have hF04 := hf3.trans hf4
      have hle4 := hf4.le
      have q0' := hf4.get hf3.wf q0
      have q1' := hf4.get hf3.wf q1
      have q2' := hf4.get hf3.wf q2
      have hr5' := hf4.ld hf3.wf hr5
      have ha5' := hf4.ld hf3.wf ha5
      simp (config := { maxSteps := 1000000 }) (disch := first | assumption | decide | omega) only [go_sem, z3, t2, t3, t5, t6, t7, t8, R3.q_rq, ltB_dec, hgk, ld_blk q1', hr5', ha5']
      refine ifV_dec (fun hc => ?_) (fun hc => ?_)
      ·rw [decide_eq_true hr, decide_eq_true hc, Bool.and_self, Bool.or_true] at hsh
       have ho := outF_set g L i (shB e.c L i k) true
       simp (config := { maxSteps := 1000000 }) (disch := first | assumption | decide | omega) only [go_sem, z3, t2, t3, t5, t6, t7, t8, sto_blk q2', ho]
       refine ⟨e.c.length - (k + 1), by omega, k + 1, rfl, by omega, by rw [e5], rfl, q0', q1', by rw [hsh], by repeat (first | assumption | exact Fr.refl (by assumption) | exact Fr.up (by assumption) (by first | omega | (dsimp only; omega)) | exact Fr.up (Fr.refl (by assumption)) (by first | omega | (dsimp only; omega)) | refine Fr.set1 ?_ (by first | omega | (dsimp only; omega)) (by first | omega | (dsimp only; omega)) | refine Fr.del1 ?_ (by first | omega | (dsimp only; omega)) | refine Fr.newU ?_ (by first | omega | (dsimp only; omega))), by omega⟩
      ·rw [decide_eq_false hc, Bool.and_false, Bool.or_false] at hsh
       simp (config := { maxSteps := 1000000 }) (disch := first | assumption | decide | omega) only [go_sem, z3, t2, t3, t5, t6, t7, t8]
       refine ⟨e.c.length - (k + 1), by omega, k + 1, rfl, by omega, by rw [e5], rfl, q0', q1', by rw [hsh]; exact q2', hF04, by omega⟩
     ·rw [decide_eq_false hr, Bool.false_and, Bool.or_false] at hsh
      simp (config := { maxSteps := 1000000 }) (disch := first | assumption | decide | omega) only [go_sem, z3, t2, t3, t5, t6, t7, t8, hr, hr5]
      refine ⟨e.c.length - (k + 1), by omega, k + 1, rfl, by omega, by rw [e5], rfl, q0, q1, by rw [hsh]; exact q2, by repeat (first | assumption | exact Fr.refl (by assumption) | exact Fr.up (by assumption) (by first | omega | (dsimp only; omega)) | exact Fr.up (Fr.refl (by assumption)) (by first | omega | (dsimp only; omega)) | refine Fr.set1 ?_ (by first | omega | (dsimp only; omega)) (by first | omega | (dsimp only; omega)) | refine Fr.del1 ?_ (by first | omega | (dsimp only; omega)) | refine Fr.newU ?_ (by first | omega | (dsimp only; omega))), by omega⟩
    ·have : k = e.c.length := by omega
     subst this
     rw [← hsho, outF_step] at q2
     simp (config := { maxSteps := 1000000 }) (disch := first | assumption | decide | omega) only [go_sem, z3, t2, t3, t5, t6, t7, t8]
     exact ⟨g.e.length - (i + 1), by omega, i + 1, rfl, by omega, rfl, q0, q1, q2, hf3, hn3⟩
  ·have : i = g.e.length := by omega
   subst this
   rw [outF_end] at q2
   simp (config := { maxSteps := 1000000 }) (disch := first | assumption | decide | omega) only [go_sem, z3, t5]
   exact ⟨⟨_, rfl, q2, by omega⟩, hf⟩
end
set_option maxRecDepth 10000 in
theorem samebools_x {σ : St} (hW : WF σ) {n b1 b2 : Nat} {c1 c2 : Cap} (F : Nat → Bool) (h1 : σ.h b1 = some ⟨ones n fun j => .bool (F j), none⟩) (h2 : σ.h b2 = some ⟨ones n fun j => .bool (F j), none⟩) (hn : n ≤ 1000) :
  CallX EN 12 [.c (.sl b1 0 n c1), .c (.sl b2 0 n c2)] σ fun r σ' => r = .c (.bool true) ∧ Fr σ σ' := by
 refine call_fn (O_r21_SameBools _ _) F_r21_SameBools ?_
 unfold a_r21_SameBools
 have hdd : decide (Int.ofNat n = Int.ofNat n) = true := decide_eq_true rfl
 simp (config := { maxSteps := 1000000 }) (disch := first | assumption | decide | omega) only [go_sem, z3, hdd]
 refine run_loop (fun q tm σ' => ∃ i, q = n - i ∧ i ≤ n ∧ Tr.getV tm 0 = .c (.sl b1 0 n c1) ∧ Tr.getV tm 1 = .c (.sl b2 0 n c2) ∧ Tr.getV tm 5 = .c (.int .i64 (.ofNat i)) ∧ Fr σ σ') n ?_ ?_
 ·refine ⟨0, by omega, by omega, ?_⟩
  simp (config := { maxSteps := 1000000 }) (disch := first | assumption | decide | omega) only [go_sem, z3, true_and]
  exact Fr.refl hW
 ·rintro q tm σ' ⟨i, rfl, hi, t0, t1, t5, hf⟩
  have h1 := hf.get hW h1
  have h2 := hf.get hW h2
  have hbb : (false == (F i == F i)) = false := by cases F i <;> rfl
  simp (config := { maxSteps := 1000000 }) (disch := first | assumption | decide | omega) only [go_sem, z3, t0, t1, t5, lt_ofNat]
  refine ifV_dec (fun hlt => ?_) (fun hlt => ?_)
  ·simp (config := { maxSteps := 1000000 }) (disch := first | assumption | decide | omega) only [go_sem, z3, t0, t1, t5, ld_blk h1, ld_blk h2, hbb]
   exact ⟨n - (i + 1), by omega, i + 1, rfl, by omega, rfl, hf⟩
  ·simp (config := { maxSteps := 1000000 }) (disch := first | assumption | decide | omega) only [go_sem, z3, t0]
   exact hf
end Go.Proofs.Xe
