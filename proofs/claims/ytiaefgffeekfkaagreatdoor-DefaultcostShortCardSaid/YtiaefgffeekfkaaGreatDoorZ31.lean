/- Families of growing lists, in the executor's words; insolvencylaw0: free, agree. -/
import Derived.Test.YtiaefgffeekfkaaGreatDoorZ30

set_option linter.unusedSimpArgs false
set_option linter.unusedVariables false
namespace Go.Proofs.Xe
open Go.RowKit Go.Proofs.Ins
def clC (l : List C5) : Nat → List B := fun k => c5B (ix l k)
def famV {α : Type} (l : List α) (b : Nat) : B := if l.length = 0 then .nils else .sl b 0 l.length .opn
theorem famV_pos {α : Type} {l : List α} (h : 0 < l.length) (b : Nat) : famV l b = .sl b 0 l.length .opn := if_neg (by omega)
theorem famV_len {α : Type} (l : List α) (b : Nat) : lenV (.c (famV l b)) = some (.c (.int .i64 (.ofNat l.length))) := by
 by_cases h : l.length = 0
 ·unfold famV; rw [if_pos h, h]; rfl
 ·rw [famV_pos (by omega)]; rfl
theorem famV_kn {α : Type} (l : List α) (b : Nat) : (famV l b).kn = true := by
 by_cases h : l.length = 0
 ·unfold famV; rw [if_pos h]; rfl
 ·rw [famV_pos (by omega)]; rfl
def estC (m : Nat → Rat) (cl : Nat → List C5) (bs : Nat → Nat) (A : Nat → B) : Nat → List B := fun i => [.bool (rn (m i)), .str (rs (m i)), .str (rd (m i)), famV (cl i) (bs i), A i]
def Qt (lo hi eb n : Nat) (cl : Nat → List C5) (bs : Nat → Nat) (b : Nat) : Prop := lo ≤ b ∧ b < hi ∧ b ≠ eb ∧ ∀ i, i < n → 0 < (cl i).length → b ≠ bs i
structure OGrp (h : Tr Bk) (dv : B) (n eb : Nat) (m : Nat → Rat) (cl : Nat → List C5) (bs : Nat → Nat) (A : Nat → B) (al : Nat → List Agr) (dl : List Dbt) (lo hi : Nat) : Prop where
 e : h eb = some ⟨celR n (estC m cl bs A), some (5, 76)⟩
 elo : lo ≤ eb
 ehi : eb < hi
 c : ∀ i, i < n → 0 < (cl i).length → h (bs i) = some ⟨celR (cl i).length (clC (cl i)), some (5, 79)⟩ ∧ lo ≤ bs i ∧ bs i < hi ∧ bs i ≠ eb
 inj : ∀ i j, i < n → j < n → 0 < (cl i).length → 0 < (cl j).length → bs i = bs j → i = j
 a : ∀ i, i < n → HAgrs (Qt lo hi eb n cl bs) h (A i) (al i)
 d : HDbts (Qt lo hi eb n cl bs) h dv dl
def estsOf (n : Nat) (m : Nat → Rat) (cl : Nat → List C5) (al : Nat → List Agr) : List Est := (List.range n).map fun i => ⟨ofQ (m i), cl i, al i⟩
theorem estsOf_len (n : Nat) (m : Nat → Rat) (cl : Nat → List C5) (al : Nat → List Agr) : (estsOf n m cl al).length = n := by unfold estsOf; simp
theorem estsOf_ix {n : Nat} (m : Nat → Rat) (cl : Nat → List C5) (al : Nat → List Agr) {i : Nat} (h : i < n) : ix (estsOf n m cl al) i = ⟨ofQ (m i), cl i, al i⟩ := by
 rw [ix_lt (by rw [estsOf_len]; exact h)]
 unfold estsOf; simp
section
variable {h h' : Tr Bk} {dv : B} {n eb : Nat} {m : Nat → Rat} {cl : Nat → List C5} {bs : Nat → Nat} {A : Nat → B} {al : Nat → List Agr} {dl : List Dbt} {lo hi : Nat}
theorem HAgrs.kn {p : Nat → Prop} {v : B} {l : List Agr} (hl : HAgrs p h v l) : v.kn = true := hl.choose_spec.1.kn
theorem HDbts.kn {p : Nat → Prop} {v : B} {l : List Dbt} (hl : HDbts p h v l) : v.kn = true := hl.choose_spec.1.kn
theorem HEsts.kn {p : Nat → Prop} {v : B} {l : List Est} (hl : HEsts p h v l) : v.kn = true := hl.choose_spec.choose_spec.1.kn
theorem OGrp.ekn (ho : OGrp h dv n eb m cl bs A al dl lo hi) (i : Nat) (hi' : i < n) : (estC m cl bs A i).all B.kn = true := by
 unfold estC
 simp only [List.all_cons, List.all_nil, famV_kn, (ho.a i hi').kn, kn_bool, kn_str, Bool.and_self]
theorem OGrp.ldE (ho : OGrp h dv n eb m cl bs A al dl lo hi) {i : Nat} (hi' : i < n) : ld h eb (0 + i * 5) 5 true = some (.agg (estC m cl bs A i)) :=
 cel_ld ho.e rfl (fun _ => rfl) (by decide) ho.ekn hi'
theorem OGrp.ldC (ho : OGrp h dv n eb m cl bs A al dl lo hi) {i : Nat} (hi' : i < n) : ld h eb (i * 5 + 3) 1 false = some (.c (famV (cl i) (bs i))) := by
 have := ld_sub (ho.ldE hi') 3 1 false (by decide) (by decide)
 rw [Nat.zero_add] at this
 rw [this]
 unfold estC rdC
 simp [famV_kn]
theorem OGrp.ldA (ho : OGrp h dv n eb m cl bs A al dl lo hi) {i : Nat} (hi' : i < n) : ld h eb (i * 5 + 4) 1 false = some (.c (A i)) := by
 have := ld_sub (ho.ldE hi') 4 1 false (by decide) (by decide)
 rw [Nat.zero_add] at this
 rw [this]
 unfold estC rdC
 simp [(ho.a i hi').kn]
theorem OGrp.grp (ho : OGrp h dv n eb m cl bs A al dl lo hi) (c : Cap) : HGrp (fun b => lo ≤ b ∧ b < hi) h (.sl eb 0 n c) dv ⟨estsOf n m cl al, dl⟩ := by
 refine ⟨⟨fun i => famV (cl i) (bs i), A, ?_, fun i hi' => ?_⟩, ho.d.keep (fun _ _ => rfl) fun b hb => ⟨hb.1, hb.2.1⟩⟩
 ·have h1 : HLp (fun b => lo ≤ b ∧ b < hi) h 5 (.sl eb 0 n c) n (estC m cl bs A) := cel_hlp c ho.e rfl ⟨ho.elo, ho.ehi⟩ (fun _ => rfl) (by decide) ho.ekn
  have e : (estsOf n m cl al).length = n := estsOf_len ..
  show HLp _ h 5 _ (estsOf n m cl al).length _
  rw [e]
  exact h1.congr fun i hi' => by rw [estsOf_ix m cl al hi']; rfl
 ·have hi' : i < n := by rw [← estsOf_len n m cl al]; exact hi'
  show HClaims _ h (famV (cl i) (bs i)) (ix (estsOf n m cl al) i).c ∧ HAgrs _ h (A i) (ix (estsOf n m cl al) i).a
  rw [estsOf_ix m cl al hi']
  refine ⟨?_, (ho.a i hi').keep (fun _ _ => rfl) fun b hb => ⟨hb.1, hb.2.1⟩⟩
  by_cases h0 : (cl i).length = 0
  ·exact .inl ⟨h0, by unfold famV; rw [if_pos h0]⟩
  ·obtain ⟨k1, k2, k3, -⟩ := ho.c i hi' (by omega)
   rw [famV_pos (by omega)]
   exact cel_hlp _ k1 rfl ⟨k2, k3⟩ (fun _ => rfl) (by decide) fun _ _ => rfl
theorem Qt.keep {cl' : Nat → List C5} (hc : ∀ i, i < n → (cl' i).length = (cl i).length) {b : Nat} (hq : Qt lo hi eb n cl bs b) : Qt lo hi eb n cl' bs b :=
 ⟨hq.1, hq.2.1, hq.2.2.1, fun i h1 h2 => hq.2.2.2 i h1 (by rw [← hc i h1]; exact h2)⟩
theorem OGrp.mono (ho : OGrp h dv n eb m cl bs A al dl lo hi) (hh : ∀ b, lo ≤ b → b < hi → h' b = h b) {hi' : Nat} (h2 : hi ≤ hi') : OGrp h' dv n eb m cl bs A al dl lo hi' where
 e := by rw [hh eb ho.elo ho.ehi]; exact ho.e
 elo := ho.elo
 ehi := Nat.lt_of_lt_of_le ho.ehi h2
 c := fun i h1 h3 => by
  obtain ⟨k1, k2, k3, k4⟩ := ho.c i h1 h3
  exact ⟨by rw [hh _ k2 k3]; exact k1, k2, by omega, k4⟩
 inj := ho.inj
 a := fun i h1 => (ho.a i h1).keep (fun b hb => hh b hb.1 hb.2.1) fun b hb => ⟨hb.1, Nat.lt_of_lt_of_le hb.2.1 h2, hb.2.2⟩
 d := ho.d.keep (fun b hb => hh b hb.1 hb.2.1) fun b hb => ⟨hb.1, Nat.lt_of_lt_of_le hb.2.1 h2, hb.2.2⟩
theorem OGrp.setC (ho : OGrp h dv n eb m cl bs A al dl lo hi) {i k : Nat} (hi' : i < n) (hk : k < (cl i).length) (x : C5) {cells : List B} (hc : cells = celR (cl i).length (updG (clC (cl i)) k (c5B x))) :
  OGrp (hset h (bs i) ⟨cells, some (5, 79)⟩) dv n eb m (updF cl i ((cl i).set k x)) bs A al dl lo hi := by
 have hpos : 0 < (cl i).length := by omega
 obtain ⟨k1, k2, k3, k4⟩ := ho.c i hi' hpos
 have hlen : ∀ j, j < n → (updF cl i ((cl i).set k x) j).length = (cl j).length := fun j _ => by
  unfold updF
  split
  ·next e => rw [List.length_set, e]
  ·rfl
 have hfam : ∀ j, famV (updF cl i ((cl i).set k x) j) (bs j) = famV (cl j) (bs j) := fun j => by
  unfold updF
  split
  ·next e => unfold famV; rw [List.length_set, e]
  ·rfl
 refine ⟨?_, ho.elo, ho.ehi, fun j hj hp => ?_, fun a b ha hb pa pb e => ho.inj a b ha hb (by rw [← hlen a ha]; exact pa) (by rw [← hlen b hb]; exact pb) e, fun j hj => ?_, ?_⟩
 ·rw [hset_ne _ _ _ _ (Ne.symm k4), ho.e]
  congr 2
  refine cel_congr fun j _ => ?_
  unfold estC
  rw [hfam]
 ·rw [hlen j hj] at hp
  by_cases e : j = i
  ·subst e
   rw [hset_get, hlen j hj, hc]
   refine ⟨?_, k2, k3, k4⟩
   congr 2
   refine cel_congr fun a ha => ?_
   unfold updG clC
   rw [updF_same]
   unfold ix
   rw [List.getD_eq_getElem?_getD, List.getD_eq_getElem?_getD, List.getElem?_set]
   by_cases e2 : a = k
   ·subst e2
    rw [if_pos rfl, if_pos rfl, if_pos ha]; rfl
   ·rw [if_neg e2, if_neg (Ne.symm e2)]
  ·obtain ⟨j1, j2, j3, j4⟩ := ho.c j hj hp
   rw [hset_ne _ _ _ _ (fun e2 => e (ho.inj j i hj hi' hp hpos e2)), updF_ne _ _ _ _ e]
   exact ⟨j1, j2, j3, j4⟩
 ·exact (ho.a j hj).keep (fun b hb => hset_ne _ _ _ _ (hb.2.2.2 i hi' hpos)) fun b hb => hb.keep hlen
 ·exact ho.d.keep (fun b hb => hset_ne _ _ _ _ (hb.2.2.2 i hi' hpos)) fun b hb => hb.keep hlen
end
def LateL (l l' : List C5) : Prop := l'.length = l.length ∧ ∀ k, k < l.length → (ix l' k).h = (ix l k).h ∧ (ix l' k).a = (ix l k).a ∧ ((ix l' k).r = (ix l k).r ∨ (ix l' k).r = 6 ∨ (ix l' k).r = 7)
theorem LateL.refl (l : List C5) : LateL l l := ⟨rfl, fun _ _ => ⟨rfl, rfl, .inl rfl⟩⟩
theorem LateL.set {l l' : List C5} (hl : LateL l l') {k : Nat} {r : Int} (hr : r = 6 ∨ r = 7) : LateL l (l'.set k ⟨(ix l' k).h, r, (ix l' k).a⟩) := by
 refine ⟨by rw [List.length_set]; exact hl.1, fun j hj => ?_⟩
 have h1 := hl.2 j hj
 have h0 := hl.1
 by_cases e : j = k
 ·subst e
  rw [show ix (l'.set j ⟨(ix l' j).h, r, (ix l' j).a⟩) j = ⟨(ix l' j).h, r, (ix l' j).a⟩ by
   unfold ix; rw [List.getD_eq_getElem?_getD, List.getElem?_set]; simp [show j < l'.length by omega]]
  exact ⟨h1.1, h1.2.1, .inr hr⟩
 ·rw [show ix (l'.set k ⟨(ix l' k).h, r, (ix l' k).a⟩) j = ix l' j by
   unfold ix; rw [List.getD_eq_getElem?_getD, List.getElem?_set, if_neg (Ne.symm e), List.getD_eq_getElem?_getD]]
  exact h1
section
variable {h h' : Tr Bk} {dv : B} {n eb : Nat} {m : Nat → Rat} {cl : Nat → List C5} {bs : Nat → Nat} {A : Nat → B} {al : Nat → List Agr} {dl : List Dbt} {lo hi : Nat}
theorem clC_wr (l : List C5) {k : Nat} (hk : k < l.length) (r : Int) : wrC (celR l.length (clC l)) (k * 5 + 1) [.int .i64 r] = some (celR l.length (updG (clC l) k (c5B ⟨(ix l k).h, r, (ix l k).a⟩))) := by
 rw [wr_cel (e := 5) (fun _ => rfl) hk (by simp)]
 rfl
set_option maxRecDepth 10000 in
theorem late_x {σ0 σ : St} (hW : WF σ) (hf0 : Fr σ0 σ) (ho : OGrp σ.h dv n eb m cl bs A al dl lo hi) (hlo : σ0.nxt ≤ lo) (hhi : hi ≤ σ.nxt) (hn : n ≤ 1000) (hcl : ∀ i, i < n → (cl i).length ≤ 1000) (bits : Nat) (hbits : bits ≤ 65535) :
  CallX EN 34 [.agg [.sl eb 0 n .opn, dv], .c (.int .u16 (.ofNat bits))] σ fun r σ' => r = .agg [.sl eb 0 n .opn, dv] ∧ (∃ cl', OGrp σ'.h dv n eb m cl' bs A al dl lo hi ∧ ∀ i, i < n → LateL (cl i) (cl' i)) ∧ Fr σ0 σ' ∧ σ.nxt ≤ σ'.nxt := by
 refine call_fn (O_l0_Late _ _) F_l0_Late ?_
 unfold a_l0_Late
 have hdk := ho.d.kn
 have hle0 := hf0.le
 simp (config := { maxSteps := 1000000 }) (disch := first | assumption | decide | omega) only [go_sem, z3, hdk]
 have hlt : ∀ b, lo ≤ b → b < hi → b < σ.nxt := fun b _ hb => by omega
 refine run_loop (fun q tm σ' => ∃ i k cl', q = n - i ∧ i ≤ n ∧ k ≤ i * 1000 ∧ Tr.getV tm 1 = .c (.int .u16 (.ofNat bits)) ∧ Tr.getV tm 2 = .c (.ptr σ.nxt 0) ∧ Tr.getV tm 4 = .c (.ptr (σ.nxt + 1) 0) ∧ Tr.getV tm 5 = .c (.int .i64 (.ofNat k)) ∧ Tr.getV tm 10 = .c (.int .i64 (.ofNat n)) ∧ Tr.getV tm 11 = .c (.int .i64 (.ofNat i))
  ∧ σ'.h σ.nxt = some ⟨[.sl eb 0 n .opn, dv], none⟩ ∧ σ'.h (σ.nxt + 1) = some ⟨[.nils, .nils], none⟩ ∧ OGrp σ'.h dv n eb m cl' bs A al dl lo hi ∧ (∀ i, i < n → LateL (cl i) (cl' i)) ∧ Fr σ0 σ' ∧ σ.nxt + 2 ≤ σ'.nxt) n ?_ ?_
 ·refine ⟨0, 0, cl, by omega, by omega, by omega, ?_⟩
  simp (config := { maxSteps := 1000000 }) (disch := first | assumption | decide | omega) only [go_sem, z3, true_and]
  refine ⟨?_, fun i _ => LateL.refl _, ?_, by omega⟩
  ·exact ho.mono (fun b h1 h2 => by have := hlt b h1 h2; rw [hset_ne _ _ _ _ (by omega), hset_ne _ _ _ _ (by omega)]) (Nat.le_refl _)
  ·repeat (first | assumption | exact Fr.refl (by assumption) | exact Fr.up (by assumption) (by first | omega | (dsimp only; omega)) | exact Fr.up (Fr.refl (by assumption)) (by first | omega | (dsimp only; omega)) | refine Fr.set1 ?_ (by first | omega | (dsimp only; omega)) (by first | omega | (dsimp only; omega)) | refine Fr.del1 ?_ (by first | omega | (dsimp only; omega)) | refine Fr.newU ?_ (by first | omega | (dsimp only; omega)))
 ·rintro q tm σ' ⟨i, k, cl', rfl, hi', hk, t1, t2, t4, t5, t10, t11, q1, q2, ho', hL, hf, hn2⟩
  simp (config := { maxSteps := 1000000 }) (disch := first | assumption | decide | omega) only [go_sem, z3, t1, t2, t4, t5, t10, t11, lt_ofNat]
  refine ifV_dec (fun hlt2 => ?_) (fun hlt2 => ?_)
  ·have hlC := ho'.ldC hlt2
   have hfl := famV_len (cl' i) (bs i)
   have hfk := famV_kn (cl' i) (bs i)
   simp (config := { maxSteps := 1000000 }) (disch := first | assumption | decide | omega) only [go_sem, z3, t1, t2, t4, t5, t10, t11, ld_blk q1, hdk, hlC, hfl]
   refine run_loop (fun q tm σ3 => ∃ c k cl3, q = (cl' i).length - c ∧ c ≤ (cl' i).length ∧ k ≤ i * 1000 + c ∧ Tr.getV tm 1 = .c (.int .u16 (.ofNat bits)) ∧ Tr.getV tm 2 = .c (.ptr σ.nxt 0) ∧ Tr.getV tm 4 = .c (.ptr (σ.nxt + 1) 0) ∧ Tr.getV tm 5 = .c (.int .i64 (.ofNat k)) ∧ Tr.getV tm 6 = .c (.int .i64 (.ofNat i)) ∧ Tr.getV tm 10 = .c (.int .i64 (.ofNat n)) ∧ Tr.getV tm 11 = .c (.int .i64 (.ofNat i))
    ∧ Tr.getV tm 20 = .c (.int .i64 (.ofNat (cl' i).length)) ∧ Tr.getV tm 21 = .c (.int .i64 (.ofNat c))
    ∧ σ3.h σ.nxt = some ⟨[.sl eb 0 n .opn, dv], none⟩ ∧ σ3.h (σ.nxt + 1) = some ⟨[.nils, .nils], none⟩ ∧ OGrp σ3.h dv n eb m cl3 bs A al dl lo hi ∧ (∀ i, i < n → LateL (cl i) (cl3 i)) ∧ (cl3 i).length = (cl' i).length ∧ Fr σ0 σ3 ∧ σ.nxt + 2 ≤ σ3.nxt) (cl' i).length ?_ ?_
   ·refine ⟨0, k, cl', by omega, by omega, by omega, ?_⟩
    simp (config := { maxSteps := 1000000 }) (disch := first | assumption | decide | omega) only [go_sem, z3, t1, t2, t4, t5, t10, t11, true_and]
    exact ⟨q1, q2, ho', hL, hf, hn2⟩
   ·rintro q tm3 σ3 ⟨c, k3, cl3, rfl, hc, hk3, t1, t2, t4, t5, t6, t10, t11, t20, t21, q1, q2, ho3, hL3, hl3, hf3, hn3⟩
    have hci : (cl' i).length ≤ 1000 := by rw [(hL i hlt2).1]; exact hcl i hlt2
    have hib : i * 1000 ≤ 1000000 := by
     have := Nat.mul_le_mul_right 1000 (show i ≤ 1000 by omega)
     omega
    simp (config := { maxSteps := 1000000 }) (disch := first | assumption | decide | omega) only [go_sem, z3, t1, t2, t4, t5, t6, t10, t11, t20, t21, lt_ofNat]
    refine ifV_dec (fun hlc => ?_) (fun hlc => ?_)
    ·have hlC3 := ho3.ldC hlt2
     rw [famV_pos (by omega)] at hlC3
     have hpos : 0 < (cl3 i).length := by omega
     obtain ⟨b1, b2, b3, b4⟩ := ho3.c i hlt2 hpos
     have hmod : k3 % 8 < 8 := Nat.mod_lt _ (by decide)
     have hk4 : k3 ≤ 2000000 := by omega
     have hq0 := div_le' bits (2 ^ min (2 * (k3 % 8)) 16) 65535 hbits
     simp (config := { maxSteps := 1000000 }) (disch := first | assumption | decide | omega) only [go_sem, z3, t1, t2, t4, t5, t6, t10, t11, t20, t21]
     refine ifV_dec (fun hq => ?_) (fun hq => ?_)
     ·have hw := clC_wr (cl3 i) (k := c) (by omega) (.ofNat 6)
      have hlb : bs i < σ3.nxt := by omega
      simp (config := { maxSteps := 1000000 }) (disch := first | assumption | decide | omega) only [go_sem, z3, t1, t2, t4, t5, t6, t10, t11, t20, t21, ld_blk q1, hdk, hlC3, sto_blk b1, hw]
      refine ⟨(cl' i).length - (c + 1), by omega, c + 1, k3 + 1, _, rfl, by omega, by omega, rfl, rfl, ?_, ?_, ho3.setC hlt2 (by omega) _ rfl, ?_, ?_, ?_, by omega⟩
      ·exact q1
      ·exact q2
      ·intro j hj
       unfold updF
       split
       ·next e => subst e; exact (hL3 j hj).set (.inl rfl)
       ·exact hL3 j hj
      ·rw [updF_same, List.length_set]; exact hl3
      ·repeat (first | assumption | exact Fr.refl (by assumption) | exact Fr.up (by assumption) (by first | omega | (dsimp only; omega)) | exact Fr.up (Fr.refl (by assumption)) (by first | omega | (dsimp only; omega)) | refine Fr.set1 ?_ (by first | omega | (dsimp only; omega)) (by first | omega | (dsimp only; omega)) | refine Fr.del1 ?_ (by first | omega | (dsimp only; omega)) | refine Fr.newU ?_ (by first | omega | (dsimp only; omega)))
     ·simp (config := { maxSteps := 1000000 }) (disch := first | assumption | decide | omega) only [go_sem, z3, t1, t2, t4, t5, t6, t10, t11, t20, t21]
      refine ifV_dec (fun hq2 => ?_) (fun hq2 => ?_)
      ·have hw := clC_wr (cl3 i) (k := c) (by omega) (.ofNat 7)
       have hlb : bs i < σ3.nxt := by omega
       simp (config := { maxSteps := 1000000 }) (disch := first | assumption | decide | omega) only [go_sem, z3, t1, t2, t4, t5, t6, t10, t11, t20, t21, ld_blk q1, hdk, hlC3, sto_blk b1, hw]
       refine ⟨(cl' i).length - (c + 1), by omega, c + 1, k3 + 1, _, rfl, by omega, by omega, rfl, rfl, ?_, ?_, ho3.setC hlt2 (by omega) _ rfl, ?_, ?_, ?_, by omega⟩
       ·exact q1
       ·exact q2
       ·intro j hj
        unfold updF
        split
        ·next e => subst e; exact (hL3 j hj).set (.inr rfl)
        ·exact hL3 j hj
       ·rw [updF_same, List.length_set]; exact hl3
       ·repeat (first | assumption | exact Fr.refl (by assumption) | exact Fr.up (by assumption) (by first | omega | (dsimp only; omega)) | exact Fr.up (Fr.refl (by assumption)) (by first | omega | (dsimp only; omega)) | refine Fr.set1 ?_ (by first | omega | (dsimp only; omega)) (by first | omega | (dsimp only; omega)) | refine Fr.del1 ?_ (by first | omega | (dsimp only; omega)) | refine Fr.newU ?_ (by first | omega | (dsimp only; omega)))
      ·simp (config := { maxSteps := 1000000 }) (disch := first | assumption | decide | omega) only [go_sem, z3, t1, t2, t4, t5, t6, t10, t11, t20, t21]
       exact ⟨(cl' i).length - (c + 1), by omega, c + 1, k3 + 1, cl3, rfl, by omega, by omega, rfl, rfl, q1, q2, ho3, hL3, hl3, hf3, by omega⟩
    ·have : c = (cl' i).length := by omega
     subst this
     simp (config := { maxSteps := 1000000 }) (disch := first | assumption | decide | omega) only [go_sem, z3, t1, t2, t4, t5, t6, t10, t11, t20, t21]
     exact ⟨n - (i + 1), by omega, i + 1, k3, cl3, rfl, by omega, by omega, rfl, rfl, q1, q2, ho3, hL3, hf3, hn3⟩
  ·have : i = n := by omega
   subst this
   simp (config := { maxSteps := 1000000 }) (disch := first | assumption | decide | omega) only [go_sem, z3, t2, t4, ld_blk q1, hdk, sto_blk q2]
   refine ⟨⟨cl', ho'.mono (fun b h1 h2 => ?_) (Nat.le_refl _), hL⟩, ?_⟩
   ·have := hlt b h1 h2
    rw [hset_ne _ _ _ _ (by omega)]
   ·exact ⟨by repeat (first | assumption | exact Fr.refl (by assumption) | exact Fr.up (by assumption) (by first | omega | (dsimp only; omega)) | exact Fr.up (Fr.refl (by assumption)) (by first | omega | (dsimp only; omega)) | refine Fr.set1 ?_ (by first | omega | (dsimp only; omega)) (by first | omega | (dsimp only; omega)) | refine Fr.del1 ?_ (by first | omega | (dsimp only; omega)) | refine Fr.newU ?_ (by first | omega | (dsimp only; omega))), by omega⟩
end
end Go.Proofs.Xe

set_option linter.unusedSimpArgs false
set_option linter.unusedVariables false
namespace Go.Proofs.Xe
open Go.RowKit Go.Proofs.Ins
theorem run_mid {E : Env} {a b : AC} {tm : Tr V} {σ : St} {Q : AX → Tr V → St → Prop} (M : Tr V → St → Prop) (h1 : RunX E a tm σ fun e tm σ => e = .normal ∧ M tm σ) (h2 : ∀ tm' σ', M tm' σ' → RunX E b tm' σ' Q) : RunX E (.seq a b) tm σ Q :=
 run_seq (h1.mono fun e tm σ' ⟨he, hm⟩ => by subst he; exact h2 _ _ hm)
structure FamL {α : Type} [Inhabited α] (h : Tr Bk) (n : Nat) (c : α → List B) (e ty : Nat) (L : Nat → List α) (bs : Nat → Nat) (lo hi : Nat) : Prop where
 blk : ∀ i, i < n → 0 < (L i).length → h (bs i) = some ⟨celR (L i).length (fun k => c (ix (L i) k)), some (e, ty)⟩ ∧ lo ≤ bs i ∧ bs i < hi
 inj : ∀ i j, i < n → j < n → 0 < (L i).length → 0 < (L j).length → bs i = bs j → i = j
section
variable {α : Type} [Inhabited α] {h h' : Tr Bk} {n e ty lo hi : Nat} {c : α → List B} {L : Nat → List α} {bs : Nat → Nat}
theorem FamL.nil (h : Tr Bk) (n : Nat) (c : α → List B) (e ty : Nat) (bs : Nat → Nat) (lo hi : Nat) : FamL h n c e ty (fun _ => []) bs lo hi := ⟨fun i _ h => by simp at h, fun i j _ _ h => by simp at h⟩
theorem FamL.mono (hf : FamL h n c e ty L bs lo hi) (hh : ∀ b, lo ≤ b → b < hi → h' b = h b) {hi' : Nat} (h2 : hi ≤ hi') : FamL h' n c e ty L bs lo hi' :=
 ⟨fun i hi hp => by obtain ⟨k1, k2, k3⟩ := hf.blk i hi hp; exact ⟨by rw [hh _ k2 k3]; exact k1, k2, by omega⟩, hf.inj⟩
theorem ix_snoc_lt (l : List α) (x : α) {k : Nat} (h : k < l.length) : ix (l ++ [x]) k = ix l k := by rw [ix_append, if_pos h]
theorem ix_snoc_eq (l : List α) (x : α) : ix (l ++ [x]) l.length = x := by rw [ix_append, if_neg (by omega), if_pos rfl]
theorem FamL.push (hf : FamL h n c e ty L bs lo hi) {i nx : Nat} (hi' : i < n) (x : α) {cells : List B} (hc : cells = celR (L i).length (fun k => c (ix (L i) k)) ++ c x) (h1 : h' nx = some ⟨cells, some (e, ty)⟩)
  (hh : ∀ j, j < n → j ≠ i → 0 < (L j).length → h' (bs j) = h (bs j)) (hlo : lo ≤ nx) (hnx : hi ≤ nx) {hi2 : Nat} (h2 : nx < hi2) : FamL h' n c e ty (updF L i (L i ++ [x])) (updF bs i nx) lo hi2 := by
 refine ⟨fun j hj hp => ?_, fun a b ha hb pa pb e => ?_⟩
 ·by_cases e : j = i
  ·subst e
   rw [updF_same, updF_same, List.length_append, List.length_singleton]
   refine ⟨?_, hlo, h2⟩
   rw [h1, hc, cel_snoc]
   congr 2
   refine cel_congr fun k hk => ?_
   unfold updG
   split
   ·next e => rw [e, ix_snoc_eq]
   ·rw [ix_snoc_lt _ _ (by omega)]
  ·rw [updF_ne _ _ _ _ e] at hp ⊢
   rw [updF_ne _ _ _ _ e]
   obtain ⟨k1, k2, k3⟩ := hf.blk j hj hp
   exact ⟨by rw [hh j hj e hp]; exact k1, k2, by omega⟩
 ·by_cases e1 : a = i
  ·by_cases e2 : b = i
   ·rw [e1, e2]
   ·rw [e1, updF_same, updF_ne _ _ _ _ e2] at e
    rw [updF_ne _ _ _ _ e2] at pb
    have := (hf.blk b hb pb).2.2
    omega
  ·by_cases e2 : b = i
   ·rw [e2, updF_same, updF_ne _ _ _ _ e1] at e
    rw [updF_ne _ _ _ _ e1] at pa
    have := (hf.blk a ha pa).2.2
    omega
   ·rw [updF_ne _ _ _ _ e1] at pa
    rw [updF_ne _ _ _ _ e2] at pb
    rw [updF_ne _ _ _ _ e1, updF_ne _ _ _ _ e2] at e
    exact hf.inj a b ha hb pa pb e
theorem FamL.hlp (hf : FamL h n c e ty L bs lo hi) {p : Nat → Prop} (hp : ∀ b, lo ≤ b → b < hi → p b) (hc : ∀ x, (c x).length = e) (he : 0 < e) (hk : ∀ x, (c x).all B.kn = true) {i : Nat} (hi' : i < n) : HLp p h e (famV (L i) (bs i)) (L i).length fun k => c (ix (L i) k) := by
 by_cases h0 : (L i).length = 0
 ·exact .inl ⟨h0, by unfold famV; rw [if_pos h0]⟩
 ·obtain ⟨k1, k2, k3⟩ := hf.blk i hi' (by omega)
  rw [famV_pos (by omega)]
  exact cel_hlp _ k1 (by rw [rdo_s _ _ (by omega)]) (hp _ k2 k3) (fun _ => hc _) he fun _ _ => hk _
end
theorem HAgrs.lt {σ : St} (hW : WF σ) {p : Nat → Prop} {v : B} {l : List Agr} (hl : HAgrs p σ.h v l) : HAgrs (Lt σ.nxt) σ.h v l := by
 obtain ⟨T, k1, k2⟩ := hl
 refine ⟨T, k1.lt hW, fun j hj => ?_⟩
 obtain ⟨U, m1, m2⟩ := k2 j hj
 exact ⟨U, m1.lt hW, fun l hl => (m2 l hl).lt hW⟩
theorem HAgrs.fr {σ σ' : St} (hW : WF σ) (hf : Fr σ σ') {p : Nat → Prop} {v : B} {l : List Agr} (hl : HAgrs p σ.h v l) : HAgrs (Lt σ.nxt) σ'.h v l := (hl.lt hW).keep hf.lt fun _ h => h
def FreeA (al : List Agr) (c : Int) : Prop := ∀ j, j < al.length → ∀ t, t < (ix al j).length → ∀ p, p < (ix (ix al j) t).length → (ix (ix (ix al j) t) p).k ≠ c
def LenA (al : List Agr) : Prop := al.length ≤ 1000 ∧ ∀ j, j < al.length → (ix al j).length ≤ 1000 ∧ ∀ t, t < (ix al j).length → (ix (ix al j) t).length ≤ 1000
set_option maxRecDepth 10000 in
theorem free_x {σ : St} (hW : WF σ) {p : Nat → Prop} {x1 x2 x3 C A : B} (al : List Agr) (hA : HAgrs p σ.h A al) (hl : LenA al) (h1 : x1.kn = true) (h2 : x2.kn = true) (h3 : x3.kn = true) (h4 : C.kn = true) (c : Int) :
  CallX EN 85 [.agg [x1, x2, x3, C, A], .c (.int .i64 c)] σ fun r σ' => (∃ b, r = .c (.bool b) ∧ (b = true → FreeA al c)) ∧ Fr σ σ' := by
 refine call_fn (O_l0_free _ _) F_l0_free ?_
 unfold a_l0_free
 obtain ⟨T, hT, hT2⟩ := hA
 have hlen := hT.len
 have hkn := hT.kn
 simp (config := { maxSteps := 1000000 }) (disch := first | assumption | decide | omega) only [go_sem, z3, hkn, hlen]
 refine run_loop (fun q tm σ' => ∃ j, q = al.length - j ∧ j ≤ al.length ∧ Tr.getV tm 1 = .c (.int .i64 c) ∧ Tr.getV tm 12 = .c A ∧ Tr.getV tm 13 = .c (.int .i64 (.ofNat al.length)) ∧ Tr.getV tm 14 = .c (.int .i64 (.ofNat j))
  ∧ (∀ j', j' < j → ∀ t, t < (ix al j').length → ∀ p, p < (ix (ix al j') t).length → (ix (ix (ix al j') t) p).k ≠ c) ∧ Fr σ σ') al.length ?_ ?_
 ·refine ⟨0, by omega, by omega, ?_⟩
  simp (config := { maxSteps := 1000000 }) (disch := first | assumption | decide | omega) only [go_sem, z3, true_and]
  exact ⟨fun j hj => by omega, by repeat (first | assumption | exact Fr.refl (by assumption) | exact Fr.up (by assumption) (by first | omega | (dsimp only; omega)) | exact Fr.up (Fr.refl (by assumption)) (by first | omega | (dsimp only; omega)) | refine Fr.set1 ?_ (by first | omega | (dsimp only; omega)) (by first | omega | (dsimp only; omega)) | refine Fr.del1 ?_ (by first | omega | (dsimp only; omega)) | refine Fr.newU ?_ (by first | omega | (dsimp only; omega)))⟩
 ·rintro q tm σ' ⟨j, rfl, hj, t1, t12, t13, t14, hfree, hf⟩
  have hle := hf.le
  have hl0 := hl.1
  simp (config := { maxSteps := 1000000 }) (disch := first | assumption | decide | omega) only [go_sem, z3, t1, t12, t13, t14, lt_ofNat]
  refine ifV_dec (fun hlt => ?_) (fun hlt => ?_)
  ·obtain ⟨b, o, cc, rfl, -, hld⟩ := hT.pos (by omega)
   have hld := hf.ld hW (hld j hlt)
   have hlk := (ld_one hld).2
   have hTj := hT2 j hlt
   obtain ⟨hlj, hlj2⟩ := hl.2 j hlt
   generalize hag : ix al j = ag at *
   obtain ⟨U, hU, hU2⟩ := hTj
   have hlenU := hU.len
   simp (config := { maxSteps := 1000000 }) (disch := first | assumption | decide | omega) only [go_sem, z3, t1, t12, t13, t14, hld, hlk, hlenU]
   refine run_loop (fun q tm σ3 => ∃ t, q = ag.length - t ∧ t ≤ ag.length ∧ Tr.getV tm 1 = .c (.int .i64 c) ∧ Tr.getV tm 12 = .c (.sl b o al.length cc) ∧ Tr.getV tm 13 = .c (.int .i64 (.ofNat al.length)) ∧ Tr.getV tm 14 = .c (.int .i64 (.ofNat j))
    ∧ Tr.getV tm 19 = .c (T j) ∧ Tr.getV tm 20 = .c (.int .i64 (.ofNat ag.length)) ∧ Tr.getV tm 21 = .c (.int .i64 (.ofNat t))
    ∧ (∀ t', t' < t → ∀ p, p < (ix ag t').length → (ix (ix ag t') p).k ≠ c) ∧ Fr σ σ3) ag.length ?_ ?_
   ·refine ⟨0, by omega, by omega, ?_⟩
    simp (config := { maxSteps := 1000000 }) (disch := first | assumption | decide | omega) only [go_sem, z3, t1, t12, t13, t14, true_and]
    exact ⟨fun t ht => by omega, by repeat (first | assumption | exact Fr.refl (by assumption) | exact Fr.up (by assumption) (by first | omega | (dsimp only; omega)) | exact Fr.up (Fr.refl (by assumption)) (by first | omega | (dsimp only; omega)) | refine Fr.set1 ?_ (by first | omega | (dsimp only; omega)) (by first | omega | (dsimp only; omega)) | refine Fr.del1 ?_ (by first | omega | (dsimp only; omega)) | refine Fr.newU ?_ (by first | omega | (dsimp only; omega)))⟩
   ·rintro q tm3 σ3 ⟨t, rfl, ht, t1, t12, t13, t14, t19, t20, t21, hfree3, hf3⟩
    simp (config := { maxSteps := 1000000 }) (disch := first | assumption | decide | omega) only [go_sem, z3, t1, t12, t13, t14, t19, t20, t21, lt_ofNat]
    refine ifV_dec (fun hlt3 => ?_) (fun hlt3 => ?_)
    ·obtain ⟨b3, o3, c3, e3, -, hld3⟩ := hU.pos (by omega)
     have hld3 := hf3.ld hW (hld3 t hlt3)
     have hld3 := (ld_one hld3).1
     have hPt := hU2 t hlt3
     have hlt4 := hlj2 t hlt3
     generalize hti : ix ag t = ti at *
     have hlenP := hPt.len
     rw [e3] at t19
     simp (config := { maxSteps := 1000000 }) (disch := first | assumption | decide | omega) only [go_sem, z3, t1, t12, t13, t14, t19, t20, t21, hld3, hlenP]
     refine run_loop (fun q tm σ5 => ∃ k, q = ti.length - k ∧ k ≤ ti.length ∧ Tr.getV tm 1 = .c (.int .i64 c) ∧ Tr.getV tm 12 = .c (.sl b o al.length cc) ∧ Tr.getV tm 13 = .c (.int .i64 (.ofNat al.length)) ∧ Tr.getV tm 14 = .c (.int .i64 (.ofNat j))
      ∧ Tr.getV tm 19 = .c (.sl b3 o3 ag.length c3) ∧ Tr.getV tm 20 = .c (.int .i64 (.ofNat ag.length)) ∧ Tr.getV tm 21 = .c (.int .i64 (.ofNat t))
      ∧ Tr.getV tm 25 = .c (U t) ∧ Tr.getV tm 26 = .c (.int .i64 (.ofNat ti.length)) ∧ Tr.getV tm 27 = .c (.int .i64 (.ofNat k))
      ∧ (∀ p, p < k → (ix ti p).k ≠ c) ∧ Fr σ σ5) ti.length ?_ ?_
     ·refine ⟨0, by omega, by omega, ?_⟩
      simp (config := { maxSteps := 1000000 }) (disch := first | assumption | decide | omega) only [go_sem, z3, t1, t12, t13, t14, t19, t20, t21, true_and]
      exact ⟨fun t ht => by omega, hf3⟩
     ·rintro q tm5 σ5 ⟨k, rfl, hk, t1, t12, t13, t14, t19, t20, t21, t25, t26, t27, hfree5, hf5⟩
      simp (config := { maxSteps := 1000000 }) (disch := first | assumption | decide | omega) only [go_sem, z3, t1, t12, t13, t14, t19, t20, t21, t25, t26, t27, lt_ofNat]
      refine ifV_dec (fun hlt5 => ?_) (fun hlt5 => ?_)
      ·obtain ⟨b5, o5, c5, e5, -, hld5⟩ := hPt.pos (by omega)
       have hld5 := hf5.ld hW (hld5 k hlt5)
       unfold prtB at hld5
       rw [e5] at t25
       have hle5 := hf5.le
       simp (config := { maxSteps := 1000000 }) (disch := first | assumption | decide | omega) only [go_sem, z3, t1, t12, t13, t14, t19, t20, t21, t25, t26, t27, hld5]
       refine ifV_dec (fun hq => ?_) (fun hq => ?_)
       ·simp (config := { maxSteps := 1000000 }) (disch := first | assumption | decide | omega) only [go_sem, z3, t1]
        exact ⟨⟨_, rfl, fun h => by cases h⟩, by repeat (first | assumption | exact Fr.refl (by assumption) | exact Fr.up (by assumption) (by first | omega | (dsimp only; omega)) | exact Fr.up (Fr.refl (by assumption)) (by first | omega | (dsimp only; omega)) | refine Fr.set1 ?_ (by first | omega | (dsimp only; omega)) (by first | omega | (dsimp only; omega)) | refine Fr.del1 ?_ (by first | omega | (dsimp only; omega)) | refine Fr.newU ?_ (by first | omega | (dsimp only; omega)))⟩
       ·simp (config := { maxSteps := 1000000 }) (disch := first | assumption | decide | omega) only [go_sem, z3, t1, t12, t13, t14, t19, t20, t21, t25, t26, t27]
        refine ⟨ti.length - (k + 1), by omega, k + 1, rfl, by omega, by rw [e5], rfl, fun p hp => ?_, by repeat (first | assumption | exact Fr.refl (by assumption) | exact Fr.up (by assumption) (by first | omega | (dsimp only; omega)) | exact Fr.up (Fr.refl (by assumption)) (by first | omega | (dsimp only; omega)) | refine Fr.set1 ?_ (by first | omega | (dsimp only; omega)) (by first | omega | (dsimp only; omega)) | refine Fr.del1 ?_ (by first | omega | (dsimp only; omega)) | refine Fr.newU ?_ (by first | omega | (dsimp only; omega)))⟩
        by_cases e : p = k
        ·rw [e]; exact hq
        ·exact hfree5 p (by omega)
      ·have : k = ti.length := by omega
       subst this
       simp (config := { maxSteps := 1000000 }) (disch := first | assumption | decide | omega) only [go_sem, z3, t1, t12, t13, t14, t19, t20, t21]
       refine ⟨ag.length - (t + 1), by omega, t + 1, rfl, by omega, by rw [e3], rfl, fun t' ht' => ?_, hf5⟩
       by_cases e : t' = t
       ·rw [e, hti]; exact hfree5
       ·exact hfree3 t' (by omega)
    ·have : t = ag.length := by omega
     subst this
     simp (config := { maxSteps := 1000000 }) (disch := first | assumption | decide | omega) only [go_sem, z3, t1, t12, t13, t14]
     refine ⟨al.length - (j + 1), by omega, j + 1, rfl, by omega, rfl, fun j' hj' => ?_, hf3⟩
     by_cases e : j' = j
     ·rw [e, hag]; exact hfree3
     ·exact hfree j' (by omega)
  ·have : j = al.length := by omega
   subst this
   simp (config := { maxSteps := 1000000 }) (disch := first | assumption | decide | omega) only [go_sem, z3, t1]
   exact ⟨⟨_, rfl, fun _ => hfree⟩, hf⟩
end Go.Proofs.Xe
