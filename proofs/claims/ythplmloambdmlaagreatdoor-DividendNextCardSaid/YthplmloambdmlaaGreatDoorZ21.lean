/- The executor: one operation of a region, a region in its given order. -/
import Derived.Test.YthplmloambdmlaaGreatDoorZ20
import Derived.Orders

set_option linter.unusedSimpArgs false
set_option linter.unusedVariables false
namespace Go.Proofs.Ex
open Go.RowKit Go.Proofs.Ins

def appTy (P : Program) (t ty e bytes : Nat) : Bool :=
  match P.underlying t with
  | some (.slice el) => (match P.info? el with
    | some i => (match i.zero with
      | some zv => Nat.beq el ty && (Nat.beq i.size e && (Nat.beq i.bytes bytes && Nat.beq zv.cells.size e))
      | none => false)
    | none => false)
  | _ => false
theorem appTy_spec {P : Program} {t ty e bytes : Nat} (h : appTy P t ty e bytes = true) : ∃ i zv, P.underlying t = some (.slice ty) ∧ P.info? ty = some i ∧ i.zero = some zv ∧ i.size = e ∧ i.bytes = bytes ∧ zv.cells.size = e := by
  unfold appTy at h
  split at h
  · next el hel =>
    split at h
    · next i hi =>
      split at h
      · next zv hz =>
        simp only [Bool.and_eq_true] at h
        obtain ⟨h1, h2, h3, h4⟩ := h
        have h1 := Nat.eq_of_beq_eq_true h1
        subst h1
        exact ⟨i, zv, hel, hi, hz, Nat.eq_of_beq_eq_true h2, Nat.eq_of_beq_eq_true h3, Nat.eq_of_beq_eq_true h4⟩
      · cases h
    · cases h
  · cases h
def impA (P : Program) (op : Op) : AOp → Bool
  | .store n y z => (match op with | .store t x u => opd x y && opd u z && szOk P t n | _ => false)
  | .app ty e bytes s' x' => (match op with
    | .call c => (match c.callee with
      | .builtin .append => (match c.args.toList, c.argTypes.toList with
        | [s, x], [t, t'] => Nat.beq t t' && opd s s' && opd x x' && appTy P t ty e bytes
        | _, _ => false)
      | _ => false)
    | _ => false)
  | .mkmap => (match op with | .makeMap _ none => true | _ => false)
  | .mkset => (match op with | .makeMap t none => Nat.beq t 241 | _ => false)
  | .mupd m' k' v' => (match op with | .mapUpdate t m k v => opd m m' && opd k k' && opd v v' && Nat.beq t 241 | _ => false)
  | _ => false

theorem take_splice {α : Type} (A rs : List α) (o L : Nat) (h : o + rs.length ≤ L) (hL : L ≤ A.length) :
    (A.take o ++ rs ++ A.drop (o + rs.length)).take L = (A.take L).take o ++ rs ++ (A.take L).drop (o + rs.length) := by
  have h1 : (A.take o ++ rs).length = o + rs.length := by rw [List.length_append, List.length_take]; omega
  rw [List.take_append, List.take_of_length_le (by omega), h1, List.take_take, List.drop_take, Nat.min_eq_left (by omega)]

section
variable {P : Program} {N : Nat} {w0 w w' : World} {φ : Ph} {σ σ' : St} {tm : Tr V} {a : Act} {v : V}

theorem grownBy_setRow (w : World) (g : Nat) (cs : Array Value) : w.grownBy (w.setRow g cs) (some g) :=
  ⟨rfl, rfl, rfl, by simp, fun k _ hk => setRow_other w g k _ (fun e => hk (by simp [e]))⟩
/-- What is to be shown of an operation that writes. -/
def YA (P : Program) (N : Nat) (w0 : World) (w : World) (φ : Ph) (σ : St) (a : Act) (op : Op) (v : V) (σ' : St) : Prop :=
  ∀ o : Oper, o.op = op → ∃ nx cv w', (execOp a.eval o).run P w = .ok nx w' ∧ (nx = .value cv ∨ (nx = .skip ∧ cv = undef)) ∧ ∃ φ', Ext σ.nxt φ φ' ∧ Rel N w0 φ' σ' w' ∧ RV φ' v cv ∧ σ.nxt ≤ σ'.nxt

theorem a_store (hR : Rel N w0 φ σ w) {op : Op} {n : Nat} {y z : O} (hi : impA P op (.store n y z) = true) (h : stepA (.store n y z) tm σ = some (v, σ')) (ht : RT φ tm a) : YA P N w0 w φ σ a op v σ' := by
  simp only [impA] at hi
  simp only [stepA] at h
  intro o ho
  split at hi
  · next t x u =>
    simp only [Bool.and_eq_true] at hi
    have hx := opd_RV hi.1.1 ht
    have hu := opd_RV hi.1.2 ht
    have hs := szOk_spec hi.2 w
    split at h
    · next b off vs ex eu =>
      rw [ex] at hx
      obtain ⟨p, hp, e⟩ := hx
      have hv := hu.cells eu
      cases hb : Nat.beq vs.length n with
      | false => rw [hb] at h; cases h
      | true =>
        rw [hb] at h
        have hb := Nat.eq_of_beq_eq_true hb
        simp only [cond_true] at h
        split at h
        · next k hk =>
          split at h
          · next l hl =>
            split at h
            · next h' hput =>
              cases h
              obtain ⟨hpl, hl⟩ : k.pl = true ∧ wrC k.cells off vs = some l := by
                cases hpl : k.pl with
                | false => rw [hpl] at hl; cases hl
                | true => rw [hpl] at hl; exact ⟨rfl, hl⟩
              obtain ⟨cs, T, hc, hr, hle, hop⟩ := (hR.blk b k p hk hp).plain hpl
              obtain ⟨h1, h2⟩ := wr_spec off k.cells vs l _ _ hl hr hv
              have hvl := hv.length
              have hst := run_storeCells_at P p.1 off T (a.eval u).cells.toList 0 cs w hc (by omega) hv.oneCell
              simp only [Nat.add_zero] at hst
              have hsz : (a.eval u).cells.size = n := by rw [← Array.length_toList, ← hvl, hb]
              refine ⟨.skip, undef, w.setRow p.1 (cs.toList.take off ++ (a.eval u).cells.toList ++ cs.toList.drop (off + (a.eval u).cells.toList.length)).toArray, ?_, .inr ⟨rfl, rfl⟩, φ, Ext.refl _ _, hR.change hp (by rw [hk]; rfl) hput (grownBy_setRow w p.1 _) (.inl ⟨hpl, _, T, setRow_heap w p.1 cs _ T _ hc, ?_, ?_, ?_⟩), trivial, Nat.le_refl _⟩
              · simp only [execOp, ho, Instr.storeAt, Instr.sureAddr, e, storeVar, Sem.run_bind, Sem.run_pure, Result.andThen_ok, hs, hsz]
                simp [hst]
              · have hl2 : l.length = k.cells.length := by
                  rw [h2.length]
                  simp only [List.length_append, List.length_take, List.length_drop, Array.length_toList] at hvl ⊢
                  omega
                rw [hl2, take_splice _ _ _ _ (by omega) (by rw [Array.length_toList]; exact hle)]
                exact h2
              · have hl2 : l.length = k.cells.length := by
                  rw [h2.length]
                  simp only [List.length_append, List.length_take, List.length_drop, Array.length_toList] at hvl ⊢
                  omega
                simp only [hl2, List.size_toArray, List.length_append, List.length_take, List.length_drop, Array.length_toList] at hvl ⊢
                omega
              · intro e' t' h0
                obtain ⟨q1, q2, q3⟩ := hop e' t' h0
                refine ⟨q1, ?_, q3⟩
                rw [← q2]
                simp only [List.size_toArray, List.length_append, List.length_take, List.length_drop, Array.length_toList] at hvl ⊢
                omega
            · cases h
          · cases h
        · cases h
    · cases h
  · cases hi

/-- The laws of append, in the executor's words: the slice s holds n elements of e cells, m elements (their cells 'news') are handed. -/
theorem app_zero {t ty el : TypeId} {i : TypeInfo} (ht : P.underlying t = some (.slice el)) (hi : P.info? el = some i) (A B : Option Addr) (n K k : Nat) (hK : n ≤ K) :
    (Builtin.append_ #[t, t] ty #[.slice A n K, .slice B 0 k]).run P w = .ok (.slice A n K) w := by
  cases A <;> cases B <;> simp [Builtin.append_, run_underlying ht, sizeOf, typeInfo, hi, Builtin.lenOf, Builtin.firstCells, hK, storeCells, loadCells, loadCellsFrom]
theorem land_new (hR : Rel N w0 φ σ w) {news : List B} {rs : List Value} {esz ty b m C : Nat} {zv : Array Value} (hn : σ.new ⟨news, some (esz, ty)⟩ = some (b, σ')) (hr : RBs φ news rs) (hl : rs.length = m * esz) (hez : 0 < esz)
    (hz : zv.size = esz) (hC : m ≤ C) (hM : C ≤ maxLen) : ∃ φ', Ext σ.nxt φ φ' ∧ Rel N w0 φ' σ' (w.drew.alloc (.cells (rs.toArray ++ Builtin.zeroCells zv (C - m)) ty)) ∧ φ' b = some (w.heap.size, C) ∧ σ.nxt ≤ σ'.nxt := by
  obtain ⟨rfl, hnx, -⟩ := new_spec hn
  have hg : w.grownBy (w.drew.alloc (.cells (rs.toArray ++ Builtin.zeroCells zv (C - m)) ty)) (some w.heap.size) := ⟨rfl, rfl, rfl, by simp, fun k hk _ => Below.heap_alloc w.drew _ k hk⟩
  refine ⟨_, ext_updP φ σ.nxt (w.heap.size, C), hR.new hn hg hR.size (by simp) (fun i p hi _ e => ?_) (.inl ⟨pl_some hez, _, ty, heap_alloc_new w.drew _, ?_, ?_, fun e t h0 => ?_⟩), updP_self _ _ _, by omega⟩
  · have := (hR.lo i p hi).2
    omega
  · simp only [Array.toList_append]
    rw [List.take_append_of_le_length (by rw [hr.length]; exact Nat.le_refl _), List.take_of_length_le (by rw [hr.length]; exact Nat.le_refl _)]
    exact hr
  · simp only [Array.size_append, List.size_toArray, ← hr.length]
    omega
  · simp only [Option.some.injEq, Prod.mk.injEq] at h0
    obtain ⟨rfl, rfl⟩ := h0
    refine ⟨rfl, ?_, hM⟩
    simp only [Array.size_append, List.size_toArray, size_zeroCells, hz, hl, ← Nat.add_mul]
    congr 1
    omega
theorem appB_spec (hR : Rel N w0 φ σ w) {t ty el : TypeId} {i : TypeInfo} {zv : Value} (hu : P.underlying t = some (.slice el)) (hi : P.info? el = some i) (hz : i.zero = some zv) (hzs : zv.cells.size = i.size)
    {s : V} {sv : Value} (hs : RV φ s sv) {m k : Nat} {B : Option Addr} {news : List Ex.B} {rs : List Value} (hr : RBs φ news rs) (hl : rs.length = m * i.size)
    (hB : m = 0 ∨ ∃ A, B = some A ∧ ∀ j u, rs[j]? = some u → w.cell? (A.add j) = some u)
    (h : appB el i.size i.bytes s m news σ = some (v, σ')) :
    ∃ cv w', (Builtin.append_ #[t, t] ty #[sv, .slice B m k]).run P w = .ok cv w' ∧ ∃ φ', Ext σ.nxt φ φ' ∧ Rel N w0 φ' σ' w' ∧ RV φ' v cv ∧ σ.nxt ≤ σ'.nxt := by
  have Z : ∀ {A : Option Addr} {n K : Nat}, m = 0 → n ≤ K → sv = .slice A n K → (Builtin.append_ #[t, t] ty #[sv, .slice B m k]).run P w = .ok sv w := fun {A n K} h0 hK e => by
    rw [e, h0]; exact app_zero hu hi A B n K k hK
  unfold appB at h
  split at h
  · have e : sv = .slice none 0 0 := hs
    cases h0 : Nat.beq m 0 with
    | true =>
      rw [h0] at h
      cases h
      have h0 := Nat.eq_of_beq_eq_true h0
      exact ⟨sv, w, Z h0 (Nat.le_refl _) e, φ, Ext.refl _ _, hR, hs, Nat.le_refl _⟩
    | false =>
      rw [h0] at h
      have h0 : ¬ m = 0 := fun e => by rw [e] at h0; simp at h0
      simp only [cond_false] at h
      cases hb : (Nat.blt 0 i.size && (Nat.ble (m * i.bytes) 140737488355328 && Nat.ble m 1073741824)) with
      | false => rw [hb] at h; cases h
      | true =>
        rw [hb] at h
        simp only [Bool.and_eq_true] at hb
        have b0 : 0 < i.size := Nat.le_of_ble_eq_true hb.1
        have b1 := Nat.le_of_ble_eq_true hb.2.1
        have b2 := Nat.le_of_ble_eq_true hb.2.2
        simp only [cond_true] at h
        split at h
        · next b σ'' hn =>
          cases h
          obtain ⟨A, rfl, hA⟩ := hB.resolve_left h0
          have hrun := run_append_nil (P := P) w t ty el i zv hu hi hz A m k rs hl hA (by omega) (by omega) (by omega)
          obtain ⟨φ', q1, q2, q3, q4⟩ := land_new hR (C := grownCap w m 0 el) hn hr hl b0 hzs (grownCap_ge w m 0 el) (grownCap_le_maxLen w m 0 el (by simp only [maxLen]; omega))
          exact ⟨_, _, by rw [e]; exact hrun, φ', q1, q2, ⟨_, _, q3, rfl, grownCap_ge w m 0 el, rfl, rfl⟩, q4⟩
        · cases h
  · next b o n =>
    obtain ⟨p, K, hp, e, hnK, ho0, hKC⟩ := hs
    cases h0 : Nat.beq m 0 with
    | true =>
      rw [h0] at h
      cases h
      have h0 := Nat.eq_of_beq_eq_true h0
      exact ⟨sv, w, Z h0 hnK e, φ, Ext.refl _ _, hR, ⟨p, K, hp, e, hnK, ho0, hKC⟩, Nat.le_refl _⟩
    | false =>
      rw [h0] at h
      have h0 : ¬ m = 0 := fun e => by rw [e] at h0; simp at h0
      simp only [cond_false] at h
      obtain ⟨A, rfl, hA⟩ := hB.resolve_left h0
      split at h
      · next cells e' t' hk =>
        cases hb : (Nat.blt 0 e' && Nat.beq o 0 && (Nat.beq e' i.size && (Nat.beq t' el && (Nat.ble ((n + m) * i.bytes) 140737488355328 && (Nat.ble (n + m) 1073741824 && Nat.ble (n * i.size) cells.length))))) with
        | false => rw [hb] at h; cases h
        | true =>
          rw [hb] at h
          simp only [Bool.and_eq_true] at hb
          obtain ⟨⟨b0, -⟩, c2, c3, c4, c5, c6⟩ := hb
          have b0 : 0 < e' := Nat.le_of_ble_eq_true b0
          have c2 := Nat.eq_of_beq_eq_true c2
          have c3 := Nat.eq_of_beq_eq_true c3
          have c4 := Nat.le_of_ble_eq_true c4
          have c5 := Nat.le_of_ble_eq_true c5
          have c6 := Nat.le_of_ble_eq_true c6
          subst c2 c3 ho0 hKC
          simp only [cond_true] at h
          obtain ⟨cs, T, hc, hrb, hle, hop⟩ := (hR.blk b _ p hk hp).plain (pl_some b0)
          obtain ⟨rfl, hcsz, hCM⟩ := hop _ _ rfl
          simp only at hrb hle
          split at h
          · next h' hput =>
            have hR2 := hR.kill hput
            split at h
            · next b' σ'' hn =>
              simp only [fN_eq] at h
              cases h
              have hold : RBs φ (cells.take (n * i.size)) (cs.toList.take (n * i.size)) := by
                have := hrb.take (n * i.size)
                rwa [List.take_take, Nat.min_eq_left c6] at this
              have hol : (cs.toList.take (n * i.size)).length = n * i.size := by rw [List.length_take, Array.length_toList]; omega
              have hall := hold.append hr
              have halll : (cs.toList.take (n * i.size) ++ rs).length = (n + m) * i.size := by rw [List.length_append, hol, hl, Nat.add_mul]
              by_cases hroom : n + m ≤ p.2
              · have hfit : n * i.size + rs.length ≤ cs.size := by rw [hl, hcsz, ← Nat.add_mul]; exact Nat.mul_le_mul_right _ hroom
                have hrun := run_append_room (P := P) w t ty T i hu hi p.1 n p.2 cs hc A m k rs hl hA hr.oneCell hroom hfit
                obtain ⟨hb', hnx, hget⟩ := new_spec hn
                subst hb'
                have hnew := hR2.new (c := p.1) (C := p.2) hn (grownBy_setRow w p.1 (cs.toList.take (n * i.size) ++ rs ++ cs.toList.drop (n * i.size + rs.length)).toArray) (hR.lo b p hp).1 (by simpa using (hR.lo b p hp).2) (fun j pj hj lj ej => ?_) (.inl ⟨pl_some b0, _, T, setRow_heap w p.1 cs _ T _ hc, ?_, ?_, fun e t h9 => ?_⟩)
                · refine ⟨_, _, by rw [e]; exact hrun, _, ext_updP φ σ.nxt _, hnew, ⟨p, p.2, updP_self _ _ _, rfl, hroom, rfl, rfl⟩, ?_⟩
                  simp only at hnx
                  omega
                · have hj2 : (σ.h.get j).isSome = true ∧ j ≠ b := by
                    simp only [Tr.get_put _ _ _ _ _ j hput] at lj
                    split at lj
                    · cases lj
                    · next ne => exact ⟨lj, ne⟩
                  exact hj2.2 (hR.inj j b pj p hj hp ej hj2.1 (by rw [hk]; rfl))
                · have e9 : List.take (cells.take (n * i.size) ++ news).length (cs.toList.take (n * i.size) ++ rs ++ cs.toList.drop (n * i.size + rs.length)) = cs.toList.take (n * i.size) ++ rs := by
                    rw [hall.length]; exact List.take_left
                  show RBs φ (cells.take (n * i.size) ++ news) (List.take _ _)
                  rw [e9]
                  exact hall
                · simp only [hall.length, List.size_toArray, List.length_append]
                  omega
                · simp only [Option.some.injEq, Prod.mk.injEq] at h9
                  obtain ⟨rfl, rfl⟩ := h9
                  refine ⟨rfl, ?_, hCM⟩
                  rw [← hcsz]
                  simp only [List.size_toArray, List.length_append, List.length_drop, hol, Array.length_toList]
                  omega
              · have holds : ∀ j u, (cs.toList.take (n * i.size))[j]? = some u → w.cell? ((⟨p.1, 0, none⟩ : Addr).add j) = some u := fun j u hj => by
                  rw [Addr.add_lit, Nat.zero_add, cell_of_row w p.1 j cs T (0, 0) hc]
                  rw [List.getElem?_take] at hj
                  split at hj
                  · simpa using hj
                  · cases hj
                have hrun := run_append_grow (P := P) w t ty T i zv hu hi hz ⟨p.1, 0, none⟩ n p.2 _ hol holds A m k rs hl hA (by omega) (by omega) (growslice_fits (by omega) c4)
                obtain ⟨φ', q1, q2, q3, q4⟩ := land_new hR2 (C := grownCap w (n + m) p.2 T) hn hall halll b0 hzs (grownCap_ge w (n + m) p.2 T) (grownCap_le_maxLen w (n + m) p.2 T (by simp only [maxLen]; omega))
                refine ⟨_, _, by rw [e]; exact hrun, φ', q1, ?_, ⟨_, _, q3, rfl, grownCap_ge w (n + m) p.2 T, rfl, rfl⟩, q4⟩
                simpa using q2
            · cases h
          · cases h
      · cases h
  · next b o n kk =>
    obtain ⟨p, K, hp, e, hnK, hKC⟩ := hs
    have hKC : K = kk := hKC
    subst hKC
    cases h0 : Nat.beq m 0 with
    | true =>
      rw [h0] at h
      have h0 := Nat.eq_of_beq_eq_true h0
      simp only [cond_true] at h
      cases hb : Nat.ble n K with
      | false => rw [hb] at h; cases h
      | true =>
        rw [hb] at h
        cases h
        exact ⟨sv, w, Z h0 hnK e, φ, Ext.refl _ _, hR, ⟨p, K, hp, e, hnK, rfl⟩, Nat.le_refl _⟩
    | false =>
      rw [h0] at h
      have h0 : ¬ m = 0 := fun e => by rw [e] at h0; simp at h0
      simp only [cond_false] at h
      obtain ⟨A, rfl, hA⟩ := hB.resolve_left h0
      split at h
      · next bk hk =>
        cases hb : ((bk.pl && Nat.blt 0 i.size) && Nat.blt K (n + m) && (Nat.ble ((n + m) * i.bytes) 140737488355328 && (Nat.ble (n + m) 1073741824 && Nat.ble (o + n * i.size) bk.cells.length))) with
        | false => rw [hb] at h; cases h
        | true =>
          rw [hb] at h
          simp only [Bool.and_eq_true] at hb
          obtain ⟨⟨⟨hpl, b0⟩, c1⟩, c4, c5, c6⟩ := hb
          have b0 : 0 < i.size := Nat.le_of_ble_eq_true b0
          have c1 : K < n + m := Nat.le_of_ble_eq_true c1
          have c4 := Nat.le_of_ble_eq_true c4
          have c5 := Nat.le_of_ble_eq_true c5
          have c6 := Nat.le_of_ble_eq_true c6
          simp only [cond_true] at h
          obtain ⟨cs, T, hc, hrb, hle, -⟩ := (hR.blk b _ p hk hp).plain hpl
          split at h
          · next b' σ'' hn =>
            simp only [fN_eq] at h
            cases h
            have hold : RBs φ ((bk.cells.drop o).take (n * i.size)) ((cs.toList.drop o).take (n * i.size)) := by
              have := (hrb.drop o).take (n * i.size)
              rwa [List.drop_take, List.take_take, Nat.min_eq_left (by omega)] at this
            have hol : ((cs.toList.drop o).take (n * i.size)).length = n * i.size := by rw [List.length_take, List.length_drop, Array.length_toList]; omega
            have hall := hold.append hr
            have halll : ((cs.toList.drop o).take (n * i.size) ++ rs).length = (n + m) * i.size := by rw [List.length_append, hol, hl, Nat.add_mul]
            have holds : ∀ j u, ((cs.toList.drop o).take (n * i.size))[j]? = some u → w.cell? ((⟨p.1, o, none⟩ : Addr).add j) = some u := fun j u hj => by
              rw [Addr.add_lit, cell_of_row w p.1 (o + j) cs T (0, 0) hc]
              rw [List.getElem?_take] at hj
              split at hj
              · simpa using hj
              · cases hj
            have hrun := run_append_grow (P := P) w t ty el i zv hu hi hz ⟨p.1, o, none⟩ n K _ hol holds A m k rs hl hA c1 (by omega) (growslice_fits c1 c4)
            obtain ⟨φ', q1, q2, q3, q4⟩ := land_new hR (C := grownCap w (n + m) K el) hn hall halll b0 hzs (grownCap_ge w (n + m) K el) (grownCap_le_maxLen w (n + m) K el (by simp only [maxLen]; omega))
            refine ⟨_, _, by rw [e]; exact hrun, φ', q1, ?_, ⟨_, _, q3, rfl, grownCap_ge w (n + m) K el, rfl, rfl⟩, q4⟩
            simpa using q2
          · cases h
      · cases h
  · cases h
theorem a_app (hR : Rel N w0 φ σ w) {op : Op} {ty e bytes : Nat} {s x : O} (hi : impA P op (.app ty e bytes s x) = true) (h : stepA (.app ty e bytes s x) tm σ = some (v, σ')) (ht : RT φ tm a) : YA P N w0 w φ σ a op v σ' := by
  simp only [impA] at hi
  simp only [stepA] at h
  intro o ho
  split at hi
  · next c =>
    split at hi
    · next hcal =>
      split at hi
      · next S X t t' hargs htys =>
        simp only [Bool.and_eq_true] at hi
        obtain ⟨⟨⟨i1, i2⟩, i3⟩, i4⟩ := hi
        have i1 := Nat.eq_of_beq_eq_true i1
        subst i1
        have hs := opd_RV i2 ht
        have hx := opd_RV i3 ht
        have hargs : c.args = #[S, X] := by rw [← Array.toArray_toList (xs := c.args), hargs]
        have htys : c.argTypes = #[t, t] := by rw [← Array.toArray_toList (xs := c.argTypes), htys]
        obtain ⟨i, zv, hel, hinf, hzv, k1, k2, k3⟩ := appTy_spec i4
        subst k1 k2
        have fin : ∀ {B : Option Addr} {m k : Nat} {news : List Ex.B} {rs : List Value}, a.eval X = .slice B m k → RBs φ news rs → rs.length = m * i.size →
            (m = 0 ∨ ∃ A, B = some A ∧ ∀ j u, rs[j]? = some u → w.cell? (A.add j) = some u) → appB ty i.size i.bytes (s.ev tm) m news σ = some (v, σ') →
            ∃ nx cv w', (execOp a.eval o).run P w = .ok nx w' ∧ (nx = .value cv ∨ (nx = .skip ∧ cv = undef)) ∧ ∃ φ', Ext σ.nxt φ φ' ∧ Rel N w0 φ' σ' w' ∧ RV φ' v cv ∧ σ.nxt ≤ σ'.nxt := fun {B m k news rs} hX hr hl hB hap => by
          obtain ⟨cv, w', h1, h2⟩ := appB_spec (ty := o.type) (k := k) hR hel hinf hzv k3 hs hr hl hB hap
          refine ⟨.value cv, cv, w', ?_, .inl rfl, h2⟩
          simp [execOp, ho, resolve, hcal, hargs, htys, invoke, builtin, hX, h1]
        split at h
        · next ex =>
          rw [ex] at hx
          exact fin (B := none) (m := 0) (k := 0) (news := []) (rs := []) hx trivial (by simp) (.inl rfl) h
        · next b off m cp ex =>
          rw [ex] at hx
          obtain ⟨p, K, hp, e2, hmK, -⟩ := hx
          split at h
          · next k hk =>
            cases hb : (k.pl && Nat.beq ((k.cells.drop off).take (m * i.size)).length (m * i.size)) with
            | false => rw [hb] at h; cases h
            | true =>
              rw [hb] at h
              rw [Bool.and_eq_true] at hb
              have hpl := hb.1
              have hb := Nat.eq_of_beq_eq_true hb.2
              simp only [cond_true] at h
              obtain ⟨cs, T, hc, hrb, hle, -⟩ := (hR.blk b k p hk hp).plain hpl
              have hnew := (hrb.drop off).take (m * i.size)
              refine fin (rs := ((cs.toList.take k.cells.length).drop off).take (m * i.size)) e2 hnew (by rw [← hnew.length]; exact hb) (.inr ⟨_, rfl, fun j u hj => ?_⟩) h
              rw [Addr.add_lit, cell_of_row w p.1 (off + j) cs T (0, 0) hc]
              rw [List.getElem?_take] at hj
              split at hj
              · rw [List.getElem?_drop, List.getElem?_take] at hj
                split at hj
                · simpa using hj
                · cases hj
              · cases hj
          · cases h
        · cases h
      · cases hi
    · cases hi
  · cases hi
theorem Rel.below (h : Rel N w0 φ σ w) (hb : Below w.heap.size w w') : Rel N w0 φ σ w' :=
  ⟨h.n0, h.bel.trans (hb.mono h.size), h.inj, fun b p hp => ⟨(h.lo b p hp).1, Nat.lt_of_lt_of_le (h.lo b p hp).2 hb.size⟩, fun b k p hk hp => (h.blk b k p hk hp).keep (hb.block _ (h.lo b p hp).2), h.nxt⟩
theorem a_mkmap (hR : Rel N w0 φ σ w) {op : Op} (hi : impA P op .mkmap = true) (h : stepA .mkmap tm σ = some (v, σ')) : YA P N w0 w φ σ a op v σ' := by
  simp only [impA] at hi
  simp only [stepA, Option.some.injEq, Prod.mk.injEq] at h
  obtain ⟨rfl, rfl⟩ := h
  intro o ho
  split at hi
  · exact ⟨.value (.map (some w.heap.size)), .map (some w.heap.size), w.alloc (.map #[] 0), by simp [execOp, ho, Instr.makeMap], .inl rfl, φ, Ext.refl _ _, hR.below ((Below.refl _ _).alloc (Nat.le_refl _) _), trivial, Nat.le_refl _⟩
  · cases hi
theorem a_mkset (hR : Rel N w0 φ σ w) {op : Op} (hi : impA P op .mkset = true) (h : stepA .mkset tm σ = some (v, σ')) : YA P N w0 w φ σ a op v σ' := by
  simp only [impA] at hi
  simp only [stepA] at h
  intro o ho
  split at hi
  · split at h
    · next b σ'' hn =>
      cases h
      obtain ⟨rfl, hnx, -⟩ := new_spec hn
      have hg : w.grownBy (w.alloc (.map #[] 0)) (some w.heap.size) := ⟨rfl, rfl, rfl, by simp, fun k hk _ => Below.heap_alloc w _ k hk⟩
      refine ⟨.value (.map (some w.heap.size)), .map (some w.heap.size), w.alloc (.map #[] 0), by simp [execOp, ho, Instr.makeMap], .inl rfl, _, ext_updP φ σ.nxt (w.heap.size, 0), hR.new hn hg hR.size (by simp) (fun i p hi _ e => ?_) (.inr ⟨pl_map, [], rfl, MLegs.made w⟩), ⟨_, updP_self _ _ _, rfl⟩, by omega⟩
      have := (hR.lo i p hi).2
      omega
    · cases h
  · cases hi
theorem a_mupd [hPP : IsProg P] (hR : Rel N w0 φ σ w) {op : Op} {m k x : O} (hi : impA P op (.mupd m k x) = true) (h : stepA (.mupd m k x) tm σ = some (v, σ')) (ht : RT φ tm a) : YA P N w0 w φ σ a op v σ' := by
  obtain rfl := hPP.eq
  simp only [impA] at hi
  simp only [stepA] at h
  intro o ho
  split at hi
  · next t M K X =>
    simp only [Bool.and_eq_true] at hi
    obtain ⟨⟨⟨i1, i2⟩, i3⟩, i4⟩ := hi
    have i4 := Nat.eq_of_beq_eq_true i4
    subst i4
    have hm := opd_RV i1 ht
    have hk := opd_RV i2 ht
    have hx := opd_RV i3 ht
    split at h
    · next b e j em ek ex =>
      rw [em] at hm
      rw [ek] at hk
      rw [ex] at hx
      have hx : a.eval X = .bool true := hx
      obtain ⟨p, hp, e1⟩ := hm
      obtain ⟨r, e2, hr⟩ := hk
      obtain ⟨l⟩ := r
      have e3 : l = [.int .i64 e, .int .i64 j] := by
        match l, hr with
        | [u, v], hr =>
          have h1 : u = .int .i64 e := hr.1
          have h2 : v = .int .i64 j := hr.2.1
          rw [h1, h2]
      subst e3
      split at h
      · next c t hb =>
        cases hw : (inR .i64 e && (inR .i64 j && Nat.ble c.length 1000)) with
        | false => rw [hw] at h; cases h
        | true =>
          rw [hw] at h
          simp only [Bool.and_eq_true] at hw
          simp only [cond_true] at h
          have w3 := Nat.le_of_ble_eq_true hw.2.2
          split at h
          · next h' hput =>
            cases h
            obtain ⟨L, hL, hM⟩ := (hR.blk b _ p hb hp).map pl_map
            have hL : c = flatL L := hL
            obtain ⟨w', r1, r2, r3⟩ := hM.store (e, j) (inR_wf hw.1) (inR_wf hw.2.1) (by have := flatL_length L; rw [← hL] at this; omega)
            simp only [ML.kv] at r1
            refine ⟨.skip, undef, w', by simp [execOp, ho, e1, e2, hx, r1], .inr ⟨rfl, rfl⟩, φ, Ext.refl _ _, hR.change hp (by rw [hb]; rfl) hput r3 (.inr ⟨pl_map, L ++ [(e, j)], ?_, r2⟩), trivial, Nat.le_refl _⟩
            rw [flatL_snoc, ← hL]
          · cases h
      · cases h
    · cases h
  · cases hi
theorem stepA_spec [hPP : IsProg P] (hR : Rel N w0 φ σ w) {op : Op} {ao : AOp} (hi : impA P op ao = true) (h : stepA ao tm σ = some (v, σ')) (ht : RT φ tm a) : YA P N w0 w φ σ a op v σ' := by
  cases ao
  case store => exact a_store hR hi h ht
  case app => exact a_app hR hi h ht
  case mkmap => exact a_mkmap hR hi h
  case mkset => exact a_mkset hR hi h
  case mupd => exact a_mupd hR hi h ht
  all_goals cases hi
end
end Go.Proofs.Ex

set_option linter.unusedSimpArgs false
set_option linter.unusedVariables false
namespace Go.Proofs.Ex
open Go.RowKit Go.Proofs.Ins

def impC (op : Op) : AOp → Bool
  | .call g args => (match op with | .call c => (match c.callee with | .value f => opd f g && opds c.args.toList args | _ => false) | _ => false)
  | _ => false
def dstOk (K : Nat) : Option Nat → Option Nat → Bool
  | none, none => true
  | some d, some e => Nat.beq d e && Nat.blt d K
  | _, _ => false
def impG (ops : Array Oper) : Option (Nat × Bool) → Option (Nat × Bool) → Bool
  | none, none => true
  | some (j, b), some (t, c) => (match (ops[j]?).bind (·.dst) with | some d => Nat.beq d t | none => false) && (b == c)
  | _, _ => false
def impO (P : Program) (K : Nat) (ops : Array Oper) (o : Oper) (ao : AO) : Bool :=
  impG ops o.guard ao.g && (dstOk K o.dst ao.dst && (match ao.op.kind with | .q => impQ P o.op ao.op | .n => impN P o.op ao.op | .a => impA P o.op ao.op | .c => impC o.op ao.op))
def okF (P : Program) (f : Nat) : Prop := ∃ fn, P.funcs[f]? = some fn ∧ fn.body.isNone = false ∧ (fn.name == "runtime.NumGoroutine") = false

section
variable {P : Program} {N : Nat} {w0 w w' : World} {φ φ' : Ph} {σ σ' : St} {tm tm' : Tr V} {a : Act} {v : V}

/-- What is to be known of calls. -/
def ClOk (P : Program) (cl : Nat → List V → St → Option (V × St)) : Prop :=
  ∀ (f : Nat) (args : List V) (σ : St) (v : V) (σ' : St), cl f args σ = some (v, σ') → ∀ (N : Nat) (w0 : World) (φ : Ph) (w : World) (cargs : Array Value), Rel N w0 φ σ w → RVs φ args cargs.toList →
    okF P f ∧ Calls P f cargs w fun e w' => ∃ cv, e = .returned cv ∧ ∃ φ', Ext σ.nxt φ φ' ∧ Rel N w0 φ' σ' w' ∧ RV φ' v cv ∧ σ.nxt ≤ σ'.nxt

theorem RVs.append : ∀ {l : List V} {r : List Value} {l' : List V} {r' : List Value}, RVs φ l r → RVs φ l' r' → RVs φ (l ++ l') (r ++ r')
  | [], [], _, _, _, h => h
  | _ :: _, _ :: _, _, _, hv, h => ⟨hv.1, RVs.append hv.2 h⟩
  | [], _ :: _, _, _, hv, _ => hv.elim
  | _ :: _, [], _, _, hv, _ => hv.elim
theorem RBs.toRVs : ∀ {l : List B} {r : List Value}, RBs φ l r → RVs φ (l.map .c) r
  | [], [], _ => trivial
  | _ :: _, _ :: _, hv => ⟨hv.1, RBs.toRVs hv.2⟩
  | [], _ :: _, hv => hv.elim
  | _ :: _, [], hv => hv.elim
theorem dstOk_spec {K : Nat} {d e : Option Nat} (h : dstOk K d e = true) : d = e ∧ ∀ i, d = some i → i < K := by
  unfold dstOk at h
  split at h
  · exact ⟨rfl, fun i h => by cases h⟩
  · next x y =>
    rw [Bool.and_eq_true] at h
    have h1 := Nat.eq_of_beq_eq_true h.1
    subst h1
    exact ⟨rfl, fun i hi => by cases hi; exact Nat.le_of_ble_eq_true h.2⟩
  · cases h
theorem RT.put (h : RT φ tm a) {d : Option Nat} {cv : Value} (hs : setT tm d v = some tm') (hv : RV φ v cv) (hd : ∀ i, d = some i → i < a.tmps.size) : RT φ tm' (a.put d cv) := by
  cases d with
  | none =>
    simp only [setT, Option.some.injEq] at hs
    subst hs
    exact h
  | some d =>
    simp only [setT] at hs
    have hlt := hd d rfl
    intro t u ht
    rw [Tr.get_put _ _ _ _ _ t hs] at ht
    simp only [Act.put, Array.getD_eq_getD_getElem?, Array.getElem?_setIfInBounds]
    by_cases e : d = t
    · subst e
      rw [if_pos rfl] at ht
      cases ht
      simp [hlt, hv]
    · rw [if_neg (fun e2 => e e2.symm)] at ht
      rw [if_neg e]
      have := h t u ht
      simpa using this
/-- One operation. -/
theorem stepO_spec [hPP : IsProg P] {cl : Nat → List V → St → Option (V × St)} (hcl : ClOk P cl) {K : Nat} {ops : Array Oper} {o : Oper} {ao : AO} (hi : impO P K ops o ao = true) (hR : Rel N w0 φ σ w) (ht : RT φ tm a) (h : stepO cl ao.op tm σ = some (v, σ'))
    {next : Act → World → Prop} {Q : Exit → Act → World → Prop} (hn : ∀ cv φ' w', Ext σ.nxt φ φ' → Rel N w0 φ' σ' w' → RV φ' v cv → σ.nxt ≤ σ'.nxt → next (a.put o.dst cv) w') : o.wp P a w next Q := by
  unfold impO at hi
  simp only [Bool.and_eq_true] at hi
  obtain ⟨-, -, hi⟩ := hi
  unfold stepO at h
  unfold Oper.wp
  cases hk : ao.op.kind with
  | q =>
    rw [hk] at hi h
    simp only at hi h
    split at h
    · next u hu =>
      cases h
      obtain ⟨cv, h1, h2⟩ := stepQ_spec hR hi hu ht o rfl
      rw [h1]
      exact hn cv φ w (Ext.refl _ _) hR h2 (Nat.le_refl _)
    · cases h
  | n =>
    rw [hk] at hi h
    simp only at hi h
    split at h
    · next l vf hl =>
      split at h
      · next b σ'' hnew =>
        cases h
        obtain ⟨cs, T, cv, h1, h2, h3⟩ := stepN_spec (w := w) hi hl ht o rfl
        rw [h1]
        obtain ⟨hb, hnx, -⟩ := new_spec hnew
        subst hb
        refine hn cv (updP φ σ.nxt (w.heap.size, 0)) _ (ext_updP φ σ.nxt _) (hR.new hnew (World.grownBy_alloc w _ _) hR.size (by simp) (fun i p hi' _ e => ?_) (.inl ⟨pl_none, cs, T, heap_alloc_new w _, ?_, ?_, fun e t h9 => by cases h9⟩)) (h3 _ _ (updP_self _ _ _)) (by omega)
        · have := (hR.lo i p hi').2
          omega
        · rw [List.take_of_length_le (by rw [h2.length]; exact Nat.le_refl _)]
          exact h2
        · rw [h2.length, Array.length_toList]
          exact Nat.le_refl _
      · cases h
    · cases h
  | a =>
    rw [hk] at hi h
    simp only at hi h
    obtain ⟨nx, cv, w1, h1, h2, φ', h3, h4, h5, h6⟩ := stepA_spec hR hi h ht o rfl
    rw [h1]
    rcases h2 with rfl | ⟨rfl, rfl⟩
    · exact hn cv φ' w1 h3 h4 h5 h6
    · exact hn undef φ' w1 h3 h4 h5 h6
  | c =>
    rw [hk] at hi h
    simp only at hi h
    split at h
    · next f args hc =>
      unfold stepC at hc
      split at hc
      · next g args0 hop =>
        rw [hop] at hi
        simp only [impC] at hi
        split at hi
        · next c hoc =>
          split at hi
          · next F hF =>
            rw [Bool.and_eq_true] at hi
            have hg := opd_RV hi.1 ht
            have has := opds_RVs ht hi.2
            split at hc
            · next f' caps he =>
              cases hc
              rw [he] at hg
              obtain ⟨r, e1, hr⟩ := hg
              have hargs : RVs φ (List.map (fun x => O.ev tm x) args0 ++ caps.map .c) ((c.args.map a.eval) ++ r).toList := by
                rw [Array.toList_append, Array.toList_map]
                exact has.append hr.toRVs
              obtain ⟨⟨fn, hf1, hf2, hf3⟩, hC⟩ := hcl f _ σ v σ' h N w0 φ w _ hR hargs
              have hrun : (execOp a.eval o).run P w = .ok (.enter f ((c.args.map a.eval) ++ r)) w := by
                have hf2' : ¬ fn.body = none := fun e => by rw [e] at hf2; cases hf2
                have hf3' : ¬ fn.name = "runtime.NumGoroutine" := by simpa using hf3
                simp [execOp, hoc, resolve, hF, e1, Deferred.ofValue, invoke, callFunc, hf1, hf2', hf3']
              rw [hrun]
              refine Calls.mono hC fun e w2 he => ?_
              obtain ⟨cv, rfl, φ', q1, q2, q3, q4⟩ := he
              exact hn cv φ' w2 q1 q2 q3 q4
            · cases hc
          · cases hi
        · cases hi
      · cases hc
    · cases h

theorem gate_spec {ops : Array Oper} {o : Oper} {g : Option (Nat × Bool)} {b : Bool} (hi : impG ops o.guard g = true) (ht : RT φ tm a) (h : gate g tm = some b) : Region.wanted o (yielded ops a.tmps) = b := by
  unfold Region.wanted
  unfold impG at hi
  split at hi
  · rename_i hg
    simp only [gate, Option.some.injEq] at h
    rw [hg]
    exact h
  · next j want t c hg =>
    rw [hg]
    simp only [Bool.and_eq_true] at hi
    obtain ⟨h1, h2⟩ := hi
    have h2 := eq_of_beq h2
    subst h2
    split at h1
    · next d hd =>
      have h1 := Nat.eq_of_beq_eq_true h1
      subst h1
      have hv := RV.tm ht d
      simp only [gate] at h
      simp only [yielded, hd, Option.bind_some]
      rw [Array.getD_eq_getD_getElem?] at hv
      split at h
      · next x e =>
        rw [e] at hv
        cases hl : a.tmps[d]? with
        | none => rw [hl] at hv; simp only [Option.getD_none, RV, RB, undef, reduceCtorEq] at hv
        | some u =>
          rw [hl] at hv
          have hv : u = .bool x := hv
          subst hv
          cases h
          show (some x == some want) = (x == want)
          cases x <;> cases want <;> rfl
      · next e =>
        rw [e] at hv
        cases h
        cases hl : a.tmps[d]? with
        | none => rfl
        | some u =>
          rw [hl] at hv
          have hv : u = .tuple #[] := hv
          subst hv
          rfl
      · cases h
    · cases h1
  · cases hi
/-- One operation of a region, guarded or not. -/
theorem stepG_spec [hPP : IsProg P] {cl : Nat → List V → St → Option (V × St)} (hcl : ClOk P cl) {K i : Nat} {ops : Array Oper} {o : Oper} {ao : AO} (hoi : ops[i]? = some o) (hi : impO P K ops o ao = true) (hR : Rel N w0 φ σ w) (ht : RT φ tm a) (h : stepG cl ao tm σ = some (v, σ'))
    {next : Act → World → Prop} {Q : Exit → Act → World → Prop} (hn : ∀ cv φ' w', Ext σ.nxt φ φ' → Rel N w0 φ' σ' w' → RV φ' v cv → σ.nxt ≤ σ'.nxt → next (a.put o.dst cv) w') : wpOp P ops Q i next a w := by
  have hi' := hi
  unfold impO at hi'
  simp only [Bool.and_eq_true] at hi'
  unfold stepG at h
  unfold wpOp
  simp only [hoi]
  split at h
  · next hg =>
    rw [if_pos (gate_spec hi'.1 ht hg)]
    exact .inl (stepO_spec hcl hi hR ht h hn)
  · next hg =>
    rw [if_neg (by rw [gate_spec hi'.1 ht hg]; simp)]
    cases h
    exact hn undef φ w (Ext.refl _ _) hR rfl (Nat.le_refl _)
  · cases h

/-- What holds behind a piece of code. -/
def After (N : Nat) (w0 : World) (φ : Ph) (σ σ' : St) (tm' : Tr V) (a : Act) (K : Nat) (a' : Act) (w' : World) : Prop :=
  a'.defers = a.defers ∧ K ≤ a'.tmps.size ∧ ∃ φ', Ext σ.nxt φ φ' ∧ Rel N w0 φ' σ' w' ∧ RT φ' tm' a' ∧ σ.nxt ≤ σ'.nxt
theorem After.trans {σ2 : St} {tm2 : Tr V} {a1 a2 : Act} {w2 : World} {K : Nat} {φ1 : Ph} (h1 : a1.defers = a.defers) (h2 : Ext σ.nxt φ φ1) (h3 : σ.nxt ≤ σ'.nxt) (h : After N w0 φ1 σ' σ2 tm2 a1 K a2 w2) : After N w0 φ σ σ2 tm2 a K a2 w2 := by
  obtain ⟨q1, q2, φ', q3, q4, q5, q6⟩ := h
  exact ⟨q1.trans h1, q2, φ', h2.trans q3 h3, q4, q5, Nat.le_trans h3 q6⟩
theorem put_defers (a : Act) (d : Option Nat) (v : Value) : (a.put d v).defers = a.defers := by cases d <;> rfl
theorem put_size (a : Act) (d : Option Nat) (v : Value) : (a.put d v).tmps.size = a.tmps.size := by cases d <;> simp [Act.put]

def impOps (P : Program) (K : Nat) (ops : Array Oper) : List Oper → List AO → Bool
  | [], [] => true
  | o :: r, x :: l => impO P K ops o x && impOps P K ops r l
  | _, _ => false
theorem runOps_spec [hPP : IsProg P] {cl : Nat → List V → St → Option (V × St)} (hcl : ClOk P cl) {K : Nat} {ops : Array Oper} {Q : Exit → Act → World → Prop} : ∀ (os : List Oper) (l : List AO) (s : Nat) (tm : Tr V) (σ : St) (φ : Ph) (a : Act) (w : World), impOps P K ops os l = true →
    (∀ j o, os[j]? = some o → ops[s + j]? = some o) → Rel N w0 φ σ w → RT φ tm a → K ≤ a.tmps.size → runOps cl l tm σ = some (tm', σ') → (∀ a' w', After N w0 φ σ σ' tm' a K a' w' → Q .normal a' w') → wpOps P ops Q (List.range' s os.length) a w
  | [], [], s, tm, σ, φ, a, w, _, _, hR, ht, hK, h, hQ => by
    simp only [runOps, Option.some.injEq, Prod.mk.injEq] at h
    obtain ⟨rfl, rfl⟩ := h
    exact hQ a w ⟨rfl, hK, φ, Ext.refl _ _, hR, ht, Nat.le_refl _⟩
  | [], _ :: _, _, _, _, _, _, _, h, _, _, _, _, _, _ => by cases h
  | _ :: _, [], _, _, _, _, _, _, h, _, _, _, _, _, _ => by cases h
  | o :: os, x :: l, s, tm, σ, φ, a, w, hi, ho, hR, ht, hK, h, hQ => by
    unfold impOps at hi
    rw [Bool.and_eq_true] at hi
    obtain ⟨hi1, hi2⟩ := hi
    have hos : ops[s]? = some o := by simpa using ho 0 o rfl
    have hi1' := hi1
    unfold impO at hi1'
    simp only [Bool.and_eq_true] at hi1'
    obtain ⟨-, g2, -⟩ := hi1'
    obtain ⟨d1, d2⟩ := dstOk_spec g2
    unfold runOps at h
    split at h
    · next v1 σ1 hs =>
      split at h
      · next tm1 htm =>
        rw [List.length_cons, List.range'_succ, wpOps_cons]
        refine stepG_spec hcl hos hi1 hR ht hs fun cv φ1 w1 e1 r1 v1' n1 => ?_
        have hput : RT φ1 tm1 (a.put o.dst cv) := by
          rw [d1]
          exact (ht.ext e1 hR.old).put htm v1' (fun i hi => by have := d2 i (d1.trans hi); omega)
        refine runOps_spec hcl os l (s + 1) tm1 σ1 φ1 _ w1 hi2 (fun j o' hj => by rw [show s + 1 + j = s + (j + 1) by omega]; exact ho (j + 1) o' (by simpa using hj)) r1 hput (by rw [put_size]; exact hK) h fun a' w' hA => hQ a' w' ?_
        exact hA.trans (put_defers _ _ _) e1 n1
      · cases h
    · cases h
/-- A region in its given order. -/
theorem region_spec [hPP : IsProg P] {cl : Nat → List V → St → Option (V × St)} (hcl : ClOk P cl) {K id : Nat} {ops : Array Oper} {Q : Exit → Act → World → Prop} {l : List AO} (hi : impOps P K ops ops.toList l = true)
    (hR : Rel N w0 φ σ w) (ht : RT φ tm a) (hK : K ≤ a.tmps.size) (h : runOps cl l tm σ = some (tm', σ')) (hQ : ∀ a' w', After N w0 φ σ σ' tm' a K a' w' → Q .normal a' w') : (Code.region id ops false).wp P Q a w := by
  refine wp_region ?_
  have := runOps_spec (ops := ops) (Q := Q) hcl ops.toList l 0 tm σ φ a w hi (fun j o hj => by simpa using hj) hR ht hK h hQ
  rwa [Array.length_toList, ← List.range_eq_range'] at this
end
end Go.Proofs.Ex
