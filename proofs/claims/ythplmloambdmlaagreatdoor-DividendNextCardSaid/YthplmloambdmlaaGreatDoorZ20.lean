/- The executor: what makes a block and what writes. -/
import Derived.Test.YthplmloambdmlaaGreatDoorZ19
import Derived.Laws.StructEq
import Derived.Laws.OwnMore

set_option linter.unusedSimpArgs false
set_option linter.unusedVariables false
namespace Go.Proofs.Ex
open Go.RowKit Go.Proofs.Ins

section
variable {P : Program} {N : Nat} {w0 w : World} {φ : Ph} {σ : St} {tm : Tr V} {a : Act} {v : V}

theorem eqn_sl (d : Nat) {t el : TypeId} (h : P.underlying t = some (.slice el)) (b : Addr) (n k : Nat) : (Op.equalIn (d + 1) t (.slice (some b) n k) (.slice none 0 0)).run P w = .ok false w := by
  simp [Op.equalIn, run_underlying h]
theorem eqn_nil (d : Nat) {t el : TypeId} (h : P.underlying t = some (.slice el)) : (Op.equalIn (d + 1) t (.slice none 0 0) (.slice none 0 0)).run P w = .ok true w := by
  simp [Op.equalIn, run_underlying h]
theorem eqn_ptr (d : Nat) {t el : TypeId} (h : P.underlying t = some (.pointer el)) (b : Addr) : (Op.equalIn (d + 1) t (.pointer (some b)) (.pointer none)).run P w = .ok false w := by
  simp [Op.equalIn, run_underlying h]
theorem eqn_nilp (d : Nat) {t el : TypeId} (h : P.underlying t = some (.pointer el)) : (Op.equalIn (d + 1) t (.pointer none) (.pointer none)).run P w = .ok true w := by
  simp [Op.equalIn, run_underlying h]
theorem eqn_fn (d : Nat) {t : TypeId} {x y : Array TypeId} {z : Bool} (h : P.underlying t = some (.func x y z)) (f : Fn) (p q : Array Value) : (Op.equalIn (d + 1) t (.func f p q) .nilFunc).run P w = .ok false w := by
  simp [Op.equalIn, run_underlying h]
theorem eqn_nilf (d : Nat) {t : TypeId} {x y : Array TypeId} {z : Bool} (h : P.underlying t = some (.func x y z)) : (Op.equalIn (d + 1) t .nilFunc .nilFunc).run P w = .ok true w := by
  simp [Op.equalIn, run_underlying h]
theorem nil_key {b : BinOp} {t : TypeId} {X : Operand} {c r : Value} {Y : TypeId} {p q : Bool} (h0 : (match b with | .eql => p | .neq => !p | _ => false) = true) (hr : a.eval X = r)
    (hg : eqGuard b t X (.const c) r c = pure ()) (he : (Op.equal t r c).run P w = .ok q w)
    (hb1 : binOp .eql t r c = (do pure (.bool (← Op.equal t r c)))) (hb2 : binOp .neq t r c = (do pure (.bool (!(← Op.equal t r c))))) (o : Oper) (ho : o.op = .binOp b t X (.const c) Y) :
    (execOp a.eval o).run P w = .ok (.value (.bool (p == q))) w := by
  have hc : a.eval (.const c) = c := rfl
  simp only [execOp, ho, hr, hc, hg]
  split at h0
  · rw [hb1, h0]; simp [he]
  · have h0 : p = false := by simpa using h0
    rw [hb2, h0]; simp [he]
  · cases h0
theorem q_nil {op : Op} {k : Nat} {p : Bool} {x : O} (hi : impQ P op (.nil k p x) = true) (h : stepQ (.nil k p x) tm σ = some v) (ht : RT φ tm a) : YQ P w φ a op v := by
  simp only [impQ] at hi
  simp only [stepQ, qnil] at h
  intro o ho
  split at hi
  · next b t X Y _ =>
    simp only [Bool.and_eq_true] at hi
    obtain ⟨⟨h0, h1⟩, h3⟩ := hi
    have hx := opd_RV h1 ht
    split at h3
    · next el ht' =>
      split at h
      · next e =>
        rw [e] at hx
        obtain ⟨pp, K, -, e2, -⟩ := hx
        cases h
        refine ⟨_, nil_key h0 e2 (eqGuard_at_slice ..) (q := false) (eqn_sl 9999 ht' _ _ _) rfl rfl o ho, ?_⟩
        show Value.bool _ = .bool _
        congr 1
        cases p <;> rfl
      · next e =>
        rw [e] at hx
        have hx : a.eval X = .slice none 0 0 := hx
        cases h
        refine ⟨_, nil_key h0 hx (eqGuard_at_slice ..) (q := true) (eqn_nil 9999 ht') rfl rfl o ho, ?_⟩
        show Value.bool _ = .bool _
        congr 1
        cases p <;> rfl
      all_goals (first | (exfalso; simp_all; done) | (cases h; done))
    · next el ht' =>
      split at h
      · simp_all
      · simp_all
      · next e =>
        rw [e] at hx
        obtain ⟨pp, -, e2⟩ := hx
        cases h
        refine ⟨_, nil_key h0 e2 (eqGuard_at_pointer ..) (q := false) (eqn_ptr 9999 ht' _) rfl rfl o ho, ?_⟩
        show Value.bool _ = .bool _
        congr 1
        cases p <;> rfl
      · next e =>
        rw [e] at hx
        have hx : a.eval X = .pointer none := hx
        cases h
        refine ⟨_, nil_key h0 hx (eqGuard_at_pointer ..) (q := true) (eqn_nilp 9999 ht') rfl rfl o ho, ?_⟩
        show Value.bool _ = .bool _
        congr 1
        cases p <;> rfl
      all_goals (first | (exfalso; simp_all; done) | (cases h; done))
    · next el ht' =>
      split at h
      · simp_all
      · simp_all
      · simp_all
      · simp_all
      · next e =>
        rw [e] at hx
        obtain ⟨r, e2, -⟩ := hx
        cases h
        refine ⟨_, nil_key h0 e2 (eqGuard_at_func ..) (q := false) (eqn_fn 9999 ht' _ _ _) rfl rfl o ho, ?_⟩
        show Value.bool _ = .bool _
        congr 1
        cases p <;> rfl
      · next e =>
        rw [e] at hx
        have hx : a.eval X = .nilFunc := hx
        cases h
        refine ⟨_, nil_key h0 hx (eqGuard_at_nilFunc ..) (q := true) (eqn_nilf 9999 ht') rfl rfl o ho, ?_⟩
        show Value.bool _ = .bool _
        congr 1
        cases p <;> rfl
      · cases h
    · cases h3
  · cases hi

theorem eqB_spec {l r : List B} {b : Bool} {xs ys : Array Value} (h : eqB l r = some b) (hx : RBs φ l xs.toList) (hy : RBs φ r ys.toList) {t : TypeId} (ht : ratTy P t = true) :
    (Op.equalIn 10000 t (.agg xs) (.agg ys)).run P w = .ok b w := by
  unfold eqB at h
  split at h
  · next a1 b1 c1 d1 e1 f1 =>
    cases h
    unfold ratTy at ht
    split at ht
    · next fs hfs =>
      split at ht
      · next f g k hl =>
        simp only [Bool.and_eq_true, Bool.not_eq_true'] at ht
        obtain ⟨⟨⟨⟨⟨⟨⟨⟨n1, n2⟩, n3⟩, o1⟩, o2⟩, o3⟩, hty⟩, hs⟩, hg⟩ := ht
        have o1 := Nat.eq_of_beq_eq_true o1
        have o2 := Nat.eq_of_beq_eq_true o2
        have o3 := Nat.eq_of_beq_eq_true o3
        have hF : P.fieldsOf t = fs := by simp [Program.fieldsOf, hfs]
        obtain ⟨xl⟩ := xs
        obtain ⟨yl⟩ := ys
        match xl, hx with
        | [x1, x2, x3], ⟨hx1, hx2, hx3, _⟩ =>
          match yl, hy with
          | [y1, y2, y3], ⟨hy1, hy2, hy3, _⟩ =>
            simp only [RB] at hx1 hx2 hx3 hy1 hy2 hy3
            subst hx1 hx2 hx3 hy1 hy2 hy3
            split at hty
            · next t1 t2 t3 =>
              rw [run_equalIn_struct w 9999 t _ _ (by rw [hF]; exact hfs) hs, hF, hl]
              have i1 : (isAgg f.type).run P w = .ok false w := by simp [isAgg, run_underlying t1]
              have i2 : (isAgg g.type).run P w = .ok false w := by simp [isAgg, run_underlying t2]
              have i3 : (isAgg k.type).run P w = .ok false w := by simp [isAgg, run_underlying t3]
              have n1 : f.name ≠ "_" := by simpa using n1
              have n2 : g.name ≠ "_" := by simpa using n2
              have n3 : k.name ≠ "_" := by simpa using n3
              simp only [Op.eqFields, if_pos n1, if_pos n2, if_pos n3, Sem.run_bind, part, i1, i2, i3, Result.andThen_ok, o1, o2, o3, Bool.false_eq_true, if_false, List.getElem?_toArray, List.getElem?_cons_zero, List.getElem?_cons_succ, Sem.run_pure, run_equalIn_bool w 9998 _ _ _ t1, run_equalIn_string w 9998 _ _ _ t2, run_equalIn_string w 9998 _ _ _ t3, bn_beq, Sem.run_ite]
              cases a1 <;> cases d1 <;> cases Nat.beq b1 e1 <;> cases Nat.beq c1 f1 <;> rfl
            · cases hty
      · cases ht
    · cases ht
  · cases h
theorem q_eqagg {op : Op} {p : Bool} {x y : O} (hi : impQ P op (.eqagg p x y) = true) (h : stepQ (.eqagg p x y) tm σ = some v) (ht : RT φ tm a) : YQ P w φ a op v := by
  simp only [impQ] at hi
  simp only [stepQ, qeqagg] at h
  intro o ho
  split at hi
  · next b t X Y _ =>
    simp only [Bool.and_eq_true] at hi
    obtain ⟨⟨⟨h0, h1⟩, h2⟩, h3⟩ := hi
    have hx := opd_RV h1 ht
    have hy := opd_RV h2 ht
    split at h
    · next l r ex ey =>
      rw [ex] at hx; rw [ey] at hy
      obtain ⟨xs, e1, hxs⟩ := hx
      obtain ⟨ys, e2, hys⟩ := hy
      split at h
      · next q hq =>
        cases h
        have hE := eqB_spec (P := P) (w := w) hq hxs hys h3
        have hg : P.eqGuardType P.depth t = false := by
          unfold ratTy at h3
          split at h3
          · split at h3
            · simp only [Bool.and_eq_true, Bool.not_eq_true'] at h3; exact h3.2
            · cases h3
          · cases h3
        refine ⟨.bool (p == q), ?_, rfl⟩
        simp only [execOp, ho, e1, e2, Sem.run_bind, run_eqGuard_agg (P := P) w b t X Y xs ys hg, Result.andThen_ok]
        split at h0
        · rw [run_eql_struct, hE, h0]; simp
        · have h0 : p = false := by simpa using h0
          rw [run_neq_struct, hE, h0]; simp
        · cases h0
      · cases h
    · cases h
  · cases hi
end
end Go.Proofs.Ex

set_option linter.unusedSimpArgs false
set_option linter.unusedVariables false
namespace Go.Proofs.Ex
open Go.RowKit Go.Proofs.Ins

section
variable {P : Program} {N : Nat} {w0 w : World} {φ : Ph} {σ : St} {tm : Tr V} {a : Act} {v : V}

theorem foldl_set (o : Nat) : ∀ (l : List Value) (i : Nat) (cs : Array Value), o + i + l.length ≤ cs.size →
    ((l.zipIdx i).foldl (fun (cs : Array Value) (x : Value × Nat) => cs.setIfInBounds (o + x.2) x.1) cs).toList = cs.toList.take (o + i) ++ l ++ cs.toList.drop (o + i + l.length)
  | [], i, cs, h => by simp
  | x :: l, i, cs, h => by
    rw [List.zipIdx_cons, List.foldl_cons]
    simp only [List.length_cons] at h
    have hi : o + i < cs.toList.length := by rw [Array.length_toList]; omega
    rw [foldl_set o l (i + 1) _ (by simp; omega)]
    simp only [Array.toList_setIfInBounds, List.length_cons]
    rw [show o + (i + 1) = o + i + 1 by omega, List.take_set, List.take_add_one, List.drop_set]
    rw [if_pos (by omega)]
    have h1 : (cs.toList.take (o + i)).length = o + i := by rw [List.length_take]; omega
    rw [List.getElem?_eq_getElem hi]
    simp only [Option.toList_some]
    rw [List.set_append_right _ _ (by omega), h1]
    simp only [Nat.sub_self, List.set_cons_zero, List.append_assoc, List.cons_append, List.nil_append]
    rw [show o + i + 1 + l.length = o + i + (l.length + 1) by omega]
theorem fill_spec (ht : RT φ tm a) (pl : Nat → Option (Nat × Nat)) : ∀ (ps : List (Nat × Operand)) (qs : List (Nat × Nat × O)) (z l : List B) (cs : Array Value), partsOk pl ps qs = true →
    fillB z (qs.map fun p => (p.1, p.2.1, p.2.2.ev tm)) = some l → RBs φ z cs.toList → ∃ r, Instr.fill pl cs (ps.map fun x => (x.1, a.eval x.2)) = some r ∧ RBs φ l r.toList ∧ r.size = cs.size
  | [], [], z, l, cs, _, h, hz => by
    simp only [List.map_nil, fillB, Option.some.injEq] at h
    subst h
    exact ⟨cs, rfl, hz, rfl⟩
  | [], _ :: _, _, _, _, h, _, _ => by cases h
  | _ :: _, [], _, _, _, h, _, _ => by cases h
  | (i, x) :: ps, (o, n, y) :: qs, z, l, cs, hp, h, hz => by
    unfold partsOk at hp
    simp only [Bool.and_eq_true] at hp
    obtain ⟨⟨hp1, hp2⟩, hp3⟩ := hp
    have hx := opd_RV hp2 ht
    simp only [List.map_cons, fillB] at h
    split at hp1
    · next p q hpl =>
      rw [Bool.and_eq_true] at hp1
      have e1 := Nat.eq_of_beq_eq_true hp1.1
      have e2 := Nat.eq_of_beq_eq_true hp1.2
      subst e1 e2
      split at h
      · next lc hlc =>
        have hc := hx.cells hlc
        cases hb : Nat.beq lc.length q with
        | false => rw [hb] at h; cases h
        | true =>
          rw [hb] at h
          have hb := Nat.eq_of_beq_eq_true hb
          simp only [cond_true] at h
          split at h
          · next z' hz' =>
            obtain ⟨h1, h2⟩ := wr_spec p z lc z' _ _ hz' hz hc
            have hsz : (a.eval x).cells.size = q := by rw [← hb, hc.length, Array.length_toList]
            have hcs : z.length = cs.size := by rw [hz.length, Array.length_toList]
            have hfold : ((a.eval x).cells.zipIdx.foldl (fun cs x => cs.setIfInBounds (p + x.2) x.1) cs).toList = cs.toList.take p ++ (a.eval x).cells.toList ++ cs.toList.drop (p + (a.eval x).cells.toList.length) := by
              rw [← Array.foldl_toList, Array.toList_zipIdx]
              have := foldl_set p (a.eval x).cells.toList 0 cs (by rw [Array.length_toList]; omega)
              simpa using this
            have hsz2 : ((a.eval x).cells.zipIdx.foldl (fun cs x => cs.setIfInBounds (p + x.2) x.1) cs).size = cs.size := by
              rw [← Array.length_toList, hfold]
              simp only [List.length_append, List.length_take, List.length_drop, Array.length_toList]
              omega
            obtain ⟨r, hr1, hr2, hr3⟩ := fill_spec ht pl ps qs z' l _ hp3 h (by rw [hfold]; exact h2)
            refine ⟨r, ?_, hr2, by rw [hr3, hsz2]⟩
            simp only [List.map_cons, Instr.fill, hpl]
            rw [if_neg (by simp only [hsz, Bool.or_eq_true, decide_eq_true_eq]; simp; omega)]
            exact hr1
          · cases h
      · cases h
    · cases hp1
theorem placesOf_spec : ∀ (fs : List Field) (l : List (Nat × Nat)) (w : World), placesOf P fs = some l → (fs.mapM fun f => (do pure (f.offset, ← sizeOf f.type) : Sem (Nat × Nat))).run P w = .ok l w
  | [], l, w, h => by
    simp only [placesOf, Option.some.injEq] at h
    subst h
    simp
  | f :: fs, l, w, h => by
    unfold placesOf at h
    split at h
    · next i l' hi hl' =>
      cases h
      simp [sizeOf, typeInfo, hi]
      have := placesOf_spec fs l' w hl'
      simp only [sizeOf, typeInfo] at this
      simp at this
      rw [this]
      rfl
    · cases h
theorem q_build {op : Op} {z : List B} {ps : List (Nat × Nat × O)} (hi : impQ P op (.build z ps) = true) (h : stepQ (.build z ps) tm σ = some v) (ht : RT φ tm a) : YQ P w φ a op v := by
  simp only [impQ] at hi
  simp only [stepQ, qbuild] at h
  intro o ho
  split at hi
  · next t parts =>
    rw [Bool.and_eq_true] at hi
    obtain ⟨h1, h2⟩ := hi
    split at h1
    · next i hinf =>
      split at h1
      · next zv hzv =>
        split at h2
        · next fs hfs =>
          split at h2
          · next pl hpl =>
            split at h
            · next l hl =>
              cases h
              obtain ⟨r, e1, e2, -⟩ := fill_spec ht _ _ _ z l zv.cells h2 hl (kBs_RBs h1)
              refine ⟨.agg r, ?_, r, rfl, e2⟩
              have hm : (fs.mapM fun f => (do pure (f.offset, ← sizeOf f.type) : Sem (Nat × Nat))).run P w = .ok pl.toArray w := by
                rw [Array.mapM_eq_mapM_toList, Sem.run_map, placesOf_spec _ _ w hpl]
                rfl
              simp only [execOp, ho, Instr.build, zeroValue, typeInfo, Sem.run_bind, run_program, Result.andThen_ok, hinf, Sem.run_pure, hzv, run_underlying hfs, hm]
              have e3 : Instr.fill (fun x => pl.toArray[x]?) zv.cells (parts.map fun (x : Nat × Operand) => (x.1, a.eval x.2)).toList = some r := by
                rw [Array.toList_map, ← e1]
                congr 1
                funext x
                simp
              simp only [e3, Sem.run_pure, Result.andThen_ok]
            · cases h
          · cases h2
        · cases h2
      · cases h1
    · cases h1
  · cases hi
theorem capL_spec (ht : RT φ tm a) {x : Option Operand} {y : Option O} {d l : Nat} (h : opdO x y = true) (hc : capL y tm d = some l) :
    (x.map a.eval = none ∧ l = d) ∨ x.map a.eval = some (.int .i64 (l : Int)) := by
  unfold opdO at h
  split at h
  · simp only [capL, Option.some.injEq] at hc
    exact .inl ⟨rfl, hc.symm⟩
  · next x y =>
    simp only [capL] at hc
    have := opd_RV h ht
    rw [asN_spec hc] at this
    simp only [RV, RB] at this
    exact .inr (by simp [this])
  · cases h
theorem bounds_spec {len cap l h : Nat} {lo hi : Option Value} (h1 : (lo = none ∧ l = 0) ∨ lo = some (.int .i64 (l : Int))) (h2 : (hi = none ∧ h = len) ∨ hi = some (.int .i64 (h : Int))) (hlh : l ≤ h) (hc : h ≤ cap) :
    (Instr.sliceBounds true len cap lo hi none).run P w = .ok (l, h, cap) w := by
  have e1 : (l : Int) ≤ (h : Int) := by omega
  have e2 : (h : Int) ≤ (cap : Int) := by omega
  have e3 : (0 : Int) ≤ (h : Int) := by omega
  rcases h1 with ⟨rfl, rfl⟩ | rfl <;> rcases h2 with ⟨rfl, rfl⟩ | rfl <;>
    simp [Instr.sliceBounds, run_sliceBound, hlh, hc, e1, e2, e3]
theorem bounds3_spec {len cap h m : Nat} {lo : Option Value} (h1 : lo = none ∨ lo = some (.int .i64 (0 : Int))) (hm : h ≤ m) (hc : m ≤ cap) :
    (Instr.sliceBounds true len cap lo (some (.int .i64 (h : Int))) (some (.int .i64 (m : Int)))).run P w = .ok (0, h, m) w := by
  rcases h1 with rfl | rfl <;>
    simp [Instr.sliceBounds, run_sliceBound, (by omega : (h : Int) ≤ (m : Int)), (by omega : (m : Int) ≤ (cap : Int))]
theorem q_slice {op : Op} {e : Nat} {y : O} {lo' hi' mx' : Option O} (hi : impQ P op (.slice e y lo' hi' mx') = true) (h : stepQ (.slice e y lo' hi' mx') tm σ = some v) (ht : RT φ tm a) : YQ P w φ a op v := by
  simp only [impQ] at hi
  simp only [stepQ, qslice] at h
  intro o ho
  split at hi
  · next t x lo hh mx =>
    simp only [Bool.and_eq_true] at hi
    obtain ⟨⟨⟨⟨⟨i1, i2⟩, i3⟩, i4⟩, i5⟩, i6⟩ := hi
    split at i6
    · next el hel =>
      have hs := szOk_spec i6
      have hE : P.elem t = el := by simp [Program.elem, hel]
      have hE' : P.underlying t = some (.slice (P.elem t)) := by rw [hE]; exact hel
      have hx := opd_RV i1 ht
      have run : ∀ (A : Option Addr) (n K l h m : Nat), a.eval x = .slice A n K → (Instr.sliceBounds true n K (lo.map a.eval) (hh.map a.eval) (mx.map a.eval)).run P w = .ok (l, h, m) w →
          (execOp a.eval o).run P w = .ok (.value (sliced A l h m e)) w := fun A n K l h m hA hB => by
        simp only [execOp, ho, Sem.run_bind, hA]
        rw [run_sliceAt_slice w t _ _ _ _ hE', run_slice_any w t A n K hE', hB]
        simp [hE, hs]
      split at h
      · next b off n c ex =>
        rw [ex] at hx
        obtain ⟨p, K, hp, e2, hnK, hcap⟩ := hx
        split at h
        · next l q hl hq =>
          cases hb : (Nat.ble l q && Nat.ble q n) with
          | false => rw [hb] at h; cases h
          | true =>
            rw [hb] at h
            rw [Bool.and_eq_true] at hb
            have b1 := Nat.le_of_ble_eq_true hb.1
            have b2 := Nat.le_of_ble_eq_true hb.2
            have c1 := capL_spec ht i2 hl
            have c2 := capL_spec ht i3 hq
            simp only [cond_true] at h
            split at h
            · have hm0 : mx = none := by
                cases mx with
                | none => rfl
                | some m => simp [opdO] at i4
              have hB := bounds_spec (P := P) (w := w) (len := n) (cap := K) c1 c2 b1 (by omega)
              rw [hm0] at run
              have hrun := run _ n K l q K e2 hB
              split at h
              · next k =>
                cases hk : Nat.blt l k with
                | false => rw [hk] at h; cases h
                | true =>
                  rw [hk] at h
                  simp only [cond_true, fN_eq] at h
                  cases h
                  have hk : l < k := Nat.le_of_ble_eq_true hk
                  simp only [capOk] at hcap
                  subst hcap
                  refine ⟨_, hrun, p, K - l, hp, ?_, by omega, rfl⟩
                  simp only [sliced]
                  rw [if_neg (by omega)]
                  simp [Addr.add_lit]
              · cases hk : Nat.beq l 0 with
                | true =>
                  rw [hk] at h
                  cases h
                  have hk := Nat.eq_of_beq_eq_true hk
                  subst hk
                  refine ⟨_, hrun, p, K, hp, ?_, by omega, hcap⟩
                  simp only [sliced]
                  simp [Addr.add_lit]
                | false =>
                  rw [hk] at h
                  simp only [cond_false] at h
                  cases hk2 : Nat.blt l n with
                  | false => rw [hk2] at h; cases h
                  | true =>
                    rw [hk2] at h
                    simp only [cond_true, fN_eq] at h
                    cases h
                    have hk2 : l < n := Nat.le_of_ble_eq_true hk2
                    refine ⟨_, hrun, p, K - l, hp, ?_, by omega, trivial⟩
                    simp only [sliced]
                    rw [if_neg (by omega)]
                    simp [Addr.add_lit]
              · cases hk2 : Nat.blt l n with
                | false => rw [hk2] at h; cases h
                | true =>
                  rw [hk2] at h
                  simp only [cond_true, fN_eq] at h
                  cases h
                  have hk2 : l < n := Nat.le_of_ble_eq_true hk2
                  refine ⟨_, hrun, p, K - l, hp, ?_, by omega, trivial⟩
                  simp only [sliced]
                  rw [if_neg (by omega)]
                  simp [Addr.add_lit]
            · next y' =>
              split at h
              · next m hm =>
                cases hk : (Nat.ble q m && Nat.ble m n) with
                | false => rw [hk] at h; cases h
                | true =>
                  rw [hk] at h
                  simp only [cond_true] at h
                  cases hk0 : Nat.beq l 0 with
                  | false => rw [hk0] at h; cases h
                  | true =>
                    rw [hk0] at h
                    cases h
                    have hk0 := Nat.eq_of_beq_eq_true hk0
                    subst hk0
                    rw [Bool.and_eq_true] at hk
                    have k1 := Nat.le_of_ble_eq_true hk.1
                    have k2 := Nat.le_of_ble_eq_true hk.2
                    cases mx with
                    | none => simp [opdO] at i4
                    | some mm =>
                      have hmm : a.eval mm = .int .i64 (m : Int) := by
                        have := opd_RV i4 ht
                        rw [asN_spec hm] at this
                        exact this
                      cases hh with
                      | none => simp at i5
                      | some hv =>
                        have hhv : a.eval hv = .int .i64 (q : Int) := by
                          rcases c2 with ⟨c, _⟩ | c
                          · cases c
                          · simpa using c
                        have hB := bounds3_spec (P := P) (w := w) (len := n) (cap := K) (h := q) (m := m) (lo := lo.map a.eval) (c1.imp (·.1) id) k1 (by omega)
                        have hrun := run _ n K 0 q m e2 (by simpa [hmm, hhv] using hB)
                        refine ⟨_, hrun, p, m, hp, ?_, by omega, rfl⟩
                        simp only [sliced]
                        simp [Addr.add_lit]
              · cases h
        · cases h
      · next ex =>
        rw [ex] at hx
        have hx : a.eval x = .slice none 0 0 := hx
        split at h
        · next hl hq =>
          have c1 := capL_spec ht i2 hl
          have c2 := capL_spec ht i3 hq
          split at h
          · cases h
            have hm0 : mx = none := by
              cases mx with
              | none => rfl
              | some m => simp [opdO] at i4
            have hB := bounds_spec (P := P) (w := w) (len := 0) (cap := 0) (l := 0) (h := 0) c1 c2 (Nat.le_refl _) (Nat.le_refl _)
            rw [hm0] at run
            exact ⟨_, run _ 0 0 0 0 0 hx hB, rfl⟩
          · next y' =>
            split at h
            · next hm =>
              cases h
              cases mx with
              | none => simp [opdO] at i4
              | some mm =>
                have hmm : a.eval mm = .int .i64 ((0 : Nat) : Int) := by
                  have := opd_RV i4 ht
                  rw [asN_spec hm] at this
                  exact this
                cases hh with
                | none => simp at i5
                | some hv =>
                  have hhv : a.eval hv = .int .i64 ((0 : Nat) : Int) := by
                    rcases c2 with ⟨c, _⟩ | c
                    · cases c
                    · simpa using c
                  have hB := bounds3_spec (P := P) (w := w) (len := 0) (cap := 0) (h := 0) (m := 0) (lo := lo.map a.eval) (c1.imp (·.1) id) (Nat.le_refl _) (Nat.le_refl _)
                  exact ⟨_, run _ 0 0 0 0 0 hx (by simpa [hmm, hhv] using hB), rfl⟩
            · cases h
        · cases h
      · cases h
    · cases i6
  · cases hi

/-- An operation that only reads gives what the executor says. -/
theorem stepQ_spec [hPP : IsProg P] (hR : Rel N w0 φ σ w) {op : Op} {ao : AOp} (hi : impQ P op ao = true) (h : stepQ ao tm σ = some v) (ht : RT φ tm a) : YQ P w φ a op v := by
  cases ao
  case mov => exact q_mov hi h ht
  case pick => exact q_pick hi h ht
  case load => exact q_load hR hi h ht
  case lookup => exact q_lookup hR hi h ht
  case min2 => exact q_min2 hi h ht
  case faddr => exact q_faddr hi h ht
  case field => exact q_field hi h ht
  case iaddr => exact q_iaddr hi h ht
  case ext => exact q_ext hi h ht
  case bin => exact q_bin hi h ht
  case eqb => exact q_eqb hi h ht
  case eqagg => exact q_eqagg hi h ht
  case nil => exact q_nil hi h ht
  case not => exact q_not hi h ht
  case conv => exact q_conv hi h ht
  case build => exact q_build hi h ht
  case mkfn => exact q_mkfn hi h ht
  case len => exact q_len hi h ht
  case slice => exact q_slice hi h ht
  case nchk => exact q_nchk hi h ht
  case bad => simp [stepQ] at h
  all_goals cases hi
end
end Go.Proofs.Ex

set_option linter.unusedSimpArgs false
set_option linter.unusedVariables false
namespace Go.Proofs.Ex
open Go.RowKit Go.Proofs.Ins

def updP (φ : Ph) (b : Nat) (p : Nat × Nat) : Ph := fun i => if i = b then some p else φ i
theorem updP_self (φ : Ph) (b : Nat) (p : Nat × Nat) : updP φ b p b = some p := if_pos rfl
theorem updP_other (φ : Ph) {b i : Nat} (p : Nat × Nat) (h : i ≠ b) : updP φ b p i = φ i := if_neg h
theorem ext_updP (φ : Ph) (n : Nat) (p : Nat × Nat) : Ext n φ (updP φ n p) := fun b hb => updP_other φ p (by omega)

section
variable {P : Program} {N : Nat} {w0 w w' : World} {φ : Ph} {σ : St} {tm : Tr V} {a : Act} {v : V}

theorem bel_grown (h : Below N w0 w) (hN : N ≤ w.heap.size) {c : Nat} (hg : w.grownBy w' (some c)) (hc : N ≤ c) : Below N w0 w' :=
  h.grown hg hN (fun k hk => by cases hk; exact hc)
theorem BkOk.keep {k : Bk} {p : Nat × Nat} (h : BkOk φ k p w) (hp : w'.heap[p.1]? = w.heap[p.1]?) : BkOk φ k p w' := by
  rcases h with ⟨h0, cs, T, hc, r⟩ | ⟨h0, l, h1, h2⟩
  · exact .inl ⟨h0, cs, T, hp.trans hc, r⟩
  · exact .inr ⟨h0, l, h1, h2.keep hp⟩
theorem BkOk.ext {n : Nat} {φ' : Ph} (he : Ext n φ φ') (ho : Old n φ) {k : Bk} {p : Nat × Nat} (h : BkOk φ k p w) : BkOk φ' k p w := by
  rcases h with ⟨h0, cs, T, hc, hr, r⟩ | h
  · exact .inl ⟨h0, cs, T, hc, hr.ext he ho, r⟩
  · exact .inr h
/-- A block written. -/
theorem Rel.change (h : Rel N w0 φ σ w) {b : Nat} {p : Nat × Nat} {k : Bk} {h' : Tr Bk} (hp : φ b = some p) (hl : (σ.h.get b).isSome = true) (hput : Tr.put (some k) 40 σ.h b = some h')
    (hg : w.grownBy w' (some p.1)) (hk : BkOk φ k p w') : Rel N w0 φ ⟨h', σ.nxt⟩ w' := by
  have hget : ∀ j, h'.get j = if j = b then some k else σ.h.get j := fun j => Tr.get_put _ _ _ _ _ _ hput
  have hbn : b < σ.nxt := by
    refine Nat.lt_of_not_le fun hn => ?_
    rw [(h.nxt b hn).1] at hp
    cases hp
  refine ⟨h.n0, bel_grown h.bel h.size hg (h.lo b p hp).1, fun i j pi pj hi hj e li lj => ?_, fun i pi hi => ⟨(h.lo i pi hi).1, Nat.lt_of_lt_of_le (h.lo i pi hi).2 hg.size⟩, fun i k' pi hi hpi => ?_, fun i hi => ?_⟩
  · have live : ∀ i, (h'.get i).isSome = true → (σ.h.get i).isSome = true := fun i hi => by
      rw [hget] at hi
      split at hi
      · next e => rw [e]; exact hl
      · exact hi
    exact h.inj i j pi pj hi hj e (live i li) (live j lj)
  · change h'.get i = some k' at hi
    rw [hget] at hi
    split at hi
    · next e =>
      subst e
      cases hi
      rw [hp] at hpi
      cases hpi
      exact hk
    · next e =>
      refine (h.blk i k' pi hi hpi).keep (hg.block _ (h.lo i pi hpi).2 (fun e2 => ?_))
      have e2 : pi.1 = p.1 := by simpa using e2
      exact e (h.inj i b pi p hpi hp e2 (by rw [hi]; rfl) hl)
  · refine ⟨(h.nxt i hi).1, ?_⟩
    change h'.get i = none
    rw [hget, if_neg (by have : σ.nxt ≤ i := hi; omega)]
    exact (h.nxt i hi).2
/-- A block forgotten. -/
theorem Rel.kill (h : Rel N w0 φ σ w) {b : Nat} {h' : Tr Bk} (hput : Tr.put none 40 σ.h b = some h') : Rel N w0 φ ⟨h', σ.nxt⟩ w := by
  have hget : ∀ j, h'.get j = if j = b then none else σ.h.get j := fun j => Tr.get_put _ _ _ _ _ _ hput
  have live : ∀ i k, h'.get i = some k → σ.h.get i = some k ∧ i ≠ b := fun i k hi => by
    rw [hget] at hi
    split at hi
    · cases hi
    · next e => exact ⟨hi, e⟩
  refine ⟨h.n0, h.bel, fun i j pi pj hi hj e li lj => ?_, h.lo, fun i k' pi hi hpi => h.blk i k' pi (live i k' hi).1 hpi, fun i hi => ⟨(h.nxt i hi).1, ?_⟩⟩
  · obtain ⟨k, hk⟩ := Option.isSome_iff_exists.mp li
    obtain ⟨k2, hk2⟩ := Option.isSome_iff_exists.mp lj
    exact h.inj i j pi pj hi hj e (by rw [(live i k hk).1]; rfl) (by rw [(live j k2 hk2).1]; rfl)
  · show h'.get i = none
    rw [hget]
    split
    · rfl
    · exact (h.nxt i hi).2
theorem new_spec {σ' : St} {k : Bk} {b : Nat} (h : σ.new k = some (b, σ')) : b = σ.nxt ∧ σ'.nxt = σ.nxt + 1 ∧ ∀ j, σ'.h.get j = if j = σ.nxt then some k else σ.h.get j := by
  unfold St.new at h
  split at h
  · next h' hp =>
    rw [fN_eq] at h
    cases h
    exact ⟨rfl, rfl, fun j => Tr.get_put _ _ _ _ _ _ hp⟩
  · cases h
/-- A block more, where no block that is alive lies. -/
theorem Rel.new (h : Rel N w0 φ σ w) {σ' : St} {k : Bk} {b c C : Nat} (hn : σ.new k = some (b, σ')) (hg : w.grownBy w' (some c)) (hc : N ≤ c) (hcw : c < w'.heap.size)
    (hfree : ∀ i p, φ i = some p → (σ.h.get i).isSome = true → p.1 ≠ c) (hk : BkOk φ k (c, C) w') : Rel N w0 (updP φ b (c, C)) σ' w' := by
  obtain ⟨rfl, hnx, hget⟩ := new_spec hn
  have hE := ext_updP φ σ.nxt (c, C)
  refine ⟨h.n0, bel_grown h.bel h.size hg hc, fun i j pi pj hi hj e li lj => ?_, fun i pi hi => ?_, fun i k' pi hi hpi => ?_, fun i hi => ?_⟩
  · by_cases ei : i = σ.nxt <;> by_cases ej : j = σ.nxt
    · rw [ei, ej]
    · exfalso
      subst ei
      rw [updP_self] at hi
      rw [updP_other φ _ ej] at hj
      cases hi
      rw [hget, if_neg ej] at lj
      exact hfree j pj hj lj e.symm
    · exfalso
      subst ej
      rw [updP_self] at hj
      rw [updP_other φ _ ei] at hi
      cases hj
      rw [hget, if_neg ei] at li
      exact hfree i pi hi li e
    · rw [updP_other φ _ ei] at hi
      rw [updP_other φ _ ej] at hj
      rw [hget, if_neg ei] at li
      rw [hget, if_neg ej] at lj
      exact h.inj i j pi pj hi hj e li lj
  · by_cases ei : i = σ.nxt
    · subst ei
      rw [updP_self] at hi
      cases hi
      exact ⟨hc, hcw⟩
    · rw [updP_other φ _ ei] at hi
      exact ⟨(h.lo i pi hi).1, Nat.lt_of_lt_of_le (h.lo i pi hi).2 hg.size⟩
  · by_cases ei : i = σ.nxt
    · subst ei
      rw [updP_self] at hpi
      cases hpi
      rw [hget, if_pos rfl] at hi
      cases hi
      exact hk.ext hE h.old
    · rw [updP_other φ _ ei] at hpi
      rw [hget, if_neg ei] at hi
      refine ((h.blk i k' pi hi hpi).keep (hg.block _ (h.lo i pi hpi).2 (fun e2 => ?_))).ext hE h.old
      have e2 : pi.1 = c := by simpa using e2
      exact hfree i pi hpi (by rw [hi]; rfl) e2
  · rw [hnx] at hi
    rw [updP_other φ _ (by omega), hget, if_neg (by omega)]
    exact h.nxt i (by omega)
/-- A fresh block, named before: it comes to lie somewhere. -/
theorem Rel.land (h : Rel N w0 φ σ w) {k : Bk} {b C : Nat} {cs : Array Value} {T : TypeId} (hb : b < σ.nxt) (hf : φ b = none) (hk : σ.h.get b = some k) (ho : k.opn = none)
    (hr : RBs φ k.cells cs.toList) : Rel N w0 (updP φ b (w.heap.size, C)) σ (w.alloc (.cells cs T)) ∧ (∀ i, i ≠ b → updP φ b (w.heap.size, C) i = φ i) := by
  have hext : ∀ {l : List B} {r : List Value}, RBs φ l r → RBs (updP φ b (w.heap.size, C)) l r := by
    have h1 : ∀ {x : B} {v : Value}, RB φ x v → RB (updP φ b (w.heap.size, C)) x v := fun {x v} hv => by
      have hs : ∀ {i : Nat} {p : Nat × Nat}, φ i = some p → updP φ b (w.heap.size, C) i = some p := fun {i p} hi => by
        rw [updP_other φ _ (fun e => by rw [e, hf] at hi; cases hi)]; exact hi
      cases x <;> simp only [RB] at hv ⊢ <;> try exact hv
      case ptr => obtain ⟨p, hp, e⟩ := hv; exact ⟨p, hs hp, e⟩
      case sl => obtain ⟨p, K, hp, e, r⟩ := hv; exact ⟨p, K, hs hp, e, r⟩
      case mp => obtain ⟨p, hp, e⟩ := hv; exact ⟨p, hs hp, e⟩
    intro l r hv
    induction l generalizing r with
    | nil => cases r with
      | nil => trivial
      | cons => exact hv.elim
    | cons x l ih => cases r with
      | nil => exact hv.elim
      | cons v r => exact ⟨h1 hv.1, ih hv.2⟩
  have hg : w.grownBy (w.alloc (.cells cs T)) none := World.grownBy_alloc w _ none
  refine ⟨⟨h.n0, h.bel.grown hg h.size (fun k hk => by cases hk), fun i j pi pj hi hj e li lj => ?_, fun i pi hi => ?_, fun i k' pi hi hpi => ?_, fun i hi => ?_⟩, fun i hi => updP_other φ _ hi⟩
  · by_cases ei : i = b <;> by_cases ej : j = b
    · rw [ei, ej]
    · exfalso
      subst ei
      rw [updP_self] at hi
      rw [updP_other φ _ ej] at hj
      cases hi
      have := (h.lo j pj hj).2
      simp only at e
      omega
    · exfalso
      subst ej
      rw [updP_self] at hj
      rw [updP_other φ _ ei] at hi
      cases hj
      have := (h.lo i pi hi).2
      simp only at e
      omega
    · rw [updP_other φ _ ei] at hi
      rw [updP_other φ _ ej] at hj
      exact h.inj i j pi pj hi hj e li lj
  · by_cases ei : i = b
    · subst ei
      rw [updP_self] at hi
      cases hi
      exact ⟨h.size, by simp⟩
    · rw [updP_other φ _ ei] at hi
      exact ⟨(h.lo i pi hi).1, Nat.lt_of_lt_of_le (h.lo i pi hi).2 hg.size⟩
  · by_cases ei : i = b
    · subst ei
      rw [updP_self] at hpi
      cases hpi
      rw [hk] at hi
      cases hi
      refine .inl ⟨by unfold Bk.pl; rw [ho], cs, T, heap_alloc_new w _, ?_, ?_, fun e t h0 => by rw [ho] at h0; cases h0⟩
      · rw [List.take_of_length_le (by rw [hr.length]; exact Nat.le_refl _)]
        exact hext hr
      · rw [hr.length, Array.length_toList]; exact Nat.le_refl _
    · rw [updP_other φ _ ei] at hpi
      rcases h.blk i k' pi hi hpi with ⟨h0, cs', T', h1, h2, h3⟩ | ⟨h0, l, h1, h2⟩
      · exact .inl ⟨h0, cs', T', (hg.block _ (h.lo i pi hpi).2 (by simp)).trans h1, hext h2, h3⟩
      · exact .inr ⟨h0, l, h1, h2.keep (hg.block _ (h.lo i pi hpi).2 (by simp))⟩
  · rw [updP_other φ _ (by omega)]
    exact h.nxt i hi
end
end Go.Proofs.Ex

set_option linter.unusedSimpArgs false
set_option linter.unusedVariables false
namespace Go.Proofs.Ex
open Go.RowKit Go.Proofs.Ins

def zeroOk (P : Program) (t : TypeId) (z : List B) : Bool := match P.info? t with | some i => (match i.zero with | some zv => kBs zv.cells.toList z | none => false) | none => false
def impN (P : Program) (op : Op) : AOp → Bool
  | .alloc z => (match op with | .alloc e => zeroOk P e z | _ => false)
  | .box y => (match op with | .box _ x => opd x y | _ => false)
  | .mksl bytes z l' c' => (match op with | .makeSlice t l c => opd l l' && opd c c' && (match P.underlying t with
      | some (.slice el) => zeroOk P el z && szOk P el z.length && (match P.info? el with | some i => Nat.beq i.bytes bytes | none => false) | _ => false) | _ => false)
  | .bsl e n z ps => (match op with | .buildSlice t len parts => Nat.beq len n && Nat.beq z.length e && partsOk (fun i => some (i * e, e)) parts.toList ps && (match P.underlying t with
      | some (.slice el) => zeroOk P el z && szOk P el e | _ => false) | _ => false)
  | _ => false
theorem zeroOk_spec {P : Program} {t : TypeId} {z : List B} (h : zeroOk P t z = true) : ∃ i zv, P.info? t = some i ∧ i.zero = some zv ∧ ∀ φ, RBs φ z zv.cells.toList := by
  unfold zeroOk at h
  split at h
  · next i hi =>
    split at h
    · next zv hz => exact ⟨i, zv, hi, hz, fun φ => kBs_RBs h⟩
    · cases h
  · cases h
theorem size_kBs {r : Array Value} {l : List B} (h : RBs (fun _ => none) l r.toList) : r.size = l.length := by rw [h.length, Array.length_toList]

theorem getBang_mod (z : Array Value) (i : Nat) : z[(i + z.size) % z.size]! = z[i % z.size]! := by rw [Nat.add_mod_right]
theorem made_rep {φ : Ph} (z : Array Value) (l : List B) (h : RBs φ l z.toList) : ∀ m, RBs φ (rep l m) ((Array.range (m * z.size)).map (z[· % z.size]!)).toList
  | 0 => by simp [rep, RBs]
  | m + 1 => by
    have ih := made_rep z l h m
    have e : ((Array.range ((m + 1) * z.size)).map (z[· % z.size]!)).toList = z.toList ++ ((Array.range (m * z.size)).map (z[· % z.size]!)).toList := by
      apply List.ext_getElem
      · simp [Nat.add_mul, Nat.add_comm]
      · intro i h1 h2
        rw [List.getElem_append]
        split
        · next hlt =>
          have hlt' : i < z.size := by simpa using hlt
          simp [Nat.mod_eq_of_lt hlt', hlt']
        · next hge =>
          have hge' : z.size ≤ i := by simpa using hge
          simp only [Array.length_toList, Array.toList_map, List.getElem_map, Array.getElem_toList, Array.getElem_range]
          conv => lhs; rw [show i = i - z.size + z.size by omega, getBang_mod]
    rw [e]
    exact h.append ih

section
variable {P : Program} {N : Nat} {w0 w : World} {φ : Ph} {σ : St} {tm : Tr V} {a : Act} {v : V}
/-- What is to be shown of an operation that makes a block. -/
def YN (P : Program) (w : World) (φ : Ph) (a : Act) (op : Op) (l : List B) (vf : Nat → V) : Prop :=
  ∀ o : Oper, o.op = op → ∃ cs T cv, (execOp a.eval o).run P w = .ok (.value cv) (w.alloc (.cells cs T)) ∧ RBs φ l cs.toList ∧ ∀ φ' b, φ' b = some (w.heap.size, 0) → RV φ' (vf b) cv

theorem n_alloc {op : Op} {z : List B} {l : List B} {vf : Nat → V} (hi : impN P op (.alloc z) = true) (h : stepN (.alloc z) tm = some (l, vf)) : YN P w φ a op l vf := by
  simp only [impN] at hi
  simp only [stepN, Option.some.injEq, Prod.mk.injEq] at h
  obtain ⟨rfl, rfl⟩ := h
  intro o ho
  split at hi
  · next e =>
    obtain ⟨i, zv, h1, h2, h3⟩ := zeroOk_spec hi
    exact ⟨zv.cells, e, .pointer (some ⟨w.heap.size, 0, none⟩), by simp [execOp, ho, Instr.alloc, zeroValue, typeInfo, h1, h2, newVar, newRow], h3 φ, fun φ' b hb => ⟨_, hb, rfl⟩⟩
  · cases hi
theorem n_box {op : Op} {y : O} {l : List B} {vf : Nat → V} (hi : impN P op (.box y) = true) (h : stepN (.box y) tm = some (l, vf)) (ht : RT φ tm a) : YN P w φ a op l vf := by
  simp only [impN] at hi
  simp only [stepN] at h
  intro o ho
  split at hi
  · next e x =>
    have hx := opd_RV hi ht
    split at h
    · next l' hl =>
      cases h
      exact ⟨(a.eval x).cells, e, .pointer (some ⟨w.heap.size, 0, none⟩), by simp [execOp, ho, Instr.box, newVar, newRow], hx.cells hl, fun φ' b hb => ⟨_, hb, rfl⟩⟩
    · cases h
  · cases hi
theorem n_mksl {op : Op} {bytes : Nat} {z : List B} {x y : O} {l : List B} {vf : Nat → V} (hi : impN P op (.mksl bytes z x y) = true) (h : stepN (.mksl bytes z x y) tm = some (l, vf)) (ht : RT φ tm a) : YN P w φ a op l vf := by
  simp only [impN] at hi
  simp only [stepN] at h
  intro o ho
  split at hi
  · next t X Y =>
    simp only [Bool.and_eq_true] at hi
    have hx := opd_RV hi.1.1 ht
    have hy := opd_RV hi.1.2 ht
    have h2 := hi.2
    split at h2
    · next el hel =>
      simp only [Bool.and_eq_true] at h2
      obtain ⟨⟨z1, z2⟩, z3⟩ := h2
      obtain ⟨i, zv, e1, e2, e3⟩ := zeroOk_spec z1
      rw [e1] at z3
      have z3 := Nat.eq_of_beq_eq_true z3
      have hsz : i.size = z.length := by
        unfold szOk at z2
        rw [e1] at z2
        exact Nat.eq_of_beq_eq_true z2
      have hzs : zv.cells.size = z.length := size_kBs (e3 _)
      split at h
      · next n m hn hm =>
        rw [asN_spec hn] at hx
        rw [asN_spec hm] at hy
        simp only [RV, RB] at hx hy
        cases hb : (Nat.ble n m && (Nat.ble (bytes * m) 281474976710656 && Nat.ble m 1073741824)) with
        | false => rw [hb] at h; cases h
        | true =>
          rw [hb] at h
          cases h
          simp only [Bool.and_eq_true] at hb
          have b1 := Nat.le_of_ble_eq_true hb.1
          have b2 := Nat.le_of_ble_eq_true hb.2.1
          have b3 := Nat.le_of_ble_eq_true hb.2.2
          have hrun := run_make (P := P) w t el i zv hel e1 e2 .i64 .i64 (n : Int) (m : Int) (by omega) (by omega) (by rw [z3]; have := b2; omega) (by omega)
          refine ⟨madeCells zv.cells (m * i.size), el, .slice (some ⟨w.heap.size, 0, none⟩) n m, ?_, ?_, fun φ' b hb => ⟨_, m, hb, rfl, b1, rfl⟩⟩
          · simp only [execOp, ho, hx, hy, Sem.run_bind]
            simp only [Int.ofNat_eq_natCast]
            rw [hrun]
            rfl
          · have := made_rep zv.cells z (e3 φ) m
            rw [hzs] at this
            simpa [madeCells, hsz, hzs] using this
      · cases h
    · cases h2
  · cases hi
theorem n_bsl {op : Op} {e n : Nat} {z : List B} {ps : List (Nat × Nat × O)} {l : List B} {vf : Nat → V} (hi : impN P op (.bsl e n z ps) = true) (h : stepN (.bsl e n z ps) tm = some (l, vf)) (ht : RT φ tm a) : YN P w φ a op l vf := by
  simp only [impN] at hi
  simp only [stepN] at h
  intro o ho
  split at hi
  · next t len parts =>
    simp only [Bool.and_eq_true] at hi
    obtain ⟨⟨⟨i1, i2⟩, i3⟩, i4⟩ := hi
    have i1 := Nat.eq_of_beq_eq_true i1
    have i2 := Nat.eq_of_beq_eq_true i2
    subst i1
    split at i4
    · next el hel =>
      rw [Bool.and_eq_true] at i4
      obtain ⟨i, zv, e1, e2, e3⟩ := zeroOk_spec i4.1
      have hs := szOk_spec i4.2 w
      have hzs : zv.cells.size = z.length := size_kBs (e3 _)
      cases hb : Nat.ble (len * e) 16777216 with
      | false => rw [hb] at h; cases h
      | true =>
        rw [hb] at h
        have hb := Nat.le_of_ble_eq_true hb
        simp only [cond_true] at h
        split at h
        · next l' hl =>
          cases h
          have hz0 : RBs φ (rep z len) ((Array.range (len * e)).map (zv.cells[· % zv.cells.size]!)).toList := by
            have := made_rep zv.cells z (e3 φ) len
            rwa [show zv.cells.size = e by rw [hzs, i2]] at this ⊢
          obtain ⟨r, f1, f2, -⟩ := fill_spec ht _ _ _ _ _ _ i3 hl hz0
          refine ⟨r, el, .slice (some ⟨w.heap.size, 0, none⟩) len len, ?_, f2, fun φ' b hb => ⟨_, len, hb, rfl, Nat.le_refl _, rfl⟩⟩
          have hpar : (parts.map fun (x : Nat × Operand) => (x.1, a.eval x.2)).toList = parts.toList.map fun x => (x.1, a.eval x.2) := by simp
          simp only [execOp, ho, Instr.buildSlice, Sem.run_bind, run_underlying hel, Result.andThen_ok, hs, Sem.run_ite]
          rw [if_neg (by omega)]
          by_cases h0 : len * e = 0
          · have hemp : ((Array.range (len * e)).map (zv.cells[· % zv.cells.size]!)) = #[] := by rw [h0, Array.range_zero']; simp
            rw [hemp] at f1
            simp [h0, Array.range_zero', f1, hpar, newRow]
          · simp [h0, zeroValue, typeInfo, e1, e2, f1, hpar, newRow]
        · cases h
    · cases i4
  · cases hi
theorem stepN_spec {op : Op} {ao : AOp} {l : List B} {vf : Nat → V} (hi : impN P op ao = true) (h : stepN ao tm = some (l, vf)) (ht : RT φ tm a) : YN P w φ a op l vf := by
  cases ao
  case alloc => exact n_alloc hi h
  case box => exact n_box hi h ht
  case mksl => exact n_mksl hi h ht
  case bsl => exact n_bsl hi h ht
  all_goals cases hi
end
end Go.Proofs.Ex
