/- The bJ: stores and appends. -/
import Derived.Test.YtjonjhcaniinaaaGreatDoorZ11
import Derived.Laws.OwnMore
set_option linter.all false
namespace Go.Proofs.Xe
open Go.RowKit Go.Proofs.Ins
def Dp (φ:Ph) (b:Nat) (p:Nat×Nat):Ph:=fun i=>if i=b then some p else φ i
theorem gV (φ:Ph) (b:Nat) (p:Nat×Nat):Dp φ b p b=some p:=if_pos rfl
theorem dP (φ:Ph) {b i:Nat} (p:Nat×Nat) (h:i≠b):Dp φ b p i=φ i:=if_neg h
theorem wG (φ:Ph) (n:Nat) (p:Nat×Nat):Ext n φ (Dp φ n p):=fun b hb=>dP φ p jb
section
variable {P:Program} {N:Nat} {w0 w w' : World} {φ:Ph} {σ:St} {tm:Tr V} {a:Act} {v:V}
theorem NI (h:Below N w0 w) (hN:N≤w.heap.size) {c:Nat} (hg:w.grownBy w' (some c)) (hc:N≤c):Below N w0 w' :=
 h.grown hg hN (fun k hk=>by cases hk;exact hc)
theorem Ez.keep {k:Bk} {p:Nat×Nat} (h:Ez φ k p w) (hp:w'.heap[p.1]?=w.heap[p.1]?):Ez φ k p w':=by
 rcases h with ⟨h0,cs,T,hc,r⟩|⟨h0,h00,l,h1,h2⟩|⟨h0,h00,h1⟩
 ·exact .inl ⟨h0,cs,T,hp.trans hc,r⟩
 ·exact .inr (.inl ⟨h0,h00,l,h1,h2.keep hp⟩)
 ·refine .inr (.inr ⟨h0,h00,fun j x hx hkn=>?_⟩)
  obtain ⟨v,hv,hr⟩:=h1 j x hx hkn
  exact ⟨v,by rw [World.cell?_of_block (w:=w) (a:=⟨p.1,j,none⟩) hp];exact hv,hr⟩
theorem Ez.ext {n:Nat} {φ' : Ph} (he:Ext n φ φ') (ho:Old n φ) {k:Bk} {p:Nat×Nat} (h:Ez φ k p w):Ez φ' k p w:=by
 rcases h with ⟨h0,cs,T,hc,hr,r⟩|h|⟨h0,h00,h1⟩
 ·exact .inl ⟨h0,cs,T,hc,hr.ext he ho,r⟩
 ·exact .inr (.inl h)
 ·refine .inr (.inr ⟨h0,h00,fun j x hx hkn=>?_⟩)
  obtain ⟨v,hv,hr⟩:=h1 j x hx hkn
  exact ⟨v,hv,hr.ext he ho⟩
theorem Rel.change (h:Rel N w0 φ σ w) {b:Nat} {p:Nat×Nat} {k:Bk} {h' : Tr Bk} (hp:φ b=some p) (hl:(σ.h.get b).isSome=true) (hput:Tr.put (some k) 40 σ.h b=some h')
  (hN:N≤p.1) (hg:w.grownBy w' (some p.1)) (hk:Ez φ k p w'):Rel N w0 φ ⟨h',σ.ah⟩ w':=by
 have hget : ∀ j,h'.get j=if j=b then some k else σ.h.get j:=fun j=>Tr.get_put _ _ _ _ _ _ hput
 have hbn:b<σ.ah:=by
  refine Nat.lt_of_not_le fun hn=>?_
  rw [(h.ah b hn).1] at hp
  cases hp
 refine ⟨h.n0,NI h.bel h.size hg hN,fun i j pi pj hi hj e hNi li lj=>?_,fun i pi hi=>Nat.lt_of_lt_of_le (h.lo i pi hi) hg.size,fun i k' pi hi hpi hlt=>?_,fun i k' pi hi hpi=>?_,fun i hi=>?_⟩
 ·have live : ∀ i,(h'.get i).isSome=true→(σ.h.get i).isSome=true:=fun i hi=>by
   rw [hget] at hi
   split at hi
   ·next e=>rw [e];exact hl
   ·exact hi
  exact h.inj i j pi pj hi hj e hNi (live i li) (live j lj)
 ·change h'.get i=some k' at hi
  rw [hget] at hi
  split at hi
  ·next e =>
   subst e
   rw [hp] at hpi
   cases hpi
   omega
  ·exact h.fz i k' pi hi hpi hlt
 ·change h'.get i=some k' at hi
  rw [hget] at hi
  split at hi
  ·next e =>
   subst e
   cases hi
   rw [hp] at hpi
   cases hpi
   exact hk
  ·next e =>
   refine (h.blk i k' pi hi hpi).keep (hg.block _ (h.lo i pi hpi) (fun e2=>?_))
   have e2:pi.1=p.1:=by simpa using e2
   exact e (h.inj i b pi p hpi hp e2 jb (by rw [hi];rfl) hl)
 ·refine ⟨(h.ah i hi).1,?_⟩
  change h'.get i=none
  rw [hget,if_neg (by have:σ.ah≤i:=hi;omega)]
  exact (h.ah i hi).2
theorem Rel.kill (h:Rel N w0 φ σ w) {b:Nat} {h' : Tr Bk} (hput:Tr.put none 40 σ.h b=some h'):Rel N w0 φ ⟨h',σ.ah⟩ w:=by
 have hget : ∀ j,h'.get j=if j=b then none else σ.h.get j:=fun j=>Tr.get_put _ _ _ _ _ _ hput
 have live : ∀ i k,h'.get i=some k→σ.h.get i=some k∧i≠b:=fun i k hi=>by
  rw [hget] at hi
  split at hi
  ·cases hi
  ·next e=>exact ⟨hi,e⟩
 refine ⟨h.n0,h.bel,fun i j pi pj hi hj e hNi li lj=>?_,h.lo,fun i k' pi hi hpi hlt=>h.fz i k' pi (live i k' hi).1 hpi hlt,fun i k' pi hi hpi=>h.blk i k' pi (live i k' hi).1 hpi,fun i hi=>⟨(h.ah i hi).1,?_⟩⟩
 ·obtain ⟨k,hk⟩:=Option.isSome_iff_exists.mp li
  obtain ⟨k2,hk2⟩:=Option.isSome_iff_exists.mp lj
  exact h.inj i j pi pj hi hj e hNi (by rw [(live i k hk).1];rfl) (by rw [(live j k2 hk2).1];rfl)
 ·show h'.get i=none
  rw [hget]
  split
  ·rfl
  ·exact (h.ah i hi).2
theorem sW {σ' : St} {k:Bk} {b:Nat} (h:σ.new k=some (b,σ')):b=σ.ah∧σ'.ah=σ.ah+1∧∀ j,σ'.h.get j=if j=σ.ah then some k else σ.h.get j:=by
 unfold St.new at h
 split at h
 ·next h' hp =>
  rw [iY] at h
  cases h
  exact ⟨rfl,rfl,fun j=>Tr.get_put _ _ _ _ _ _ hp⟩
 ·cases h
theorem Rel.new (h:Rel N w0 φ σ w) {σ' : St} {k:Bk} {b c C:Nat} (hn:σ.new k=some (b,σ')) (hg:w.grownBy w' (some c)) (hc:N≤c) (hcw:c<w'.heap.size)
  (hfree : ∀ i p,φ i=some p→(σ.h.get i).isSome=true→p.1≠c) (hk:Ez φ k (c,C) w'):Rel N w0 (Dp φ b (c,C)) σ' w':=by
 obtain ⟨rfl,hnx,hget⟩:=sW hn
 have hE:=wG φ σ.ah (c,C)
 refine ⟨h.n0,NI h.bel h.size hg hc,fun i j pi pj hi hj e hNi li lj=>?_,fun i pi hi=>?_,fun i k' pi hi hpi hlt=>?_,fun i k' pi hi hpi=>?_,fun i hi=>?_⟩
 ·by_cases ei:i=σ.ah <;> by_cases ej:j=σ.ah
  ·rw [ei,ej]
  ·exfalso
   subst ei
   rw [gV] at hi
   rw [dP φ _ ej] at hj
   cases hi
   rw [hget,if_neg ej] at lj
   exact hfree j pj hj lj e.symm
  ·exfalso
   subst ej
   rw [gV] at hj
   rw [dP φ _ ei] at hi
   cases hj
   rw [hget,if_neg ei] at li
   exact hfree i pi hi li e
  ·rw [dP φ _ ei] at hi
   rw [dP φ _ ej] at hj
   rw [hget,if_neg ei] at li
   rw [hget,if_neg ej] at lj
   exact h.inj i j pi pj hi hj e hNi li lj
 ·by_cases ei:i=σ.ah
  ·subst ei
   rw [gV] at hi
   cases hi
   exact hcw
  ·rw [dP φ _ ei] at hi
   exact Nat.lt_of_lt_of_le (h.lo i pi hi) hg.size
 ·by_cases ei:i=σ.ah
  ·subst ei
   rw [gV] at hpi
   cases hpi
   simp only at hlt
   omega
  ·rw [dP φ _ ei] at hpi
   rw [hget,if_neg ei] at hi
   exact h.fz i k' pi hi hpi hlt
 ·by_cases ei:i=σ.ah
  ·subst ei
   rw [gV] at hpi
   cases hpi
   rw [hget,if_pos rfl] at hi
   cases hi
   exact hk.ext hE h.old
  ·rw [dP φ _ ei] at hpi
   rw [hget,if_neg ei] at hi
   refine ((h.blk i k' pi hi hpi).keep (hg.block _ (h.lo i pi hpi) (fun e2=>?_))).ext hE h.old
   have e2:pi.1=c:=by simpa using e2
   exact hfree i pi hpi (by rw [hi];rfl) e2
 ·rw [hnx] at hi
  rw [dP φ _ jb,hget,if_neg jb]
  exact h.ah i jb
theorem Rel.land (h:Rel N w0 φ σ w) {k:Bk} {b C:Nat} {cs:Array Value} {T:TypeId} (hb:b<σ.ah) (hf:φ b=none) (hk:σ.h.get b=some k) (ho:k.opn=none)
  (hr:kL φ k.cells cs.toList):Rel N w0 (Dp φ b (w.heap.size,C)) σ (w.alloc (.cells cs T))∧(∀ i,i≠b→Dp φ b (w.heap.size,C) i=φ i):=by
 have akg : ∀ {x:B} {v:Value},RB φ x v→RB (Dp φ b (w.heap.size,C)) x v:=fun {x v} hv=>by
  have hs : ∀ {i:Nat} {p:Nat×Nat},φ i=some p→Dp φ b (w.heap.size,C) i=some p:=fun {i p} hi=>by
   rw [dP φ _ (fun e=>by rw [e,hf] at hi;cases hi)];exact hi
  cases x <;> simp only [RB] at hv ⊢ <;> try exact hv
  case ptr=>obtain ⟨p,hp,e⟩:=hv;exact ⟨p,hs hp,e⟩
  case sl =>
   rcases hv with ⟨p,K,hp,e,r⟩|hv
   ·exact .inl ⟨p,K,hs hp,e,r⟩
   ·exact .inr hv
  case mp=>obtain ⟨p,hp,e⟩:=hv;exact ⟨p,hs hp,e⟩
 have hext : ∀ {l:List B} {r:List Value},kL φ l r→kL (Dp φ b (w.heap.size,C)) l r:=by
  intro l r hv
  induction l generalizing r with
  | nil=>cases r with
   | nil=>trivial
   | cons=>exact hv.elim
  | cons x l ih=>cases r with
   | nil=>exact hv.elim
   | cons v r=>exact ⟨akg hv.1,ih hv.2⟩
 have hg:w.grownBy (w.alloc (.cells cs T)) none:=World.grownBy_alloc w _ none
 refine ⟨⟨h.n0,h.bel.grown hg h.size (fun k hk=>by cases hk),fun i j pi pj hi hj e hNi li lj=>?_,fun i pi hi=>?_,fun i k' pi hi hpi hlt=>?_,fun i k' pi hi hpi=>?_,fun i hi=>?_⟩,fun i hi=>dP φ _ hi⟩
 ·by_cases ei:i=b <;> by_cases ej:j=b
  ·rw [ei,ej]
  ·exfalso
   subst ei
   rw [gV] at hi
   rw [dP φ _ ej] at hj
   cases hi
   have:=h.lo j pj hj
   simp only at e
   omega
  ·exfalso
   subst ej
   rw [gV] at hj
   rw [dP φ _ ei] at hi
   cases hj
   have:=h.lo i pi hi
   simp only at e
   omega
  ·rw [dP φ _ ei] at hi
   rw [dP φ _ ej] at hj
   exact h.inj i j pi pj hi hj e hNi li lj
 ·by_cases ei:i=b
  ·subst ei
   rw [gV] at hi
   cases hi
   simp
  ·rw [dP φ _ ei] at hi
   exact Nat.lt_of_lt_of_le (h.lo i pi hi) hg.size
 ·by_cases ei:i=b
  ·subst ei
   rw [gV] at hpi
   cases hpi
   have:=h.size
   simp only at hlt
   omega
  ·rw [dP φ _ ei] at hpi
   exact h.fz i k' pi hi hpi hlt
 ·by_cases ei:i=b
  ·subst ei
   rw [gV] at hpi
   cases hpi
   rw [hk] at hi
   cases hi
   refine .inl ⟨by unfold Bk.pl;rw [ho],cs,T,heap_alloc_new w _,?_,?_,fun e t h0=>by rw [ho] at h0;cases h0⟩
   ·rw [List.take_of_length_le (by rw [hr.length];exact jp)]
    exact hext hr
   ·rw [hr.length,Array.length_toList];exact jp
  ·rw [dP φ _ ei] at hpi
   rcases h.blk i k' pi hi hpi with ⟨h0,cs',T',h1,h2,h3⟩|⟨h0,h00,l,h1,h2⟩|⟨h0,h00,h1⟩
   ·exact .inl ⟨h0,cs',T',(hg.block _ (h.lo i pi hpi) kc).trans h1,hext h2,h3⟩
   ·exact .inr (.inl ⟨h0,h00,l,h1,h2.keep (hg.block _ (h.lo i pi hpi) kc)⟩)
   ·refine .inr (.inr ⟨h0,h00,fun j x hx hkn=>?_⟩)
    obtain ⟨v,hv,hr⟩:=h1 j x hx hkn
    exact ⟨v,by rw [World.cell?_of_block (w:=w) (a:=⟨pi.1,j,none⟩) (hg.block _ (h.lo i pi hpi) kc)];exact hv,akg hr⟩
 ·rw [dP φ _ jb]
  exact h.ah i hi
end
def Jy (P:Program) (t:TypeId) (z:List B):Bool:=match P.info? t with|some i=>(match i.zero with|some zv=>kBs zv.cells.toList z|none=>false)|none=>false
def Mc (P:Program) (op:Op):qL→Bool
 | .alloc z=>(match op with|.alloc e=>Jy P e z|_=>false)
 | .box y=>(match op with|.box _ x=>uq x y|_=>false)
 | .Gs bytes z l' c'=>(match op with|.makeSlice t l c=>uq l l' && uq c c' && (match P.underlying t with
   | some (.slice el)=>Jy P el z && PI P el z.length && (match P.info? el with|some i=>Nat.beq i.bytes bytes|none=>false)|_=>false)|_=>false)
 | .bsl e n z ps=>(match op with|.buildSlice t len parts=>Nat.beq len n && Nat.beq z.length e && Dl (fun i=>some (i*e,e)) parts.toList ps && (match P.underlying t with
   | some (.slice el)=>Jy P el z && PI P el e|_=>false)|_=>false)
 | _=>false
theorem yN {P:Program} {t:TypeId} {z:List B} (h:Jy P t z=true) : ∃ i zv,P.info? t=some i∧i.zero=some zv∧∀ φ,kL φ z zv.cells.toList:=by
 unfold Jy at h
 split at h
 ·next i hi =>
  split at h
  ·next zv hz=>exact ⟨i,zv,hi,hz,fun φ=>Hr h⟩
  ·cases h
 ·cases h
theorem Ti {r:Array Value} {l:List B} (h:kL (fun _=>none) l r.toList):r.size=l.length:=by rw [h.length,Array.length_toList]
theorem Tj (z:Array Value) (i:Nat):z[(i+z.size)%z.size]! = z[i%z.size]!:=by rw [Nat.add_mod_right]
theorem Jz {φ:Ph} (z:Array Value) (l:List B) (h:kL φ l z.toList) : ∀ m,kL φ (rep l m) ((Array.range (m*z.size)).map (z[· % z.size]!)).toList
 | 0=>by simp [rep,kL]
 | m+1=>by
  have ih:=Jz z l h m
  have e:((Array.range ((m+1)*z.size)).map (z[· % z.size]!)).toList=z.toList ++ ((Array.range (m*z.size)).map (z[· % z.size]!)).toList:=by
   apply List.ext_getElem
   ·simp [Nat.add_mul,Nat.add_comm]
   ·intro i h1 h2
    rw [List.getElem_append]
    split
    ·next hlt =>
     have hlt' : i<z.size:=by simpa using hlt
     simp [Nat.mod_eq_of_lt hlt',hlt']
    ·next hge =>
     have hge' : z.size≤i:=by simpa using hge
     simp only [Array.length_toList,Array.toList_map,List.getElem_map,Array.getElem_toList,Array.getElem_range]
     conv=>lhs;rw [show i=i - z.size+z.size by omega,Tj]
  rw [e]
  exact h.append ih
section
variable {P:Program} {N:Nat} {w0 w:World} {φ:Ph} {σ:St} {tm:Tr V} {a:Act} {v:V}
def YN (P:Program) (w:World) (φ:Ph) (a:Act) (op:Op) (l:List B) (vf:Nat→V):Prop :=
 ∀ o:Oper,o.op=op→∃ cs T cv,(execOp a.eval o).run P w = .ok (.value cv) (w.alloc (.cells cs T))∧kL φ l cs.toList∧∀ φ' b,φ' b=some (w.heap.size,0)→RV φ' (vf b) cv
theorem ahs {op:Op} {z:List B} {l:List B} {vf:Nat→V} (hi:Mc P op (.alloc z)=true) (h:kC (.alloc z) tm=some (l,vf)):YN P w φ a op l vf:=by
 simp only [Mc] at hi
 simp only [kC,Option.some.injEq,Prod.mk.injEq] at h
 obtain ⟨rfl,rfl⟩:=h
 intro o ho
 split at hi
 ·next e =>
  obtain ⟨i,zv,h1,h2,h3⟩:=yN hi
  exact ⟨zv.cells,e,.pointer (some ⟨w.heap.size,0,none⟩),by simp [execOp,ho,Instr.alloc,zeroValue,typeInfo,h1,h2,newVar,newRow],h3 φ,fun φ' b hb=>⟨_,hb,rfl⟩⟩
 ·cases hi
theorem aoX {op:Op} {y:O} {l:List B} {vf:Nat→V} (hi:Mc P op (.box y)=true) (h:kC (.box y) tm=some (l,vf)) (ht:RT φ tm a):YN P w φ a op l vf:=by
 simp only [Mc] at hi
 simp only [kC] at h
 intro o ho
 split at hi
 ·next e x =>
  have hx:=bV hi ht
  split at h
  ·next l' hl =>
   cases h
   exact ⟨(a.eval x).cells,e,.pointer (some ⟨w.heap.size,0,none⟩),by simp [execOp,ho,Instr.box,newVar,newRow],hx.cells hl,fun φ' b hb=>⟨_,hb,rfl⟩⟩
  ·cases h
 ·cases hi
theorem aln {op:Op} {bytes:Nat} {z:List B} {x y:O} {l:List B} {vf:Nat→V} (hi:Mc P op (.Gs bytes z x y)=true) (h:kC (.Gs bytes z x y) tm=some (l,vf)) (ht:RT φ tm a):YN P w φ a op l vf:=by
 simp only [Mc] at hi
 simp only [kC] at h
 intro o ho
 split at hi
 ·next t X Y =>
  simp only [Bool.and_eq_true] at hi
  have hx:=bV hi.1.1 ht
  have hy:=bV hi.1.2 ht
  have h2:=hi.2
  split at h2
  ·next el hel =>
   simp only [Bool.and_eq_true] at h2
   obtain ⟨⟨z1,z2⟩,z3⟩:=h2
   obtain ⟨i,zv,e1,e2,e3⟩:=yN z1
   rw [e1] at z3
   have z3:=Nat.eq_of_beq_eq_true z3
   have hsz:i.size=z.length:=by
    unfold PI at z2
    rw [e1] at z2
    exact Nat.eq_of_beq_eq_true z2
   have hzs:zv.cells.size=z.length:=Ti (e3 _)
   split at h
   ·next n m hn hm =>
    rw [sV hn] at hx
    rw [sV hm] at hy
    simp only [RV,RB] at hx hy
    cases hb:(Nat.ble n m && (Nat.ble (bytes*m) 281474976710656 && Nat.ble m 1073741824)) with
    | false=>rw [hb] at h;cases h
    | true =>
     rw [hb] at h
     cases h
     simp only [Bool.and_eq_true] at hb
     have b1:=Nat.le_of_ble_eq_true hb.1
     have b2:=Nat.le_of_ble_eq_true hb.2.1
     have b3:=Nat.le_of_ble_eq_true hb.2.2
     have hrun:=run_make (P:=P) w t el i zv hel e1 e2 .i64 .i64 (n:Int) (m:Int) jb jb (by rw [z3];have:=b2;omega) jb
     refine ⟨madeCells zv.cells (m*i.size),el,.slice (some ⟨w.heap.size,0,none⟩) n m,?_,?_,fun φ' b hb=>.inl ⟨_,m,hb,rfl,b1,jb,rfl⟩⟩
     ·simp only [execOp,ho,hx,hy,Sem.run_bind]
      simp only [Int.ofNat_eq_natCast]
      rw [hrun]
      rfl
     ·have:=Jz zv.cells z (e3 φ) m
      rw [hzs] at this
      simpa [madeCells,hsz,hzs] using this
   ·cases h
  ·cases h2
 ·cases hi
theorem aoY {op:Op} {e n:Nat} {z:List B} {ps:List (Nat×Nat×O)} {l:List B} {vf:Nat→V} (hi:Mc P op (.bsl e n z ps)=true) (h:kC (.bsl e n z ps) tm=some (l,vf)) (ht:RT φ tm a):YN P w φ a op l vf:=by
 simp only [Mc] at hi
 simp only [kC] at h
 intro o ho
 split at hi
 ·next t len parts =>
  simp only [Bool.and_eq_true] at hi
  obtain ⟨⟨⟨i1,i2⟩,i3⟩,i4⟩:=hi
  have i1:=Nat.eq_of_beq_eq_true i1
  have i2:=Nat.eq_of_beq_eq_true i2
  subst i1
  split at i4
  ·next el hel =>
   rw [Bool.and_eq_true] at i4
   obtain ⟨i,zv,e1,e2,e3⟩:=yN i4.1
   have hs:=wF i4.2 w
   have hzs:zv.cells.size=z.length:=Ti (e3 _)
   cases hb:(Nat.ble (len*e) 16777216 && Nat.ble len 16777216) with
   | false=>rw [hb] at h;cases h
   | true =>
    rw [hb] at h
    rw [Bool.and_eq_true] at hb
    have hb2:=Nat.le_of_ble_eq_true hb.2
    have hb:=Nat.le_of_ble_eq_true hb.1
    simp only [cond_true] at h
    split at h
    ·next l' hl =>
     cases h
     have hz0:kL φ (rep z len) ((Array.range (len*e)).map (zv.cells[· % zv.cells.size]!)).toList:=by
      have:=Jz zv.cells z (e3 φ) len
      rwa [show zv.cells.size=e by rw [hzs,i2]] at this ⊢
     obtain ⟨r,f1,f2,-⟩:=EF ht _ _ _ _ _ _ i3 hl hz0
     refine ⟨r,el,.slice (some ⟨w.heap.size,0,none⟩) len len,?_,f2,fun φ' b hb=>.inl ⟨_,len,hb,rfl,jp,jb,rfl⟩⟩
     have hpar:(parts.map fun (x:Nat×Operand)=>(x.1,a.eval x.2)).toList=parts.toList.map fun x=>(x.1,a.eval x.2):=by simp
     simp only [execOp,ho,Instr.buildSlice,Sem.run_bind,run_underlying hel,Result.andThen_ok,hs,Sem.run_ite]
     rw [if_neg jb]
     by_cases h0:len*e=0
     ·have hemp:((Array.range (len*e)).map (zv.cells[· % zv.cells.size]!)) = #[]:=by rw [h0,Array.range_zero'];simp
      rw [hemp] at f1
      simp [h0,Array.range_zero',f1,hpar,newRow]
     ·simp [h0,zeroValue,typeInfo,e1,e2,f1,hpar,newRow]
    ·cases h
  ·cases i4
 ·cases hi
theorem JA {op:Op} {ao:qL} {l:List B} {vf:Nat→V} (hi:Mc P op ao=true) (h:kC ao tm=some (l,vf)) (ht:RT φ tm a):YN P w φ a op l vf:=by
 cases ao
 case alloc=>exact ahs hi h
 case box=>exact aoX hi h ht
 case Gs=>exact aln hi h ht
 case bsl=>exact aoY hi h ht
 all_goals cases hi
end
def adt (P:Program) (t ty e bytes:Nat):Bool :=
 match P.underlying t with
 | some (.slice el)=>(match P.info? el with
  | some i=>(match i.zero with
   | some zv=>Nat.beq el ty && (Nat.beq i.size e && (Nat.beq i.bytes bytes && Nat.beq zv.cells.size e))
   | none=>false)
  | none=>false)
 | _=>false
theorem WE {P:Program} {t ty e bytes:Nat} (h:adt P t ty e bytes=true) : ∃ i zv,P.underlying t=some (.slice ty)∧P.info? ty=some i∧i.zero=some zv∧i.size=e∧i.bytes=bytes∧zv.cells.size=e:=by
 unfold adt at h
 split at h
 ·next el hel =>
  split at h
  ·next i hi =>
   split at h
   ·next zv hz =>
    simp only [Bool.and_eq_true] at h
    obtain ⟨h1,h2,h3,h4⟩:=h
    have h1:=Nat.eq_of_beq_eq_true h1
    subst h1
    exact ⟨i,zv,hel,hi,hz,Nat.eq_of_beq_eq_true h2,Nat.eq_of_beq_eq_true h3,Nat.eq_of_beq_eq_true h4⟩
   ·cases h
  ·cases h
 ·cases h
def Gu (P:Program) (op:Op):qL→Bool
 | .store n y z=>(match op with|.store t x u=>uq x y && uq u z && PI P t n|_=>false)
 | .app ty e bytes s' x'=>(match op with
  | .call c=>(match c.callee with
   | .builtin .append=>(match c.args.toList,c.argTypes.toList with
    | [s,x],[t,t']=>Nat.beq t t' && uq s s' && uq x x' && adt P t ty e bytes
    | _,_=>false)
   | _=>false)
  | _=>false)
 | .Jm=>(match op with|.makeMap _ none=>true|_=>false)
 | .Jo=>(match op with|.makeMap t none=>Nat.beq t 104|_=>false)
 | .Wq m' k' v'=>(match op with|.mapUpdate t m k v=>uq m m' && uq k k' && uq v v' && Nat.beq t 104|_=>false)
 | _=>false
theorem Tm {α:Type} (A rs:List α) (o L:Nat) (h:o+rs.length≤L) (hL:L≤A.length) :
  (A.take o ++ rs ++ A.drop (o+rs.length)).take L=(A.take L).take o ++ rs ++ (A.take L).drop (o+rs.length):=by
 have h1:(A.take o ++ rs).length=o+rs.length:=by rw [List.length_append,List.length_take];omega
 rw [List.take_append,List.take_of_length_le jb,h1,List.take_take,List.drop_take,Nat.min_eq_left jb]
section
variable {P:Program} {N:Nat} {w0 w w' : World} {φ:Ph} {σ σ' : St} {tm:Tr V} {a:Act} {v:V}
theorem yO (w:World) (g:Nat) (cs:Array Value):w.grownBy (w.setRow g cs) (some g) :=
 ⟨rfl,rfl,rfl,by simp,fun k _ hk=>setRow_other w g k _ (fun e=>hk (by simp [e]))⟩
def YA (P:Program) (N:Nat) (w0:World) (w:World) (φ:Ph) (σ:St) (a:Act) (op:Op) (v:V) (σ' : St):Prop :=
 ∀ o:Oper,o.op=op→∃ nx cv w',(execOp a.eval o).run P w = .ok nx w'∧(nx = .value cv∨(nx = .skip∧cv=undef))∧∃ φ',Ext σ.ah φ φ'∧Rel N w0 φ' σ' w'∧RV φ' v cv∧σ.ah≤σ'.ah
theorem aht (hR:Rel N w0 φ σ w) {op:Op} {n:Nat} {y z:O} (hi:Gu P op (.store n y z)=true) (h:qw (.store n y z) tm σ=some (v,σ')) (ht:RT φ tm a):YA P N w0 w φ σ a op v σ':=by
 simp only [Gu] at hi
 simp only [qw] at h
 intro o ho
 split at hi
 ·next t x u =>
  simp only [Bool.and_eq_true] at hi
  have hx:=bV hi.1.1 ht
  have hu:=bV hi.1.2 ht
  have hs:=wF hi.2 w
  split at h
  ·next b off vs ex eu =>
   rw [ex] at hx
   obtain ⟨p,hp,e⟩:=hx
   have hv:=hu.cells eu
   cases hb:Nat.beq vs.length n with
   | false=>rw [hb] at h;cases h
   | true =>
    rw [hb] at h
    have hb:=Nat.eq_of_beq_eq_true hb
    simp only [cond_true] at h
    split at h
    ·next k hk =>
     split at h
     ·next l hl =>
      split at h
      ·next h' hput =>
       cases h
       obtain ⟨hpl,hl⟩:k.pl=true∧uT k.cells off vs=some l:=by
        cases hpl:k.pl with
        | false=>rw [hpl] at hl;cases hl
        | true=>rw [hpl] at hl;exact ⟨rfl,hl⟩
       obtain ⟨cs,T,hc,hr,hle,hop⟩:=(hR.blk b k p hk hp).plain hpl
       obtain ⟨h1,h2⟩:=PG off k.cells vs l _ _ hl hr hv
       have hvl:=hv.length
       have hst:=run_storeCells_at P p.1 off T (a.eval u).cells.toList 0 cs w hc jb hv.oneCell
       simp only [Nat.add_zero] at hst
       have hsz:(a.eval u).cells.size=n:=by rw [← Array.length_toList,← hvl,hb]
       refine ⟨.skip,undef,w.setRow p.1 (cs.toList.take off ++ (a.eval u).cells.toList ++ cs.toList.drop (off+(a.eval u).cells.toList.length)).toArray,?_,.inr ⟨rfl,rfl⟩,φ,Ext.refl _ _,hR.change hp (by rw [hk];rfl) hput (hR.hi hk hp (.inl hpl)) (yO w p.1 _) (.inl ⟨hpl,_,T,setRow_heap w p.1 cs _ T _ hc,?_,?_,?_⟩),trivial,jp⟩
       ·simp only [execOp,ho,Instr.storeAt,Instr.sureAddr,e,storeVar,Sem.run_bind,Sem.run_pure,Result.andThen_ok,hs,hsz]
        simp [hst]
       ·have hl2:l.length=k.cells.length:=by
         rw [h2.length]
         simp only [List.length_append,List.length_take,List.length_drop,Array.length_toList] at hvl ⊢
         omega
        rw [hl2,Tm _ _ _ _ jb (by rw [Array.length_toList];exact hle)]
        exact h2
       ·have hl2:l.length=k.cells.length:=by
         rw [h2.length]
         simp only [List.length_append,List.length_take,List.length_drop,Array.length_toList] at hvl ⊢
         omega
        simp only [hl2,List.size_toArray,List.length_append,List.length_take,List.length_drop,Array.length_toList] at hvl ⊢
        omega
       ·intro e' t' h0
        obtain ⟨q1,q2,q3⟩:=hop e' t' h0
        refine ⟨q1,?_,q3⟩
        rw [← q2]
        simp only [List.size_toArray,List.length_append,List.length_take,List.length_drop,Array.length_toList] at hvl ⊢
        omega
      ·cases h
     ·cases h
    ·cases h
  ·cases h
 ·cases hi
theorem adu {t ty el:TypeId} {i:TypeInfo} (ht:P.underlying t=some (.slice el)) (hi:P.info? el=some i) (A B:Option Addr) (n K k:Nat) (hK:n≤K) :
  (Builtin.append_ #[t,t] ty #[.slice A n K,.slice B 0 k]).run P w = .ok (.slice A n K) w:=by
 cases A <;> cases B <;> simp [Builtin.append_,run_underlying ht,sizeOf,typeInfo,hi,Builtin.lenOf,Builtin.firstCells,hK,storeCells,loadCells,loadCellsFrom]
theorem JC (hR:Rel N w0 φ σ w) {news:List B} {rs:List Value} {fU ty b m C:Nat} {zv:Array Value} (hn:σ.new ⟨news,some (fU,ty)⟩=some (b,σ')) (hr:kL φ news rs) (hl:rs.length=m*fU) (hez:0<fU)
  (hz:zv.size=fU) (hC:m≤C) (hM:C≤maxLen) : ∃ φ',Ext σ.ah φ φ'∧Rel N w0 φ' σ' (w.drew.alloc (.cells (rs.toArray ++ Builtin.zeroCells zv (C - m)) ty))∧φ' b=some (w.heap.size,C)∧σ.ah≤σ'.ah:=by
 obtain ⟨rfl,hnx,-⟩:=sW hn
 have hg:w.grownBy (w.drew.alloc (.cells (rs.toArray ++ Builtin.zeroCells zv (C - m)) ty)) (some w.heap.size):=⟨rfl,rfl,rfl,by simp,fun k hk _=>Below.heap_alloc w.drew _ k hk⟩
 refine ⟨_,wG φ σ.ah (w.heap.size,C),hR.new hn hg hR.size kc (fun i p hi _ e=>?_) (.inl ⟨Dj hez,_,ty,heap_alloc_new w.drew _,?_,?_,fun e t h0=>?_⟩),gV _ _ _,jb⟩
 ·have:=hR.lo i p hi
  omega
 ·simp only [Array.toList_append]
  rw [List.take_append_of_le_length (by rw [hr.length];exact jp),List.take_of_length_le (by rw [hr.length];exact jp)]
  exact hr
 ·simp only [Array.size_append,List.size_toArray,← hr.length]
  omega
 ·simp only [Option.some.injEq,Prod.mk.injEq] at h0
  obtain ⟨rfl,rfl⟩:=h0
  refine ⟨rfl,?_,hM⟩
  simp only [Array.size_append,List.size_toArray,size_zeroCells,hz,hl,← Nat.add_mul]
  congr 1
  omega
theorem aaF (hR:Rel N w0 φ σ w) {t ty el:TypeId} {i:TypeInfo} {zv:Value} (hu:P.underlying t=some (.slice el)) (hi:P.info? el=some i) (hz:i.zero=some zv) (hzs:zv.cells.size=i.size)
  {s:V} {sv:Value} (hs:RV φ s sv) {m k:Nat} {B:Option Addr} {news:List Xe.B} {rs:List Value} (hr:kL φ news rs) (hl:rs.length=m*i.size)
  (hB:m=0∨∃ A,B=some A∧∀ j u,rs[j]?=some u→w.cell? (A.add j)=some u)
  (h:oP el i.size i.bytes s m news σ=some (v,σ')) :
  ∃ cv w',(Builtin.append_ #[t,t] ty #[sv,.slice B m k]).run P w = .ok cv w'∧∃ φ',Ext σ.ah φ φ'∧Rel N w0 φ' σ' w'∧RV φ' v cv∧σ.ah≤σ'.ah:=by
 have Z : ∀ {A:Option Addr} {n K:Nat},m=0→n≤K→sv = .slice A n K→(Builtin.append_ #[t,t] ty #[sv,.slice B m k]).run P w = .ok sv w:=fun {A n K} h0 hK e=>by
  rw [e,h0];exact adu hu hi A B n K k hK
 unfold oP at h
 split at h
 ·have e:sv = .slice none 0 0:=hs
  cases h0:Nat.beq m 0 with
  | true =>
   rw [h0] at h
   cases h
   have h0:=Nat.eq_of_beq_eq_true h0
   exact ⟨sv,w,Z h0 jp e,φ,Ext.refl _ _,hR,hs,jp⟩
  | false =>
   rw [h0] at h
   have h0 : ¬ m=0:=fun e=>by rw [e] at h0;simp at h0
   simp only [cond_false] at h
   cases hb:(Nat.blt 0 i.size && (Nat.ble (m*i.bytes) 140737488355328 && Nat.ble m 1073741824)) with
   | false=>rw [hb] at h;cases h
   | true =>
    rw [hb] at h
    simp only [Bool.and_eq_true] at hb
    have b0:0<i.size:=Nat.le_of_ble_eq_true hb.1
    have b1:=Nat.le_of_ble_eq_true hb.2.1
    have b2:=Nat.le_of_ble_eq_true hb.2.2
    simp only [cond_true] at h
    split at h
    ·next b σ'' hn =>
     cases h
     obtain ⟨A,rfl,hA⟩:=hB.resolve_left h0
     have hrun:=run_append_nil (P:=P) w t ty el i zv hu hi hz A m k rs hl hA jb jb jb
     obtain ⟨φ',q1,q2,q3,q4⟩:=JC hR (C:=grownCap w m 0 el) hn hr hl b0 hzs (grownCap_ge w m 0 el) (grownCap_le_maxLen w m 0 el (by simp only [maxLen];omega))
     exact ⟨_,_,by rw [e];exact hrun,φ',q1,q2,.inl ⟨_,_,q3,rfl,grownCap_ge w m 0 el,(grownCap_le_maxLen w m 0 el (by simp only [maxLen];omega)),rfl,rfl⟩,q4⟩
    ·cases h
 ·next b o n =>
  obtain ⟨p,K,hp,e,hnK,hKM,ho0,hKC⟩:=hs.resolve_right fun hw=>by cases hw.2.1
  cases h0:Nat.beq m 0 with
  | true =>
   rw [h0] at h
   cases h
   have h0:=Nat.eq_of_beq_eq_true h0
   exact ⟨sv,w,Z h0 hnK e,φ,Ext.refl _ _,hR,.inl ⟨p,K,hp,e,hnK,hKM,ho0,hKC⟩,jp⟩
  | false =>
   rw [h0] at h
   have h0 : ¬ m=0:=fun e=>by rw [e] at h0;simp at h0
   simp only [cond_false] at h
   obtain ⟨A,rfl,hA⟩:=hB.resolve_left h0
   split at h
   ·next cells e' t' hk =>
    cases hb:(Nat.blt 0 e' && Nat.beq o 0 && (Nat.beq e' i.size && (Nat.beq t' el && (Nat.ble ((n+m)*i.bytes) 140737488355328 && (Nat.ble (n+m) 1073741824 && Nat.ble (n*i.size) cells.length))))) with
    | false=>rw [hb] at h;cases h
    | true =>
     rw [hb] at h
     simp only [Bool.and_eq_true] at hb
     obtain ⟨⟨b0,-⟩,c2,c3,c4,c5,c6⟩:=hb
     have b0:0<e':=Nat.le_of_ble_eq_true b0
     have c2:=Nat.eq_of_beq_eq_true c2
     have c3:=Nat.eq_of_beq_eq_true c3
     have c4:=Nat.le_of_ble_eq_true c4
     have c5:=Nat.le_of_ble_eq_true c5
     have c6:=Nat.le_of_ble_eq_true c6
     subst c2 c3 ho0 hKC
     simp only [cond_true] at h
     obtain ⟨cs,T,hc,hrb,hle,hop⟩:=(hR.blk b _ p hk hp).plain (Dj b0)
     have hNp:=hR.hi hk hp (.inl (Dj b0))
     obtain ⟨rfl,hcsz,hCM⟩:=hop _ _ rfl
     simp only at hrb hle
     split at h
     ·next h' hput =>
      have hR2:=hR.kill hput
      split at h
      ·next b' σ'' hn =>
       simp only [iY] at h
       cases h
       have hold:kL φ (cells.take (n*i.size)) (cs.toList.take (n*i.size)):=by
        have:=hrb.take (n*i.size)
        rwa [List.take_take,Nat.min_eq_left c6] at this
       have hol:(cs.toList.take (n*i.size)).length=n*i.size:=by rw [List.length_take,Array.length_toList];omega
       have hall:=hold.append hr
       have adv:(cs.toList.take (n*i.size) ++ rs).length=(n+m)*i.size:=by rw [List.length_append,hol,hl,Nat.add_mul]
       by_cases hroom:n+m≤p.2
       ·have hfit:n*i.size+rs.length≤cs.size:=by rw [hl,hcsz,← Nat.add_mul];exact Nat.mul_le_mul_right _ hroom
        have hrun:=run_append_room (P:=P) w t ty T i hu hi p.1 n p.2 cs hc A m k rs hl hA hr.oneCell hroom hfit
        obtain ⟨hb',hnx,hget⟩:=sW hn
        subst hb'
        have hnew:=hR2.new (c:=p.1) (C:=p.2) hn (yO w p.1 (cs.toList.take (n*i.size) ++ rs ++ cs.toList.drop (n*i.size+rs.length)).toArray) hNp (by simpa using hR.lo b p hp) (fun j pj hj lj ej=>?_) (.inl ⟨Dj b0,_,T,setRow_heap w p.1 cs _ T _ hc,?_,?_,fun e t h9=>?_⟩)
        ·refine ⟨_,_,by rw [e];exact hrun,_,wG φ σ.ah _,hnew,.inl ⟨p,p.2,gV _ _ _,rfl,hroom,by first|omega|exact hKC ▸ hKM,rfl,rfl⟩,?_⟩
         simp only at hnx
         omega
        ·have hj2:(σ.h.get j).isSome=true∧j≠b:=by
          simp only [Tr.get_put _ _ _ _ _ j hput] at lj
          split at lj
          ·cases lj
          ·next ne=>exact ⟨lj,ne⟩
         exact hj2.2 (hR.inj j b pj p hj hp ej jb hj2.1 (by rw [hk];rfl))
        ·have e9:List.take (cells.take (n*i.size) ++ news).length (cs.toList.take (n*i.size) ++ rs ++ cs.toList.drop (n*i.size+rs.length))=cs.toList.take (n*i.size) ++ rs:=by
          rw [hall.length];exact List.take_left
         show kL φ (cells.take (n*i.size) ++ news) (List.take _ _)
         rw [e9]
         exact hall
        ·simp only [hall.length,List.size_toArray,List.length_append]
         omega
        ·simp only [Option.some.injEq,Prod.mk.injEq] at h9
         obtain ⟨rfl,rfl⟩:=h9
         refine ⟨rfl,?_,hCM⟩
         rw [← hcsz]
         simp only [List.size_toArray,List.length_append,List.length_drop,hol,Array.length_toList]
         omega
       ·have holds : ∀ j u,(cs.toList.take (n*i.size))[j]?=some u→w.cell? ((⟨p.1,0,none⟩:Addr).add j)=some u:=fun j u hj=>by
         rw [Addr.add_lit,Nat.zero_add,cell_of_row w p.1 j cs T (0,0) hc]
         rw [List.getElem?_take] at hj
         split at hj
         ·simpa using hj
         ·cases hj
        have hrun:=run_append_grow (P:=P) w t ty T i zv hu hi hz ⟨p.1,0,none⟩ n p.2 _ hol holds A m k rs hl hA jb jb (growslice_fits jb c4)
        obtain ⟨φ',q1,q2,q3,q4⟩:=JC hR2 (C:=grownCap w (n+m) p.2 T) hn hall adv b0 hzs (grownCap_ge w (n+m) p.2 T) (grownCap_le_maxLen w (n+m) p.2 T (by simp only [maxLen];omega))
        refine ⟨_,_,by rw [e];exact hrun,φ',q1,?_,.inl ⟨_,_,q3,rfl,grownCap_ge w (n+m) p.2 T,(grownCap_le_maxLen w (n+m) p.2 T (by simp only [maxLen];omega)),rfl,rfl⟩,q4⟩
        simpa using q2
      ·cases h
     ·cases h
   ·cases h
 ·next b o n kk =>
  obtain ⟨p,K,hp,e,hnK,hKM,hKC⟩:=hs.resolve_right fun hw=>by cases hw.2.1
  have hKC:K=kk:=hKC
  subst hKC
  cases h0:Nat.beq m 0 with
  | true =>
   rw [h0] at h
   have h0:=Nat.eq_of_beq_eq_true h0
   simp only [cond_true] at h
   cases hb:Nat.ble n K with
   | false=>rw [hb] at h;cases h
   | true =>
    rw [hb] at h
    cases h
    exact ⟨sv,w,Z h0 hnK e,φ,Ext.refl _ _,hR,.inl ⟨p,K,hp,e,hnK,hKM,rfl⟩,jp⟩
  | false =>
   rw [h0] at h
   have h0 : ¬ m=0:=fun e=>by rw [e] at h0;simp at h0
   simp only [cond_false] at h
   obtain ⟨A,rfl,hA⟩:=hB.resolve_left h0
   split at h
   ·next bk hk =>
    cases hb:((bk.rd && (Nat.blt 0 i.size && ((bk.cells.drop o).take (n*i.size)).all B.kn)) && Nat.blt K (n+m) && (Nat.ble ((n+m)*i.bytes) 140737488355328 && (Nat.ble (n+m) 1073741824 && Nat.ble (o+n*i.size) bk.cells.length))) with
    | false=>rw [hb] at h;cases h
    | true =>
     rw [hb] at h
     simp only [Bool.and_eq_true] at hb
     obtain ⟨⟨⟨hrd,b0,hkn⟩,c1⟩,c4,c5,c6⟩:=hb
     have b0:0<i.size:=Nat.le_of_ble_eq_true b0
     have c1:K<n+m:=Nat.le_of_ble_eq_true c1
     have c4:=Nat.le_of_ble_eq_true c4
     have c5:=Nat.le_of_ble_eq_true c5
     have c6:=Nat.le_of_ble_eq_true c6
     simp only [cond_true] at h
     obtain ⟨xs,hold,hxs⟩:=hR.reads hk hrd hp ((bk.cells.drop o).take (n*i.size)) o (fun j x hj=>vJ hj) hkn
     split at h
     ·next b' σ'' hn =>
      simp only [iY] at h
      cases h
      have hol:xs.length=n*i.size:=by rw [← hold.length,List.length_take,List.length_drop];omega
      have hall:=hold.append hr
      have adv:(xs ++ rs).length=(n+m)*i.size:=by rw [List.length_append,hol,hl,Nat.add_mul]
      have holds : ∀ j u,xs[j]?=some u→w.cell? ((⟨p.1,o,none⟩:Addr).add j)=some u:=fun j u hj=>by
       rw [Addr.add_lit];exact hxs j u hj
      have hrun:=run_append_grow (P:=P) w t ty el i zv hu hi hz ⟨p.1,o,none⟩ n K _ hol holds A m k rs hl hA c1 jb (growslice_fits c1 c4)
      obtain ⟨φ',q1,q2,q3,q4⟩:=JC hR (C:=grownCap w (n+m) K el) hn hall adv b0 hzs (grownCap_ge w (n+m) K el) (grownCap_le_maxLen w (n+m) K el (by simp only [maxLen];omega))
      refine ⟨_,_,by rw [e];exact hrun,φ',q1,?_,.inl ⟨_,_,q3,rfl,grownCap_ge w (n+m) K el,(grownCap_le_maxLen w (n+m) K el (by simp only [maxLen];omega)),rfl,rfl⟩,q4⟩
      simpa using q2
     ·cases h
   ·cases h
 ·next b o n =>
  cases h0:Nat.beq m 0 with
  | false=>rw [h0] at h;cases h
  | true =>
   rw [h0] at h
   cases h
   have h0:=Nat.eq_of_beq_eq_true h0
   rcases hs with ⟨p,K,hp,e,hnK,hKM,-⟩|⟨rfl,-,A,K,e,hKM⟩
   ·exact ⟨sv,w,Z h0 hnK e,φ,Ext.refl _ _,hR,.inl ⟨p,K,hp,e,hnK,hKM,trivial⟩,jp⟩
   ·exact ⟨sv,w,Z h0 (Nat.zero_le _) e,φ,Ext.refl _ _,hR,.inr ⟨rfl,rfl,A,K,e,hKM⟩,jp⟩
 ·cases h
theorem aoZ (hR:Rel N w0 φ σ w) {op:Op} {ty e bytes:Nat} {s x:O} (hi:Gu P op (.app ty e bytes s x)=true) (h:qw (.app ty e bytes s x) tm σ=some (v,σ')) (ht:RT φ tm a):YA P N w0 w φ σ a op v σ':=by
 simp only [Gu] at hi
 simp only [qw] at h
 intro o ho
 split at hi
 ·next c =>
  split at hi
  ·next arL =>
   split at hi
   ·next S X t t' hargs alo =>
    simp only [Bool.and_eq_true] at hi
    obtain ⟨⟨⟨i1,i2⟩,i3⟩,i4⟩:=hi
    have i1:=Nat.eq_of_beq_eq_true i1
    subst i1
    have hs:=bV i2 ht
    have hx:=bV i3 ht
    have hargs:c.args = #[S,X]:=by rw [← Array.toArray_toList (xs:=c.args),hargs]
    have alo:c.argTypes = #[t,t]:=by rw [← Array.toArray_toList (xs:=c.argTypes),alo]
    obtain ⟨i,zv,hel,ado,hzv,k1,k2,k3⟩:=WE i4
    subst k1 k2
    have fin : ∀ {B:Option Addr} {m k:Nat} {news:List Xe.B} {rs:List Value},a.eval X = .slice B m k→kL φ news rs→rs.length=m*i.size →
      (m=0∨∃ A,B=some A∧∀ j u,rs[j]?=some u→w.cell? (A.add j)=some u)→oP ty i.size i.bytes (s.ev tm) m news σ=some (v,σ') →
      ∃ nx cv w',(execOp a.eval o).run P w = .ok nx w'∧(nx = .value cv∨(nx = .skip∧cv=undef))∧∃ φ',Ext σ.ah φ φ'∧Rel N w0 φ' σ' w'∧RV φ' v cv∧σ.ah≤σ'.ah:=fun {B m k news rs} hX hr hl hB hap=>by
     obtain ⟨cv,w',h1,h2⟩:=aaF (ty:=o.type) (k:=k) hR hel ado hzv k3 hs hr hl hB hap
     refine ⟨.value cv,cv,w',?_,.inl rfl,h2⟩
     simp [execOp,ho,resolve,arL,hargs,alo,invoke,builtin,hX,h1]
    split at h
    ·next ex =>
     rw [ex] at hx
     exact fin (B:=none) (m:=0) (k:=0) (news:=[]) (rs:=[]) hx trivial kc (.inl rfl) h
    ·next b off m cp ex =>
     rw [ex] at hx
     cases hm0:Nat.beq m 0 with
     | true =>
      rw [hm0] at h
      have hm0:=Nat.eq_of_beq_eq_true hm0
      subst hm0
      obtain ⟨p,K,e2⟩ : ∃ p K,a.eval X = .slice (some p) 0 K:=by
       rcases hx with ⟨p,K,hp,e2,-⟩|⟨-,-,p,K,e2,-⟩
       ·exact ⟨_,_,e2⟩
       ·exact ⟨_,_,e2⟩
      exact fin (m:=0) (news:=[]) (rs:=[]) e2 trivial kc (.inl rfl) h
     | false =>
     rw [hm0] at h
     simp only [cond_false] at h
     obtain ⟨p,K,hp,e2,hmK,-⟩:=hx.resolve_right fun hw=>by rw [hw.1] at hm0;cases hm0
     split at h
     ·next k hk =>
      cases hb:(k.rd && (Nat.beq ((k.cells.drop off).take (m*i.size)).length (m*i.size) && ((k.cells.drop off).take (m*i.size)).all B.kn)) with
      | false=>rw [hb] at h;cases h
      | true =>
       rw [hb] at h
       simp only [Bool.and_eq_true] at hb
       obtain ⟨hrd,hb,hkn⟩:=hb
       have hb:=Nat.eq_of_beq_eq_true hb
       simp only [cond_true] at h
       obtain ⟨xs,hnew,hxs⟩:=hR.reads hk hrd hp ((k.cells.drop off).take (m*i.size)) off (fun j x hj=>vJ hj) hkn
       refine fin (rs:=xs) e2 hnew (by rw [← hnew.length];exact hb) (.inr ⟨_,rfl,fun j u hj=>?_⟩) h
       rw [Addr.add_lit];exact hxs j u hj
     ·cases h
    ·cases h
   ·cases hi
  ·cases hi
 ·cases hi
theorem Rel.below (h:Rel N w0 φ σ w) (hb:Below w.heap.size w w'):Rel N w0 φ σ w' :=
 ⟨h.n0,h.bel.trans (hb.mono h.size),h.inj,fun b p hp=>Nat.lt_of_lt_of_le (h.lo b p hp) hb.size,h.fz,fun b k p hk hp=>(h.blk b k p hk hp).keep (hb.block _ (h.lo b p hp)),h.ah⟩
theorem ahu (hR:Rel N w0 φ σ w) {op:Op} (hi:Gu P op .Jm=true) (h:qw .Jm tm σ=some (v,σ')):YA P N w0 w φ σ a op v σ':=by
 simp only [Gu] at hi
 simp only [qw,Option.some.injEq,Prod.mk.injEq] at h
 obtain ⟨rfl,rfl⟩:=h
 intro o ho
 split at hi
 ·exact ⟨.value (.map (some w.heap.size)),.map (some w.heap.size),w.alloc (.map #[] 0),by simp [execOp,ho,Instr.makeMap],.inl rfl,φ,Ext.refl _ _,hR.below ((Below.refl _ _).alloc jp _),trivial,jp⟩
 ·cases hi
theorem ahv (hR:Rel N w0 φ σ w) {op:Op} (hi:Gu P op .Jo=true) (h:qw .Jo tm σ=some (v,σ')):YA P N w0 w φ σ a op v σ':=by
 simp only [Gu] at hi
 simp only [qw] at h
 intro o ho
 split at hi
 ·split at h
  ·next b σ'' hn =>
   cases h
   obtain ⟨rfl,hnx,-⟩:=sW hn
   have hg:w.grownBy (w.alloc (.map #[] 0)) (some w.heap.size):=⟨rfl,rfl,rfl,by simp,fun k hk _=>Below.heap_alloc w _ k hk⟩
   refine ⟨.value (.map (some w.heap.size)),.map (some w.heap.size),w.alloc (.map #[] 0),by simp [execOp,ho,Instr.makeMap],.inl rfl,_,wG φ σ.ah (w.heap.size,0),hR.new hn hg hR.size kc (fun i p hi _ e=>?_) (.inr (.inl ⟨adk,Js,[],rfl,xX.made w⟩)),⟨_,gV _ _ _,rfl⟩,jb⟩
   have:=hR.lo i p hi
   omega
  ·cases h
 ·cases hi
theorem alp [WC:mW P] (hR:Rel N w0 φ σ w) {op:Op} {m k x:O} (hi:Gu P op (.Wq m k x)=true) (h:qw (.Wq m k x) tm σ=some (v,σ')) (ht:RT φ tm a):YA P N w0 w φ σ a op v σ':=by
 obtain rfl:=WC.eq
 simp only [Gu] at hi
 simp only [qw] at h
 intro o ho
 split at hi
 ·next t M K X =>
  simp only [Bool.and_eq_true] at hi
  obtain ⟨⟨⟨i1,i2⟩,i3⟩,i4⟩:=hi
  have i4:=Nat.eq_of_beq_eq_true i4
  subst i4
  have hm:=bV i1 ht
  have hk:=bV i2 ht
  have hx:=bV i3 ht
  split at h
  ·next b e j em ek ex =>
   rw [em] at hm
   rw [ek] at hk
   rw [ex] at hx
   have hx:a.eval X = .bool true:=hx
   obtain ⟨p,hp,e1⟩:=hm
   obtain ⟨r,e2,hr⟩:=hk
   obtain ⟨l⟩:=r
   have e3:l=[.int .i64 e,.int .i64 j]:=by
    match l,hr with
    | [u,v],hr =>
     have h1:u = .int .i64 e:=hr.1
     have h2:v = .int .i64 j:=hr.2.1
     rw [h1,h2]
   subst e3
   split at h
   ·next c hb =>
    cases hw:(LP .i64 e && (LP .i64 j && Nat.ble c.length 1000)) with
    | false=>rw [hw] at h;cases h
    | true =>
     rw [hw] at h
     simp only [Bool.and_eq_true] at hw
     simp only [cond_true] at h
     have w3:=Nat.le_of_ble_eq_true hw.2.2
     split at h
     ·next h' hput =>
      cases h
      obtain ⟨L,hL,hM⟩:=(hR.blk b _ p hb hp).map Js
      have hL:c=xY L:=hL
      obtain ⟨w',r1,r2,r3⟩:=hM.store (e,j) (PE hw.1) (PE hw.2.1) (by have:=PD L;rw [← hL] at this;omega)
      simp only [ML.kv] at r1
      refine ⟨.skip,undef,w',by simp [execOp,ho,e1,e2,hx,r1],.inr ⟨rfl,rfl⟩,φ,Ext.refl _ _,hR.change hp (by rw [hb];rfl) hput (hR.hi hb hp (.inr Js)) r3 (.inr (.inl ⟨adk,Js,L ++ [(e,j)],?_,r2⟩)),trivial,jp⟩
      rw [WA,← hL]
     ·cases h
   ·cases h
  ·cases h
 ·cases hi
theorem WG [WC:mW P] (hR:Rel N w0 φ σ w) {op:Op} {ao:qL} (hi:Gu P op ao=true) (h:qw ao tm σ=some (v,σ')) (ht:RT φ tm a):YA P N w0 w φ σ a op v σ':=by
 cases ao
 case store=>exact aht hR hi h ht
 case app=>exact aoZ hR hi h ht
 case Jm=>exact ahu hR hi h
 case Jo=>exact ahv hR hi h
 case Wq=>exact alp hR hi h ht
 all_goals cases hi
end
end Go.Proofs.Xe
