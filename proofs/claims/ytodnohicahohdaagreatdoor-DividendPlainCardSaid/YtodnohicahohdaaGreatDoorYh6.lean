import Derived.Test.YtodnohicahohdaaGreatDoorYh5
import Derived.Laws.OwnMore
set_option linter.all false
namespace Go.Proofs.Xe
open Go.RowKit Go.Proofs.Ins
def Jm(φ:Ph)(b:Nat)(p:Nat×Nat):Ph:=λi=>if i=b then some p else φ i
theorem iE(φ:Ph)(b:Nat)(p:Nat×Nat):Jm φ b p b=some p:=ab rfl
theorem eH(φ:Ph){b i:Nat}(p:Nat×Nat)(h:i≠b):Jm φ b p i=φ i:=ae h
def yL(φ:Ph)(n:Nat)(p:Nat×Nat):Ext n φ (Jm φ n p):=λb hb=>eH φ p jb
section
variable {P:Program} {N:Nat} {w0 w w' : World} {φ:Ph} {J:St} {tm:Tr V} {a:Act} {v:V}
def Um(h:Below N w0 w)(hN:N<=w.heap.size){c:Nat}(hg:w.grownBy w' (some c))(hc:N<=c):Below N w0 w':=
 h.grown hg hN (λk hk=>by grind)
def KL.keep{k:Bk}{p:Nat×Nat}(h:KL φ k p w)(hp:w'.heap[p.1]?=w.heap[p.1]?):KL φ k p w':=by
 rcases h with⟨h0,cs,T,hc,r⟩|⟨h0,h00,l,h1,h2⟩|⟨h0,h00,h1⟩
 .exact .inl ⟨h0,cs,T,hp.trans hc,r⟩
 .exact .inr (.inl ⟨h0,h00,l,h1,h2.keep hp⟩)
 .refine .inr (.inr ⟨h0,h00,λj x hx hkn=>?_⟩);obtain⟨v,hv,hr⟩:=h1 j x hx hkn;grind[World.cell?_of_block]
theorem KL.ext{n:Nat}{φ':Ph}(he:Ext n φ φ')(ho:Old n φ){k:Bk}{p:Nat×Nat}(h:KL φ k p w):KL φ' k p w:=by
 rcases h with⟨h0,cs,T,hc,hr,r⟩|h|⟨h0,h00,h1⟩
 .exact .inl ⟨h0,cs,T,hc,hr.ext he ho,r⟩
 .exact .inr (.inl h)
 .refine .inr (.inr ⟨h0,h00,λj x hx hkn=>?_⟩);obtain⟨v,hv,hr⟩:=h1 j x hx hkn;exact⟨v,hv,hr.ext he ho⟩
def Rel.change(h:Rel N w0 φ J w){b:Nat}{p:Nat×Nat}{k:Bk}{h':Tr Bk}(hp:φ b=some p)(hl:(J.h.get b).isSome=true)(hput:Tr.put (some k) 40 J.h b=some h')
  (hN:N<=p.1) (hg:w.grownBy w' (some p.1)) (hk:KL φ k p w'):Rel N w0 φ ⟨h',J.aj⟩ w':=by
 have hget:∀j,h'.get j=if j=b then some k else J.h.get j:=λj=>Tr.get_put _ _ _ _ _ _ hput
 have hbn:b<J.aj:=by refine Nat.lt_of_not_le λhn=>?_;rw[(h.aj b hn).1]at hp;cases hp
 refine⟨h.n0,Um h.bel h.size hg hN,λi j pi pj hi hj e hNi li lj=>?_,λi pi hi=>aE (h.lo i pi hi) hg.size,λi k' pi hi hpi hlt=>?_,λi k' pi hi hpi=>?_,λi hi=>?_⟩
 .have live:∀i,(h'.get i).isSome=true->(J.h.get i).isSome=true:=λi hi=>by
   rw[hget]at hi;split at hi
   .next e=>rw[e];exact hl
   .exact hi
  exact h.inj i j pi pj hi hj e hNi (live i li) (live j lj)
 .change h'.get i=some k' at hi
  rw[hget]at hi
  split at hi
  .next e=>
   subst e
   rw[hp]at hpi
   cases hpi
   omega
  .exact h.fz i k' pi hi hpi hlt
 .change h'.get i=some k' at hi
  rw[hget]at hi
  split at hi
  .next e=>
   subst e
   cases hi
   rw[hp]at hpi
   cases hpi
   exact hk
  .next e=>
   refine(h.blk i k' pi hi hpi).keep (hg.block _ (h.lo i pi hpi) (λe2=>?_))
   have e2:pi.1=p.1:=by simpa using e2
   exact e (h.inj i b pi p hpi hp e2 jb (by rw[hi];rfl) hl)
 .refine⟨(h.aj i hi).1,?_⟩
  change h'.get i=none
  rw[hget,ae (by have:J.aj<=i:=hi;omega)]
  exact(h.aj i hi).2
def Rel.kill(h:Rel N w0 φ J w){b:Nat}{h':Tr Bk}(hput:Tr.put none 40 J.h b=some h'):Rel N w0 φ ⟨h',J.aj⟩ w:=by
 have hget:∀j,h'.get j=if j=b then none else J.h.get j:=λj=>Tr.get_put _ _ _ _ _ _ hput;have live:∀i k,h'.get i=some k->J.h.get i=some k/\i≠b:=λi k hi=>by grind
 refine⟨h.n0,h.bel,λi j pi pj hi hj e hNi li lj=>?_,h.lo,λi k' pi hi hpi hlt=>h.fz i k' pi (live i k' hi).1 hpi hlt,λi k' pi hi hpi=>h.blk i k' pi (live i k' hi).1 hpi,λi hi=>⟨(h.aj i hi).1,?_⟩⟩
 .obtain⟨k,hk⟩:=Option.isSome_iff_exists.mp li;obtain⟨k2,hk2⟩:=Option.isSome_iff_exists.mp lj;exact h.inj i j pi pj hi hj e hNi kd kd
 .show h'.get i=none;rw[hget];split
  .rfl
  .exact(h.aj i hi).2
def yM{J':St}{k:Bk}{b:Nat}(h:J.new k=some (b,J')):b=J.aj/\J'.aj=J.aj+1/\∀j,J'.h.get j=if j=J.aj then some k else J.h.get j:=by
 unfold St.new at h;split at h
 .next h' hp=>
  rw[jr]at h;cases h;exact⟨rfl,rfl,λj=>Tr.get_put _ _ _ _ _ _ hp⟩
 .cases h
def Rel.new(h:Rel N w0 φ J w){J':St}{k:Bk}{b c C:Nat}(hn:J.new k=some (b,J'))(hg:w.grownBy w' (some c))(hc:N<=c)(hcw:c<w'.heap.size)
  (hfree:∀i p,φ i=some p->(J.h.get i).isSome=true->p.1≠c) (hk:KL φ k (c,C) w'):Rel N w0 (Jm φ b (c,C)) J' w':=by
 obtain⟨rfl,hnx,hget⟩:=yM hn
 have hE:=yL φ J.aj (c,C)
 refine⟨h.n0,Um h.bel h.size hg hc,λi j pi pj hi hj e hNi li lj=>?_,λi pi hi=>?_,λi k' pi hi hpi hlt=>?_,λi k' pi hi hpi=>?_,λi hi=>?_⟩
 .by_cases ei:i=J.aj<;>by_cases ej:j=J.aj
  .omega
  .grind[iE,eH]
  .grind[iE,eH]
  .rw[eH φ _ ei]at hi
   rw[eH φ _ ej]at hj
   rw[hget,ae ei]at li
   rw[hget,ae ej]at lj
   exact h.inj i j pi pj hi hj e hNi li lj
 .by_cases ei:i=J.aj
  .grind[iE]
  .rw[eH φ _ ei]at hi
   exact aE (h.lo i pi hi) hg.size
 .by_cases ei:i=J.aj
  .grind[iE]
  .rw[eH φ _ ei]at hpi
   rw[hget,ae ei]at hi
   exact h.fz i k' pi hi hpi hlt
 .by_cases ei:i=J.aj
  .subst ei
   rw[iE]at hpi
   cases hpi
   rw[hget,ab rfl]at hi
   cases hi
   exact hk.ext hE h.old
  .rw[eH φ _ ei]at hpi
   rw[hget,ae ei]at hi
   refine((h.blk i k' pi hi hpi).keep (hg.block _ (h.lo i pi hpi) (λe2=>?_))).ext hE h.old
   grind
 .rw[hnx]at hi
  rw[eH φ _ jb,hget,ae jb]
  exact h.aj i jb
def Rel.land(h:Rel N w0 φ J w){k:Bk}{b C:Nat}{cs:Array Value}{T:TypeId}(hb:b<J.aj)(hf:φ b=none)(hk:J.h.get b=some k)(ho:k.opn=none)
  (hr:lX φ k.cells cs.toList):Rel N w0 (Jm φ b (w.heap.size,C)) J (w.alloc (.cells cs T))/\(∀i,i≠b->Jm φ b (w.heap.size,C) i=φ i):=by
 have asr:∀{x:B}{v:Value},RB φ x v->RB (Jm φ b (w.heap.size,C)) x v:=λ{x v} hv=>by
  have hs:∀{i:Nat}{p:Nat×Nat},φ i=some p->Jm φ b (w.heap.size,C) i=some p:=λ{i p} hi=>by grind[eH]
  cases x<;>simp only[RB]at hv⊢ <;>try exact hv
  case ptr=>grind
  case sl=>
   rcases hv with⟨p,K,hp,e,r⟩|hv
   .grind
   grind
  grind
 have hext:∀{l:List B}{r:List Value},lX φ l r->lX (Jm φ b (w.heap.size,C)) l r:=by
  intro l r hv;induction l generalizing r with
  |nil=>cases r with
   |nil=>trivial
   |cons=>exact hv.elim
  |cons x l ih=>cases r with
   |nil=>exact hv.elim
   |cons v r=>exact⟨asr hv.1,ih hv.2⟩
 have hg:w.grownBy (w.alloc (.cells cs T)) none:=World.grownBy_alloc w _ none
 refine⟨⟨h.n0,h.bel.grown hg h.size (λk hk=>by cases hk),λi j pi pj hi hj e hNi li lj=>?_,λi pi hi=>?_,λi k' pi hi hpi hlt=>?_,λi k' pi hi hpi=>?_,λi hi=>?_⟩,λi hi=>eH φ _ hi⟩
 .by_cases ei:i=b<;>by_cases ej:j=b
  .omega
  .exfalso
   subst ei
   rw[iE]at hi
   rw[eH φ _ ej]at hj
   cases hi
   have:=h.lo j pj hj
   omega
  .exfalso
   subst ej
   rw[iE]at hj
   rw[eH φ _ ei]at hi
   cases hj
   have:=h.lo i pi hi
   omega
  .rw[eH φ _ ei]at hi
   rw[eH φ _ ej]at hj
   exact h.inj i j pi pj hi hj e hNi li lj
 .by_cases ei:i=b
  .subst ei
   rw[iE]at hi
   cases hi
   simp
  .rw[eH φ _ ei]at hi
   exact aE (h.lo i pi hi) hg.size
 .by_cases ei:i=b
  .subst ei
   rw[iE]at hpi
   cases hpi
   have:=h.size
   omega
  .rw[eH φ _ ei]at hpi
   exact h.fz i k' pi hi hpi hlt
 .by_cases ei:i=b
  .subst ei
   rw[iE]at hpi
   cases hpi
   rw[hk]at hi
   cases hi
   refine .inl ⟨by grind[Bk.pl],cs,T,heap_alloc_new w _,?_,?_,λe t h0=>by grind⟩
   .rw[eh (by rw[hr.length];omega)]
    grind
   .rw[hr.length,cD];omega
  .rw[eH φ _ ei]at hpi
   rcases h.blk i k' pi hi hpi with⟨h0,cs',T',h1,h2,h3⟩|⟨h0,h00,l,h1,h2⟩|⟨h0,h00,h1⟩
   .exact .inl ⟨h0,cs',T',(hg.block _ (h.lo i pi hpi) kc).trans h1,hext h2,h3⟩
   .exact .inr (.inl ⟨h0,h00,l,h1,h2.keep (hg.block _ (h.lo i pi hpi) kc)⟩)
   .refine .inr (.inr ⟨h0,h00,λj x hx hkn=>?_⟩)
    obtain⟨v,hv,hr⟩:=h1 j x hx hkn
    exact⟨v,by rw[World.cell?_of_block (w:=w) (a:=⟨pi.1,j,none⟩) (hg.block _ (h.lo i pi hpi) kc)];exact hv,asr hr⟩
 .rw[eH φ _ jb]
  exact h.aj i hi
end
def PN(P:Program)(t:TypeId)(z:List B):Bool:=match P.info? t with|some i=>(match i.zero with|some zv=>kBs zv.cells.toList z|none=>false)|none=>false
def TA(P:Program)(op:Op):xq->Bool
 |.alloc z=>(match op with|.alloc e=>PN P e z|_=>false)
 |.box y=>(match op with|.box _ x=>wQ x y|_=>false)
 |.Nu bytes z l' c'=>(match op with|.makeSlice t l c=>wQ l l'&&wQ c c'&&(match P.underlying t with
   |some (.slice el)=>PN P el z&&Wh P el z.length&&(match P.info? el with|some i=>Nat.beq i.bytes bytes|none=>false)|_=>false)|_=>false)
 |.bsl e n z ps=>(match op with|.buildSlice t len parts=>Nat.beq len n&&Nat.beq z.length e&&Jj (λi=>some (i*e,e)) parts.toList ps&&(match P.underlying t with
   |some (.slice el)=>PN P el z&&Wh P el e|_=>false)|_=>false)
 |_=>false
def Ep{P:Program}{t:TypeId}{z:List B}(h:PN P t z=true):∃i zv,P.info? t=some i/\i.zero=some zv/\∀φ,lX φ z zv.cells.toList:=by grind[PN,Ob]
def YS{r:Array Value}{l:List B}(h:lX (λ_=>none) l r.toList):r.size=l.length:=by rw[h.length,cD]
theorem YT (z:Array Value) (i:Nat):z[(i+z.size)%z.size]! = z[i%z.size]!:=by simp
theorem PO {φ:Ph} (z:Array Value) (l:List B) (h:lX φ l z.toList) : ∀ m,lX φ (rep l m) ((Array.range (m*z.size)).map (z[· % z.size]!)).toList
 | 0=>by simp [rep,lX]
 | m+1=>by
  have ih:=PO z l h m
  have e:((Array.range ((m+1)*z.size)).map (z[· % z.size]!)).toList=z.toList ++ ((Array.range (m*z.size)).map (z[· % z.size]!)).toList:=by
   apply List.ext_getElem
   ·grind
   ·intro i h1 h2
    rw [List.getElem_append]
    split
    ·grind[Nat.mod_eq_of_lt]
    ·next hge =>
     have hge' : z.size≤i:=by grind
     simp only [Array.length_toList,Array.toList_map,List.getElem_map,Array.getElem_toList,Array.getElem_range]
     conv=>lhs;rw [show i=i - z.size+z.size by omega,YT]
  rw [e]
  exact h.append ih
section
variable {P:Program} {N:Nat} {w0 w:World} {φ:Ph} {J:St} {tm:Tr V} {a:Act} {v:V}
def YN(P:Program)(w:World)(φ:Ph)(a:Act)(op:Op)(l:List B)(vf:Nat->V):Prop:=
 ∀o:Oper,o.op=op->∃cs T cv,(execOp a.eval o).run P w=.ok (.value cv) (w.alloc (.cells cs T))/\lX φ l cs.toList/\∀φ' b,φ' b=some (w.heap.size,0)->RV φ' (vf b) cv
def aoq{op:Op}{z:List B}{l:List B}{vf:Nat->V}(hi:TA P op (.alloc z)=true)(h:oO (.alloc z) tm=some (l,vf)):YN P w φ a op l vf:=by
 simp only[TA]at hi;simp only[oO,aT,cQ]at h;obtain⟨rfl,rfl⟩:=h;intro o ho;split at hi
 .next e=>
  obtain⟨i,zv,h1,h2,h3⟩:=Ep hi;exact⟨zv.cells,e,.pointer (some ⟨w.heap.size,0,none⟩),by simp_all[execOp,Instr.alloc,zeroValue,typeInfo,newVar,newRow],h3 φ,λφ' b hb=>⟨_,hb,rfl⟩⟩
 grind
theorem ayd{op:Op}{y:O}{l:List B}{vf:Nat->V}(hi:TA P op (.box y)=true)(h:oO (.box y) tm=some (l,vf))(ht:RT φ tm a):YN P w φ a op l vf:=by
 simp only[TA]at hi;simp only[oO]at h;intro o ho;split at hi
 .next e x=>
  have hx:=bW hi ht;split at h
  .next l' hl=>
   cases h;exact⟨(a.eval x).cells,e,.pointer (some ⟨w.heap.size,0,none⟩),by simp_all[execOp,Instr.box,newVar,newRow],hx.cells hl,λφ' b hb=>⟨_,hb,rfl⟩⟩
  .cases h
 grind
theorem atG{op:Op}{bytes:Nat}{z:List B}{x y:O}{l:List B}{vf:Nat->V}(hi:TA P op (.Nu bytes z x y)=true)(h:oO (.Nu bytes z x y) tm=some (l,vf))(ht:RT φ tm a):YN P w φ a op l vf:=by
 simp only[TA]at hi;simp only[oO]at h;intro o ho;split at hi
 .next t X Y=>
  simp only[af]at hi;have hx:=bW hi.1.1 ht;have hy:=bW hi.1.2 ht;have h2:=hi.2;split at h2
  .next el hel=>
   simp only[af]at h2;obtain⟨⟨z1,z2⟩,z3⟩:=h2;obtain⟨i,zv,e1,e2,e3⟩:=Ep z1;rw[e1]at z3;have z3:=aq z3;have hsz:i.size=z.length:=by grind[Wh,Nat.eq_of_beq_eq_true]
   have hzs:zv.cells.size=z.length:=YS (e3 _);split at h
   .next n m hn hm=>
    rw[sS hn]at hx;rw[sS hm]at hy;simp only[RV,RB]at hx hy;cases hb:(Nat.ble n m&&(Nat.ble (bytes*m) 281474976710656&&Nat.ble m 1073741824))with
    |false=>grind
    |true=>
     rw[hb]at h
     cases h
     simp only[af]at hb
     have b1:=ax hb.1
     have b2:=ax hb.2.1
     have b3:=ax hb.2.2
     have hrun:=run_make (P:=P) w t el i zv hel e1 e2 .i64 .i64 (n:Int) (m:Int) jb jb kd jb
     refine⟨madeCells zv.cells (m*i.size),el,.slice (some ⟨w.heap.size,0,none⟩) n m,?_,?_,λφ' b hb=>.inl ⟨_,m,hb,rfl,b1,jb,rfl⟩⟩
     .simp_all[execOp]
     grind[PO,madeCells]
   .cases h
  grind
 grind
theorem aye{op:Op}{e n:Nat}{z:List B}{ps:List (Nat×Nat×O)}{l:List B}{vf:Nat->V}(hi:TA P op (.bsl e n z ps)=true)(h:oO (.bsl e n z ps) tm=some (l,vf))(ht:RT φ tm a):YN P w φ a op l vf:=by
 simp only[TA]at hi;simp only[oO]at h;intro o ho;split at hi
 .next t len parts=>
  simp only[af]at hi;obtain⟨⟨⟨i1,i2⟩,i3⟩,i4⟩:=hi;have i1:=aq i1;have i2:=aq i2;subst i1;split at i4
  .next el hel=>
   rw[af]at i4;obtain⟨i,zv,e1,e2,e3⟩:=Ep i4.1;have hs:=BD i4.2 w;have hzs:zv.cells.size=z.length:=YS (e3 _);cases hb:(Nat.ble (len*e) 16777216&&Nat.ble len 16777216)with
   |false=>grind
   |true=>
    rw[hb]at h
    rw[af]at hb
    have hb2:=ax hb.2
    have hb:=ax hb.1
    simp only[bB]at h
    split at h
    .next l' hl=>
     cases h
     have hz0:lX φ (rep z len) ((Array.range (len*e)).map (zv.cells[· %zv.cells.size]!)).toList:=by grind[PO]
     obtain⟨r,f1,f2,-⟩:=KO ht _ _ _ _ _ _ i3 hl hz0
     refine⟨r,el,.slice (some ⟨w.heap.size,0,none⟩) len len,?_,f2,λφ' b hb=>.inl ⟨_,len,hb,rfl,jp,jb,rfl⟩⟩
     have hpar:(parts.map λ(x:Nat×Operand)=>(x.1,a.eval x.2)).toList=parts.toList.map λx=>(x.1,a.eval x.2):=by simp
     simp only[execOp,ho,Instr.buildSlice,Sem.run_bind,run_underlying hel,Result.andThen_ok,hs,Sem.run_ite]
     rw[ae jb]
     by_cases h0:len*e=0
     .have hemp:((Array.range (len*e)).map (zv.cells[· %zv.cells.size]!))= #[]:=by grind
      simp_all[Array.range_zero',newRow]
     simp_all[zeroValue,typeInfo,newRow]
    .cases h
  grind
 grind
def PS{op:Op}{ao:xq}{l:List B}{vf:Nat->V}(hi:TA P op ao=true)(h:oO ao tm=some (l,vf))(ht:RT φ tm a):YN P w φ a op l vf:=by
 cases ao
 case alloc=>exact aoq hi h
 case box=>grind[ayd]
 case Nu=>grind[atG]
 case bsl=>grind[aye]
 all_goals cases hi
end
def ajh(P:Program)(t ty e bytes:Nat):Bool:=
 match P.underlying t with
 |some (.slice el)=>(match P.info? el with
  |some i=>(match i.zero with
   |some zv=>Nat.beq el ty&&(Nat.beq i.size e&&(Nat.beq i.bytes bytes&&Nat.beq zv.cells.size e))
   |none=>false)
  |none=>false)
 |_=>false
def ab1{P:Program}{t ty e bytes:Nat}(h:ajh P t ty e bytes=true):∃i zv,P.underlying t=some (.slice ty)/\P.info? ty=some i/\i.zero=some zv/\i.size=e/\i.bytes=bytes/\zv.cells.size=e:=by grind[ajh,Nat.eq_of_beq_eq_true]
def Ny(P:Program)(op:Op):xq->Bool
 |.store n y z=>(match op with|.store t x u=>wQ x y&&wQ u z&&Wh P t n|_=>false)
 |.app ty e bytes s' x'=>(match op with
  |.call c=>(match c.callee with
   |.builtin .append=>(match c.args.toList,c.argTypes.toList with
    |[s,x],[t,t']=>Nat.beq t t'&&wQ s s'&&wQ x x'&&ajh P t ty e bytes
    |_,_=>false)
   |_=>false)
  |_=>false)
 |.Px=>(match op with|.makeMap _ none=>true|_=>false)
 |.MI=>(match op with|.makeMap t none=>Nat.beq t 143|_=>false)
 |.V3 m' k' v'=>(match op with|.mapUpdate t m k v=>wQ m m'&&wQ k k'&&wQ v v'&&Nat.beq t 143|_=>false)
 |_=>false
def YU{α:Type}(A rs:List α)(o L:Nat)(h:o+rs.length<=L)(hL:L<=A.length):
  (A.take o++rs++A.drop (o+rs.length)).take L=(A.take L).take o++rs++(A.take L).drop (o+rs.length):=by
 have h1:(A.take o++rs).length=o+rs.length:=by grind
 grind[List.take_append,List.take_of_length_le,List.drop_take]
section
variable {P:Program} {N:Nat} {w0 w w' : World} {φ:Ph} {J J' : St} {tm:Tr V} {a:Act} {v:V}
def Es(w:World)(g:Nat)(cs:Array Value):w.grownBy (w.setRow g cs) (some g):=
 ⟨rfl,rfl,rfl,by simp,λk _ hk=>setRow_other w g k _ (λe=>hk (by simp[e]))⟩
def YA(P:Program)(N:Nat)(w0:World)(w:World)(φ:Ph)(J:St)(a:Act)(op:Op)(v:V)(J':St):Prop:=
 ∀o:Oper,o.op=op->∃nx cv w',(execOp a.eval o).run P w=.ok nx w'/\(nx=.value cv\/(nx=.skip/\cv=undef))/\∃φ',Ext J.aj φ φ'/\Rel N w0 φ' J' w'/\RV φ' v cv/\J.aj<=J'.aj
theorem Rel.sto(hR:Rel N w0 φ J w){b off:Nat}{k:Bk}{p:Nat×Nat}{vs l:List B}{rs:List Value}{h':Tr Bk}(hk:J.h.get b=some k)(hp:φ b=some p)(hpl:k.pl=true)(hl:yc k.cells off vs=some l)(hv:lX φ vs rs)
  (hput:Tr.put (some ⟨l,k.opn⟩) 40 J.h b=some h'):∃cs T,w.heap[p.1]?=some (.cells cs T (0,0))/\off+rs.length<=cs.size/\Rel N w0 φ ⟨h',J.aj⟩ (w.setRow p.1 (cs.toList.take off++rs++cs.toList.drop (off+rs.length)).toArray):=by
 obtain⟨cs,T,hc,hr,hle,hop⟩:=(hR.blk b k p hk hp).plain hpl
 obtain⟨h1,h2⟩:=V9 off k.cells vs l _ _ hl hr hv
 have hvl:=hv.length
 have hl2:l.length=k.cells.length:=by rw[h2.length];simp only[az,cN,fg,cD];omega
 refine⟨cs,T,hc,jb,hR.change hp (by rw[hk];rfl) hput (hR.hi hk hp (.inl hpl)) (Es w p.1 _) (.inl ⟨hpl,_,T,setRow_heap w p.1 cs _ T _ hc,?_,?_,λe' t' h0=>?_⟩)⟩
 .rw[hl2,YU _ _ _ _ jb (by rw[cD];exact hle)]
  exact h2
 .simp only[hl2,gc,az,cN,fg,cD]
  omega
 .obtain⟨q1,q2,q3⟩:=hop e' t' h0
  refine⟨q1,?_,q3⟩
  rw[<-q2]
  simp only[gc,az,cN,fg,cD]
  omega
theorem aor(hR:Rel N w0 φ J w){op:Op}{n:Nat}{y z:O}(hi:Ny P op (.store n y z)=true)(h:wP (.store n y z) tm J=some (v,J'))(ht:RT φ tm a):YA P N w0 w φ J a op v J':=by
 simp only[Ny]at hi;simp only[wP]at h;intro o ho;split at hi
 .next t x u=>
  simp only[af]at hi;have hx:=bW hi.1.1 ht;have hu:=bW hi.1.2 ht;have hs:=BD hi.2 w;split at h
  .next b off vs ex eu=>
   rw[ex]at hx;obtain⟨p,hp,e⟩:=hx;have hv:=hu.cells eu;cases hb:Nat.beq vs.length n with
   |false=>grind
   |true=>
    rw[hb]at h
    have hb:=aq hb
    simp only[bB]at h
    split at h
    .next k hk=>
     split at h
     .next l hl=>
      split at h
      .next h' hput=>
       cases h
       obtain⟨hpl,hl⟩:k.pl=true/\yc k.cells off vs=some l:=by grind
       obtain⟨cs,T,hc,hle,hR2⟩:=hR.sto hk hp hpl hl hv hput
       have hst:=run_storeCells_at P p.1 off T (a.eval u).cells.toList 0 cs w hc jb hv.oneCell
       simp only[cy]at hst
       have hsz:(a.eval u).cells.size=n:=by rw[<-cD,<-hv.length,hb]
       refine⟨.skip,undef,_,?_,.inr ⟨rfl,rfl⟩,φ,Ext.refl _ _,hR2,trivial,jp⟩
       simp only[execOp,ho,Instr.storeAt,Instr.sureAddr,e,storeVar,Sem.run_bind,Sem.run_pure,Result.andThen_ok,hs,hsz]
       simp[hst]
      .cases h
     .cases h
    .cases h
  .cases h
 grind
def aji{t ty el T:TypeId}{i:TypeInfo}(ht:P.underlying t=some (.slice el))(hi:P.info? el=some i){g n K:Nat}{cs:Array Value}(hg:w.heap[g]?=some (.cells cs T (0,0))){A:Addr}{m c:Nat}{news:List Value}(hl:news.length=m*i.size)
  (hA:∀j u,news[j]?=some u->w.cell? (A.add j)=some u) (h1:∀u∈news,u.oneCell'=true) (hroom:n+m<=K) (hfit:n*i.size+news.length<=cs.size):
  (Builtin.append_ #[t,t] ty #[.slice (some ⟨g,0,none⟩) n K,.slice (some A) m c]).run P w=.ok (.slice (some ⟨g,0,none⟩) (n+m) K) (w.setRow g (cs.toList.take (n*i.size)++news++cs.toList.drop (n*i.size+news.length)).toArray):=by
 have hf:=run_firstCells_some (P:=P) w i.size m A m c news hl hA
 have hst:=run_storeCells_at P g (n*i.size) T news 0 cs w hg (by simpa using hfit) h1
 simp only[cy]at hst
 simp[Builtin.append_,run_underlying ht,sizeOf,typeInfo,hi,Builtin.lenOf,hroom,hf,Addr.add_lit,hst]
theorem ajj{t ty el:TypeId}{i:TypeInfo}(ht:P.underlying t=some (.slice el))(hi:P.info? el=some i)(A B:Option Addr)(n K k:Nat)(hK:n<=K):
  (Builtin.append_ #[t,t] ty #[.slice A n K,.slice B 0 k]).run P w=.ok (.slice A n K) w:=by
 cases A<;>cases B<;>simp[Builtin.append_,run_underlying ht,sizeOf,typeInfo,hi,Builtin.lenOf,Builtin.firstCells,hK,storeCells,loadCells,loadCellsFrom]
def PU(hR:Rel N w0 φ J w){news:List B}{rs:List Value}{iP ty b m C:Nat}{zv:Array Value}(hn:J.new ⟨news,some (iP,ty)⟩=some (b,J'))(hr:lX φ news rs)(hl:rs.length=m*iP)(hez:0<iP)
  (hz:zv.size=iP) (hC:m<=C) (hM:C<=maxLen):∃φ',Ext J.aj φ φ'/\Rel N w0 φ' J' (w.drew.alloc (.cells (rs.toArray++Builtin.zeroCells zv (C-m)) ty))/\φ' b=some (w.heap.size,C)/\J.aj<=J'.aj:=by
 obtain⟨rfl,hnx,-⟩:=yM hn
 have hg:w.grownBy (w.drew.alloc (.cells (rs.toArray++Builtin.zeroCells zv (C-m)) ty)) (some w.heap.size):=⟨rfl,rfl,rfl,by simp,λk hk _=>Below.heap_alloc w.drew _ k hk⟩
 refine⟨_,yL φ J.aj (w.heap.size,C),hR.new hn hg hR.size kc (λi p hi _ e=>?_) (.inl ⟨F5 hez,_,ty,heap_alloc_new w.drew _,?_,?_,λe t h0=>?_⟩),iE _ _ _,jb⟩
 .have:=hR.lo i p hi
  omega
 .simp only[Array.toList_append]
  rw[gP (by rw[hr.length];omega),eh (by rw[hr.length];omega)]
  exact hr
 .simp only[Array.size_append,gc,<-hr.length]
  omega
 .simp only[aT,cQ]at h0
  obtain⟨rfl,rfl⟩:=h0
  refine⟨rfl,?_,hM⟩
  simp only[Array.size_append,gc,size_zeroCells,hz,hl,<-gO]
  grind
def agk(hR:Rel N w0 φ J w){t ty el:TypeId}{i:TypeInfo}{zv:Value}(hu:P.underlying t=some (.slice el))(hi:P.info? el=some i)(hz:i.zero=some zv)(hzs:zv.cells.size=i.size)
  {s:V}{sv:Value}(hs:RV φ s sv){m k:Nat}{B:Option Addr}{news:List Xe.B}{rs:List Value}(hr:lX φ news rs) (hl:rs.length=m*i.size)
  (hB:m=0\/∃A,B=some A/\∀j u,rs[j]?=some u->w.cell? (A.add j)=some u)
  (h:sH el i.size i.bytes s m news J=some (v,J')):
  ∃cv w',(Builtin.append_ #[t,t] ty #[sv,.slice B m k]).run P w=.ok cv w'/\∃φ',Ext J.aj φ φ'/\Rel N w0 φ' J' w'/\RV φ' v cv/\J.aj<=J'.aj:=by
 have Z:∀{A:Option Addr}{n K:Nat},m=0->n<=K->sv=.slice A n K->(Builtin.append_ #[t,t] ty #[sv,.slice B m k]).run P w=.ok sv w:=λ{A n K} h0 hK e=>by grind[ajj]
 unfold sH at h
 split at h
 .have e:sv=.slice none 0 0:=hs
  cases h0:Nat.beq m 0 with
  |true=>
   grind[Nat.eq_of_beq_eq_true,Ext.refl]
  |false=>
   rw[h0]at h
   have h0:¬m=0:=λe=>by simp_all
   simp only[dT]at h
   cases hb:(Nat.blt 0 i.size&&(Nat.ble (m*i.bytes) 140737488355328&&Nat.ble m 1073741824))with
   |false=>rw[hb]at h;cases h
   |true=>
    rw[hb]at h
    simp only[af]at hb
    have b0:0<i.size:=ax hb.1
    have b1:=ax hb.2.1
    have b2:=ax hb.2.2
    simp only[bB]at h
    split at h
    .next b PV hn=>
     cases h
     obtain⟨A,rfl,hA⟩:=hB.resolve_left h0
     have hrun:=run_append_nil (P:=P) w t ty el i zv hu hi hz A m k rs hl hA jb jb jb
     obtain⟨φ',q1,q2,q3,q4⟩:=PU hR (C:=grownCap w m 0 el) hn hr hl b0 hzs (grownCap_ge w m 0 el) (grownCap_le_maxLen w m 0 el (by simp only[maxLen];omega))
     exact⟨_,_,by rw[e];exact hrun,φ',q1,q2,.inl ⟨_,_,q3,rfl,grownCap_ge w m 0 el,(grownCap_le_maxLen w m 0 el (by simp only[maxLen];omega)),rfl,rfl⟩,q4⟩
    .cases h
 .next b o n=>
  obtain⟨p,K,hp,e,hnK,hKM,ho0,hKC⟩:=hs.resolve_right λhw=>by cases hw.2.1
  cases h0:Nat.beq m 0 with
  |true=>
   rw[h0]at h
   cases h
   have h0:=aq h0
   exact⟨sv,w,Z h0 hnK e,φ,Ext.refl _ _,hR,.inl ⟨p,K,hp,e,hnK,hKM,ho0,hKC⟩,jp⟩
  |false=>
   rw[h0]at h
   have h0:¬m=0:=λe=>by rw[e]at h0;simp at h0
   simp only[dT]at h
   obtain⟨A,rfl,hA⟩:=hB.resolve_left h0
   split at h
   .next cells e' t' hk=>
    cases hb:(Nat.blt 0 e'&&Nat.beq o 0&&(Nat.beq e' i.size&&(Nat.beq t' el&&(Nat.ble ((n+m)*i.bytes) 140737488355328&&(Nat.ble (n+m) 1073741824&&Nat.ble (n*i.size) cells.length)))))with
    |false=>rw[hb]at h;cases h
    |true=>
     rw[hb]at h
     simp only[af]at hb
     obtain⟨⟨b0,-⟩,c2,c3,c4,c5,c6⟩:=hb
     have b0:0<e':=ax b0
     have c2:=aq c2
     have c3:=aq c3
     have c4:=ax c4
     have c5:=ax c5
     have c6:=ax c6
     subst c2 c3 ho0 hKC
     simp only[bB]at h
     obtain⟨cs,T,hc,hrb,hle,hop⟩:=(hR.blk b _ p hk hp).plain (F5 b0)
     have hNp:=hR.hi hk hp (.inl (F5 b0))
     obtain⟨rfl,hcsz,hCM⟩:=hop _ _ rfl
     simp only at hrb hle
     split at h
     .next h' hput=>
      have hR2:=hR.kill hput
      split at h
      .next b' PV hn=>
       simp only[jr]at h
       cases h
       have hold:lX φ (cells.take (n*i.size)) (cs.toList.take (n*i.size)):=by have:=hrb.take (n*i.size);rwa[List.take_take,im c6]at this
       have hol:(cs.toList.take (n*i.size)).length=n*i.size:=by rw[cN,cD];omega
       have hall:=hold.append hr
       have ajk:(cs.toList.take (n*i.size)++rs).length=(n+m)*i.size:=by rw[az,hol,hl,gO]
       by_cases hroom:n+m<=p.2
       .have hfit:n*i.size+rs.length<=cs.size:=by rw[hl,hcsz,<-gO];exact bq _ hroom
        have hrun:=run_append_room (P:=P) w t ty T i hu hi p.1 n p.2 cs hc A m k rs hl hA hr.oneCell hroom hfit
        obtain⟨hb',hnx,hget⟩:=yM hn
        subst hb'
        have hnew:=hR2.new (c:=p.1) (C:=p.2) hn (Es w p.1 (cs.toList.take (n*i.size)++rs++cs.toList.drop (n*i.size+rs.length)).toArray) hNp (by simpa using hR.lo b p hp) (λj pj hj lj ej=>?_) (.inl ⟨F5 b0,_,T,setRow_heap w p.1 cs _ T _ hc,?_,?_,λe t h9=>?_⟩)
        .refine⟨_,_,by rw[e];exact hrun,_,yL φ J.aj _,hnew,.inl ⟨p,p.2,iE _ _ _,rfl,hroom,by first|omega|exact hKC▸hKM,rfl,rfl⟩,?_⟩
         simp only at hnx
         omega
        .have hj2:(J.h.get j).isSome=true/\j≠b:=by
          simp only[Tr.get_put _ _ _ _ _ j hput]at lj;split at lj
          .cases lj
          .next ne=>exact⟨lj,ne⟩
         exact hj2.2 (hR.inj j b pj p hj hp ej jb hj2.1 (by rw[hk];rfl))
        .have e9:List.take (cells.take (n*i.size)++news).length (cs.toList.take (n*i.size)++rs++cs.toList.drop (n*i.size+rs.length))=cs.toList.take (n*i.size)++rs:=by rw[hall.length];exact List.take_left
         show lX φ (cells.take (n*i.size)++news) (List.take _ _)
         rw[e9]
         exact hall
        .simp only[hall.length,gc,az]
         omega
        .simp only[aT,cQ]at h9
         obtain⟨rfl,rfl⟩:=h9
         refine⟨rfl,?_,hCM⟩
         rw[<-hcsz]
         simp only[gc,az,fg,hol,cD]
         omega
       .have holds:∀j u,(cs.toList.take (n*i.size))[j]?=some u->w.cell? ((⟨p.1,0,none⟩:Addr).add j)=some u:=λj u hj=>by
         rw[Addr.add_lit,cx,cell_of_row w p.1 j cs T (0,0) hc];rw[List.getElem?_take]at hj;split at hj
         .simpa using hj
         .cases hj
        have hrun:=run_append_grow (P:=P) w t ty T i zv hu hi hz ⟨p.1,0,none⟩ n p.2 _ hol holds A m k rs hl hA jb jb (growslice_fits jb c4)
        obtain⟨φ',q1,q2,q3,q4⟩:=PU hR2 (C:=grownCap w (n+m) p.2 T) hn hall ajk b0 hzs (grownCap_ge w (n+m) p.2 T) (grownCap_le_maxLen w (n+m) p.2 T (by simp only[maxLen];omega))
        refine⟨_,_,by rw[e];exact hrun,φ',q1,?_,.inl ⟨_,_,q3,rfl,grownCap_ge w (n+m) p.2 T,(grownCap_le_maxLen w (n+m) p.2 T (by simp only[maxLen];omega)),rfl,rfl⟩,q4⟩
        simpa using q2
      .cases h
     .cases h
   .cases h
 .next b o n kk=>
  obtain⟨p,K,hp,e,hnK,hKM,hKC⟩:=hs.resolve_right λhw=>by cases hw.2.1
  have hKC:K=kk:=hKC
  subst hKC
  cases h0:Nat.beq m 0 with
  |true=>
   rw[h0]at h
   have h0:=aq h0
   simp only[bB]at h
   cases hb:Nat.ble n K with
   |false=>rw[hb]at h;cases h
   |true=>
    rw[hb]at h
    cases h
    exact⟨sv,w,Z h0 hnK e,φ,Ext.refl _ _,hR,.inl ⟨p,K,hp,e,hnK,hKM,rfl⟩,jp⟩
  |false=>
   rw[h0]at h
   have h0:¬m=0:=λe=>by rw[e]at h0;simp at h0
   simp only[dT]at h
   obtain⟨A,rfl,hA⟩:=hB.resolve_left h0
   split at h
   .next bk hk=>
    cases hb:((bk.rd&&(Nat.blt 0 i.size&&((bk.cells.drop o).take (n*i.size)).all B.kn))&&Nat.blt K (n+m)&&(Nat.ble ((n+m)*i.bytes) 140737488355328&&(Nat.ble (n+m) 1073741824&&Nat.ble (o+n*i.size) bk.cells.length)))with
    |false=>
     rw[hb]at h
     simp only[dT]at h
     cases hb2:(bk.pl&&Nat.beq o 0&&Nat.ble (n+m) K)with
     |false=>rw[hb2]at h;cases h
     |true=>
      rw[hb2]at h
      simp only[af]at hb2
      obtain⟨⟨hpl,c1⟩,c2⟩:=hb2
      have c1:=aq c1
      have c2:=ax c2
      subst c1
      simp only[bB]at h
      split at h
      .next l hl2=>
       split at h
       .next h' hput=>
        simp only[jr]at h
        cases h
        obtain⟨cs,T,hc,hle,hR2⟩:=hR.sto hk hp hpl hl2 hr hput
        exact⟨_,_,by rw[e];exact aji hu hi hc hl hA hr.oneCell c2 hle,φ,Ext.refl _ _,hR2,.inl ⟨p,K,hp,rfl,c2,hKM,rfl⟩,jp⟩
       .cases h
      .cases h
    |true=>
     rw[hb]at h
     simp only[af]at hb
     obtain⟨⟨⟨hrd,b0,hkn⟩,c1⟩,c4,c5,c6⟩:=hb
     have b0:0<i.size:=ax b0
     have c1:K<n+m:=ax c1
     have c4:=ax c4
     have c5:=ax c5
     have c6:=ax c6
     simp only[bB]at h
     obtain⟨xs,hold,hxs⟩:=hR.reads hk hrd hp ((bk.cells.drop o).take (n*i.size)) o (λj x hj=>AL hj) hkn
     split at h
     .next b' PV hn=>
      simp only[jr]at h
      cases h
      have hol:xs.length=n*i.size:=by rw[<-hold.length,cN,fg];omega
      have hall:=hold.append hr
      have ajk:(xs++rs).length=(n+m)*i.size:=by rw[az,hol,hl,gO]
      have holds:∀j u,xs[j]?=some u->w.cell? ((⟨p.1,o,none⟩:Addr).add j)=some u:=λj u hj=>by rw[Addr.add_lit];exact hxs j u hj
      have hrun:=run_append_grow (P:=P) w t ty el i zv hu hi hz ⟨p.1,o,none⟩ n K _ hol holds A m k rs hl hA c1 jb (growslice_fits c1 c4)
      obtain⟨φ',q1,q2,q3,q4⟩:=PU hR (C:=grownCap w (n+m) K el) hn hall ajk b0 hzs (grownCap_ge w (n+m) K el) (grownCap_le_maxLen w (n+m) K el (by simp only[maxLen];omega))
      refine⟨_,_,by rw[e];exact hrun,φ',q1,?_,.inl ⟨_,_,q3,rfl,grownCap_ge w (n+m) K el,(grownCap_le_maxLen w (n+m) K el (by simp only[maxLen];omega)),rfl,rfl⟩,q4⟩
      simpa using q2
     .cases h
   .cases h
 .next b o n=>
  cases h0:Nat.beq m 0 with
  |false=>rw[h0]at h;cases h
  |true=>
   rw[h0]at h
   cases h
   have h0:=aq h0
   rcases hs with⟨p,K,hp,e,hnK,hKM,-⟩|⟨rfl,-,A,K,e,hKM⟩
   .exact⟨sv,w,Z h0 hnK e,φ,Ext.refl _ _,hR,.inl ⟨p,K,hp,e,hnK,hKM,trivial⟩,jp⟩
   .exact⟨sv,w,Z h0 (aR _) e,φ,Ext.refl _ _,hR,.inr ⟨rfl,rfl,A,K,e,hKM⟩,jp⟩
 .cases h
theorem ayf(hR:Rel N w0 φ J w){op:Op}{ty e bytes:Nat}{s x:O}(hi:Ny P op (.app ty e bytes s x)=true)(h:wP (.app ty e bytes s x) tm J=some (v,J'))(ht:RT φ tm a):YA P N w0 w φ J a op v J':=by
 simp only[Ny]at hi;simp only[wP]at h;intro o ho;split at hi
 .next c=>
  split at hi
  .next aBA=>
   split at hi
   .next S X t t' hargs ayg=>
    simp only[af]at hi;obtain⟨⟨⟨i1,i2⟩,i3⟩,i4⟩:=hi;have i1:=aq i1;subst i1;have hs:=bW i2 ht;have hx:=bW i3 ht;have hargs:c.args= #[S,X]:=by grind
    have ayg:c.argTypes= #[t,t]:=by grind
    obtain⟨i,zv,hel,aog,hzv,k1,k2,k3⟩:=ab1 i4;subst k1 k2;have fin:∀{B:Option Addr}{m k:Nat}{news:List Xe.B}{rs:List Value},a.eval X=.slice B m k->lX φ news rs->rs.length=m*i.size->
      (m=0\/∃A,B=some A/\∀j u,rs[j]?=some u->w.cell? (A.add j)=some u)->sH ty i.size i.bytes (s.ev tm) m news J=some (v,J')->
      ∃nx cv w',(execOp a.eval o).run P w=.ok nx w'/\(nx=.value cv\/(nx=.skip/\cv=undef))/\∃φ',Ext J.aj φ φ'/\Rel N w0 φ' J' w'/\RV φ' v cv/\J.aj<=J'.aj:=λ{B m k news rs} hX hr hl hB hap=>by
     obtain⟨cv,w',h1,h2⟩:=agk (ty:=o.type) (k:=k) hR hel aog hzv k3 hs hr hl hB hap
     refine⟨.value cv,cv,w',?_,.inl rfl,h2⟩
     simp[execOp,ho,resolve,aBA,hargs,ayg,invoke,builtin,hX,h1]
    split at h
    .next ex=>
     rw[ex]at hx;exact fin (B:=none) (m:=0) (k:=0) (news:=[]) (rs:=[]) hx trivial kc (.inl rfl) h
    .next b off m cp ex=>
     rw[ex]at hx;cases hm0:Nat.beq m 0 with
     |true=>
      rw[hm0]at h
      have hm0:=aq hm0
      subst hm0
      obtain⟨p,K,e2⟩:∃p K,a.eval X=.slice (some p) 0 K:=by
       rcases hx with⟨p,K,hp,e2,-⟩|⟨-,-,p,K,e2,-⟩
       .grind
       grind
      exact fin (m:=0) (news:=[]) (rs:=[]) e2 trivial kc (.inl rfl) h
     |false=>
     rw[hm0]at h;simp only[dT]at h;obtain⟨p,K,hp,e2,hmK,-⟩:=hx.resolve_right λhw=>by grind
     split at h
     .next k hk=>
      cases hb:(k.rd&&(Nat.beq ((k.cells.drop off).take (m*i.size)).length (m*i.size)&&((k.cells.drop off).take (m*i.size)).all B.kn))with
      |false=>rw[hb]at h;cases h
      |true=>
       rw[hb]at h
       simp only[af]at hb
       obtain⟨hrd,hb,hkn⟩:=hb
       have hb:=aq hb
       simp only[bB]at h
       obtain⟨xs,hnew,hxs⟩:=hR.reads hk hrd hp ((k.cells.drop off).take (m*i.size)) off (λj x hj=>AL hj) hkn
       refine fin (rs:=xs) e2 hnew (by rw[<-hnew.length];exact hb) (.inr ⟨_,rfl,λj u hj=>?_⟩) h
       rw[Addr.add_lit];exact hxs j u hj
     .cases h
    .cases h
   grind
  grind
 grind
def Rel.below(h:Rel N w0 φ J w)(hb:Below w.heap.size w w'):Rel N w0 φ J w':=
 ⟨h.n0,h.bel.trans (hb.mono h.size),h.inj,λb p hp=>aE (h.lo b p hp) hb.size,h.fz,λb k p hk hp=>(h.blk b k p hk hp).keep (hb.block _ (h.lo b p hp)),h.aj⟩
theorem aot(hR:Rel N w0 φ J w){op:Op}(hi:Ny P op .Px=true)(h:wP .Px tm J=some (v,J')):YA P N w0 w φ J a op v J':=by
 simp only[Ny]at hi;simp only[wP,aT,cQ]at h;obtain⟨rfl,rfl⟩:=h;intro o ho;split at hi
 .exact⟨.value (.map (some w.heap.size)),.map (some w.heap.size),w.alloc (.map #[] 0),by simp[execOp,ho,Instr.makeMap],.inl rfl,φ,Ext.refl _ _,hR.below ((Below.refl _ _).alloc jp _),trivial,jp⟩
 grind
theorem aou(hR:Rel N w0 φ J w){op:Op}(hi:Ny P op .MI=true)(h:wP .MI tm J=some (v,J')):YA P N w0 w φ J a op v J':=by
 simp only[Ny]at hi;simp only[wP]at h;intro o ho;split at hi
 .split at h
  .next b PV hn=>
   cases h;obtain⟨rfl,hnx,-⟩:=yM hn;have hg:w.grownBy (w.alloc (.map #[] 0)) (some w.heap.size):=⟨rfl,rfl,rfl,by simp,λk hk _=>Below.heap_alloc w _ k hk⟩
   refine⟨.value (.map (some w.heap.size)),.map (some w.heap.size),w.alloc (.map #[] 0),by simp[execOp,ho,Instr.makeMap],.inl rfl,_,yL φ J.aj (w.heap.size,0),hR.new hn hg hR.size kc (λi p hi _ e=>?_) (.inr (.inl ⟨aja,PG,[],rfl,Dy.made w⟩)),⟨_,iE _ _ _,rfl⟩,jb⟩;have:=hR.lo i p hi;omega
  .cases h
 grind
theorem atH[hPP:rJ P](hR:Rel N w0 φ J w){op:Op}{m k x:O}(hi:Ny P op (.V3 m k x)=true)(h:wP (.V3 m k x) tm J=some (v,J'))(ht:RT φ tm a):YA P N w0 w φ J a op v J':=by
 obtain rfl:=hPP.eq;simp only[Ny]at hi;simp only[wP]at h;intro o ho;split at hi
 .next t M K X=>
  simp only[af]at hi;obtain⟨⟨⟨i1,i2⟩,i3⟩,i4⟩:=hi;have i4:=aq i4;subst i4;have hm:=bW i1 ht;have hk:=bW i2 ht;have hx:=bW i3 ht;split at h
  .next b e j em ek ex=>
   rw[em]at hm;rw[ek]at hk;rw[ex]at hx;have hx:a.eval X=.bool true:=hx;obtain⟨p,hp,e1⟩:=hm;obtain⟨r,e2,hr⟩:=hk;obtain⟨l⟩:=r;have e3:l=[.int .i64 e,.int .i64 j]:=by
    match l,hr with
    |[u,v],hr=>
     have h1:u=.int .i64 e:=hr.1
     have h2:v=.int .i64 j:=hr.2.1
     grind
   subst e3;split at h
   .next c hb=>
    cases hw:(Ih .i64 e&&(Ih .i64 j&&Nat.ble c.length 1000))with
    |false=>grind
    |true=>
     rw[hw]at h
     simp only[af]at hw
     simp only[bB]at h
     have w3:=ax hw.2.2
     split at h
     .next h' hput=>
      cases h
      obtain⟨L,hL,hM⟩:=(hR.blk b _ p hb hp).map PG
      have hL:c=DC L:=hL
      obtain⟨w',r1,r2,r3⟩:=hM.store (e,j) (V7 hw.1) (V7 hw.2.1) (by grind[V5])
      simp only[ML.kv]at r1
      refine⟨.skip,undef,w',by simp_all[execOp],.inr ⟨rfl,rfl⟩,φ,Ext.refl _ _,hR.change hp kd hput (hR.hi hb hp (.inr PG)) r3 (.inr (.inl ⟨aja,PG,L++[(e,j)],?_,r2⟩)),trivial,jp⟩
      rw[abY,<-hL]
     .cases h
   .cases h
  .cases h
 grind
def ab2[hPP:rJ P](hR:Rel N w0 φ J w){op:Op}{ao:xq}(hi:Ny P op ao=true)(h:wP ao tm J=some (v,J'))(ht:RT φ tm a):YA P N w0 w φ J a op v J':=by
 cases ao
 case store=>grind[aor]
 case app=>grind[ayf]
 case Px=>grind[aot]
 case MI=>grind[aou]
 case V3=>grind[atH]
 all_goals cases hi
end
end Go.Proofs.Xe
