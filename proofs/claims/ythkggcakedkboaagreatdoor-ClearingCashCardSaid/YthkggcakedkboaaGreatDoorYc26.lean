import Derived.Test.YthkggcakedkboaaGreatDoorYc25
set_option linter.all false
set_option maxRecDepth 100000
namespace Go.Proofs.Ins
def Je(W:Rat)(q:fJ->Rat):Rat->List fJ->fJ->Rat
 |_,[],_=>0
 |Q,a::t,l=>(if a=l then rH (Q+q a-W)-rH (Q-W)else 0)+Je W q (Q+q a) t l
def Jf(g:GL)(x:Nat->Rat)(l:fJ):Rat:=aJ g.ds λd=>Je d.1 (gq g x) 0 d.2 l
def aae(g:GL)(x:Nat->Rat)(l:fJ):Rat:=gq g x l-Jf g x l
def aek(W:Rat)(q:fJ->Rat)(Q:Rat)(a:fJ)(t:List fJ)(l:fJ):Je W q Q (a::t) l=(if a=l then rH (Q+q a-W)-rH (Q-W)else 0)+Je W q (Q+q a) t l:=rfl
def Ux{W:Rat}{q:fJ->Rat}{l:fJ}:∀{t:List fJ}{Q:Rat},l∉t->Je W q Q t l=0
 |[],_,_=>rfl
 |a::t,Q,h=>by unfold Je;rw[ae (λe=>h (by simp[e])),Ux (λhl=>h (by simp[hl]))];exact dE 0
def QM{W:Rat}{q:fJ->Rat}{l a:fJ}:∀{t:List fJ}{Q:Rat},Je W q Q (t++[a]) l=Je W q Q t l+if a=l then rH (Q+aJ t q+q a-W)-rH (Q+aJ t q-W)else 0
 |[],Q=>by show(if a=l then rH (Q+q a-W)-rH (Q-W)else 0)+0=0+if a=l then rH (Q+0+q a-W)-rH (Q+0-W)else 0;grind
 |b::t,Q=>by rw[gl];unfold Je;rw[QM];show _=_+if a=l then rH (Q+(q b+aJ t q)+q a-W)-rH (Q+(q b+aJ t q)-W)else 0;rw[show Q+(q b+aJ t q)=Q+q b+aJ t q by grind];grind
section
variable {n:Nat} {g:GL}
end
end Go.Proofs.Ins
namespace Go.Proofs.Xe
open Go.RowKit Go.Proofs.Ins
def KR{a b:Rat}:0<=oJ a b↔b<=a:=by rw[<-Int.not_lt,pY];grind
def aaf(p:Rat):GU p 0=rH p:=by
 unfold GU rH;by_cases h:0<=p
 .rw[ab h,ab (KR.mpr h)]
 .rw[ae h,ae λe=>h (KR.mp e)]
def Jg{p:Rat}(h:0<=p):rH p=p:=ab h
def ael(W:Rat)(q:Nat->Rat)(k:Nat):Rat:=rH (aB (k+1) q-W)-rH (aB k q-W)
def Xr(σ σ':St)(r:V)(n:Nat)(f:Nat->Rat):Prop:=∃b,r=.c (.sl b 0 n (.ex n))/\σ'.h b=some ⟨bZ n f,none⟩/\σ.aj<=b/\b<σ'.aj
theorem Zk.zJ{D:Nat}{f:Nat->Rat}:∀{n:Nat},(∀i,i<n->Zk D 1 (f i))->Zk D n (aB n f)
 |0,_=>Zk.zero
 |n+1,h=>(Zk.zJ λi hi=>h i jb).add (h n jb)
def Zk.pq{D k:Nat}{q:Rat}(h:Zk D k q):Zk D k (rH q):=by
 unfold rH;split
 .exact h
 .exact Zk.zero.mono (bp _)
def aib:1000000<=256^uK:=aw (by decide:1000000<=256^3) (bA jj jj)
def aem{σ:St}(hW:WF σ){p:Nat->Prop}{wn:Bool}{ws wd:ByteArray}{W:Rat}(hw:rq wn ws wd=W)(hws:ws.size+wd.size<=130000000){v:B}{m:Nat}{q:Nat->Rat}(hv:jB p σ.h v m q)(hm:m<=1000)(hq:∀k,k<m->0<=q k)(h0:0<=W){D:Nat}(hD:Bj D)(hWz:Zk D 1 W)(hqz:∀k,k<m->Zk D 1 (q k)):
  aC EN 61 [.agg [.bool wn,.str ws,.str wd],.c v] σ λr σ'=>Xr σ σ' r m (ael W q)/\Fr σ σ':=by
 refine aQ (nV.o _ _) nV.h ?_
 unfold nV
 dsimp only
 have hlen:=aZ.len hv
 have hFr:=Fr.refl hW
 have hu:=aib
 have hp:=λ(args:List V) (σ:St) (K:V->St->Prop)=>jY (E:=EN) (K:=K) (gQ.o args σ) gQ.h
 unfold gQ at hp
 dsimp only at hp
 simp(disch:=try exact jz) only[go_sem,z3,hlen]
 refine aF (λx tm σ'=>∃k,x=m-k/\k<=m/\Tr.ah tm 2=.c (.ptr σ.aj 0)/\Tr.ah tm 5=.c (.sl (σ.aj+1) 0 m (.ex m))/\Tr.ah tm 6=.c (.ptr (σ.aj+1+1) 0)/\Tr.ah tm 7=.c (.ptr (σ.aj+1+1+1) 0)/\Tr.ah tm 16=.c v/\Tr.ah tm 17=.c (.int .i64 (.ofNat m))/\Tr.ah tm 18=.c (.int .i64 (.ofNat k))
  /\σ'.h σ.aj=some ⟨[.bool wn,.str ws,.str wd],none⟩/\σ'.h (σ.aj+1)=some ⟨bZ m (λi=>if i<k then ael W q i else 0),none⟩/\σ'.h (σ.aj+1+1)=some ⟨[.bool (rn (aB k q)),.str (rs (aB k q)),.str (rd (aB k q))],none⟩/\σ'.h (σ.aj+1+1+1)=some ⟨[.bool (rn (rH (aB k q-W))),.str (rs (rH (aB k q-W))),.str (rd (rH (aB k q-W)))],none⟩
  /\Fr σ σ'/\σ.aj+1+1+1+1<=σ'.aj) m ?_ ?_
 .refine⟨0,jb,jb,?_⟩
  have e0:rH (0-W)=0:=by grind[rH]
  simp(disch:=try exact jz) only[go_sem,z3,am]
  refine⟨?_,rfl,?_,fr,jb⟩
  .rw[xq]
  .show _=some (Bk.mk [.bool (rn (rH (0-W))),.str (rs (rH (0-W))),.str (rd (rH (0-W)))] none)
   rw[e0]
 .rintro x tm σ' ⟨k,rfl,hk,t2,t5,t6,t7,t16,t17,oh,q2,q5,q6,q7,hf,hnx⟩
  have hle:=hf.le
  simp(disch:=try exact jz) only[go_sem,z3,t2,t5,t6,t7,t16,t17,oh,aG]
  refine aH (λhlt=>?_) (λhlt=>?_)
  .obtain⟨b5,o5,c5,rfl,-,bV⟩:=aZ.at3 hv hlt
   have bV:=hf.ld hW bV
   have hqk:=hq k hlt
   have hzk:=hqz k hlt
   have hzs:Zk D k (aB k q):=Zk.zJ λi hi=>hqz i jb
   have z1:Sz (q k):=hzk.sz hD jb
   have z2:Sz (aB k q):=hzs.sz hD jb
   have z3':=(hzs.add hzk)
   have z4:Sz (aB k q+q k):=z3'.sz hD jb
   have z5:Sz W:=hWz.sz hD jb
   have z6:Sz (aB k q+q k-W):=(z3'.sub hWz).sz hD jb
   have z7:Sz (rH (aB k q+q k-W)):=(z3'.sub hWz).pq.sz hD jb
   have z8:Sz (rH (aB k q-W)):=(hzs.sub hWz).pq.sz hD jb
   have z9:=Sz.zero
   have z10:=Sz.zero.two
   have e1:rH (q k)=q k:=Jg hqk
   have e2:rH W=W:=Jg h0
   have kM:=Fr.refl hf.wf
   simp(disch:=try exact jz) only[go_sem,z3,t2,t5,t6,t7,t16,t17,oh,bV,ak q2,ak q6,aI q6,ak q7,aI q7,aI q5,q5,q6,q7,aaf,e1,e2,hw,hp]
   refine⟨m-(k+1),jb,k+1,rfl,jb,rfl,q2,?_,rfl,rfl,fr,jb⟩
   exact bO (λl=>some (Bk.mk l none)) (qW m k (ael W q))
  .have:k=m:=jb
   subst this
   simp(disch:=try exact jz) only[go_sem,z3,t5]
   exact⟨⟨_,rfl,by rw[q5,yj],jb,jb⟩,hf⟩
def aag{σ:St}(hW:WF σ){p p':Nat->Prop}{w1 w2 w3 L lv:B}{fA:List Ins.Lg}{n:Nat}{kk:Nat->Nat}{f:Nat->Nat->Rat}(hL:JE p σ.h L fA)(hR:dQ p' σ.h lv n kk f)(h1:w1.kn=true)(h2:w2.kn=true)(h3:w3.kn=true)(hl:fA.length<=1000)(Ig:∀j,j<fA.length->∃e c:Nat,ix fA j=⟨.ofNat e,.ofNat c⟩/\e<n/\c<kk e):
  aC EN 62 [.agg [w1,w2,w3,L],.c lv] σ λr σ'=>Xr σ σ' r fA.length (λj=>f (zH (ix fA j)).1 (zH (ix fA j)).2)/\Fr σ σ':=by
 refine aQ (uy.o _ _) uy.h ?_
 unfold uy
 dsimp only
 have hlen:=aZ.len hL
 have hLk:=aZ.kn hL
 have hFr:=Fr.refl hW
 simp(disch:=try exact jz) only[go_sem,z3,hlen,hLk,h1,h2,h3]
 refine aF (λx tm σ'=>∃j,x=fA.length-j/\j<=fA.length/\Tr.ah tm 1=.c lv/\Tr.ah tm 5=.c (.sl (σ.aj+1) 0 fA.length (.ex fA.length))/\Tr.ah tm 13=.c L/\Tr.ah tm 14=.c (.int .i64 (.ofNat fA.length))/\Tr.ah tm 15=.c (.int .i64 (.ofNat j))
  /\σ'.h (σ.aj+1)=some ⟨bZ fA.length (λi=>if i<j then f (zH (ix fA i)).1 (zH (ix fA i)).2 else 0),none⟩/\Fr σ σ'/\σ.aj+1+1<=σ'.aj) fA.length ?_ ?_
 .refine⟨0,jb,jb,?_⟩
  simp(disch:=try exact jz) only[go_sem,z3,am]
  exact⟨by rw[xq],fr,jb⟩
 .rintro x tm σ' ⟨j,rfl,hj,t1,t5,t13,t14,t15,q5,hf,hnx⟩
  have hle:=hf.le
  simp(disch:=try exact jz) only[go_sem,z3,t1,t5,t13,t14,t15,aG]
  refine aH (λhlt=>?_) (λhlt=>?_)
  .obtain⟨b5,o5,c5,rfl,-,bV⟩:=aZ.pos hL jb
   have bV:=hf.ld hW (bV j hlt)
   obtain⟨e,c,Es,he,hc⟩:=Ig j hlt
   obtain⟨b6,o6,c6,T,rfl,-,bU,hT⟩:=hR.at he
   obtain⟨b7,o7,c7,rfl,-,dH⟩:=aZ.at3 hT hc
   have bU:=hf.ld hW bU
   have dH:=hf.ld hW dH
   have hb6:=hf.wf.dF bU
   have hb7:=hf.wf.dF dH
   have kM:=Fr.refl hf.wf
   unfold Kv at bV
   have hst:=qW fA.length j λi=>f (zH (ix fA i)).1 (zH (ix fA i)).2
   rw[show f (zH (ix fA j)).1 (zH (ix fA j)).2=f e c by rw[Es];rfl]at hst
   rw[Es]at bV
   simp(disch:=try exact jz) only[go_sem,z3,t1,t5,t13,t14,t15,bV,bU,dH,q5,aI q5,hst]
   exact⟨fA.length-(j+1),jb,j+1,rfl,jb,rfl,rfl,fr,jb⟩
  .have:j=fA.length:=jb
   subst this
   simp(disch:=try exact jz) only[go_sem,z3,t5]
   exact⟨⟨_,rfl,by rw[q5,yj],jb,jb⟩,hf⟩
def aoo{σ:St}(hW:WF σ){p:Nat->Prop}{v:B}{n:Nat}{f:Nat->Rat}(hv:jB p σ.h v n f)(hn:n<=1000)(hz:∀i,i<n->Sz (f i))(hs:∀i,i<=n->Sz (aB i f)):
  aC EN 24 [.c v] σ λr σ'=>r=.agg [.bool (rn (aB n f)),.str (rs (aB n f)),.str (rd (aB n f))]/\Fr σ σ':=by
 refine aQ (wK.o _ _) wK.h ?_
 unfold wK
 dsimp only
 have hlen:=aZ.len hv
 have hFr:=Fr.refl hW
 simp(disch:=try exact jz) only[go_sem,z3,hlen]
 refine aF (λx tm σ'=>∃j,x=n-j/\j<=n/\Tr.ah tm 2=.c (.ptr σ.aj 0)/\Tr.ah tm 3=.c (.ptr (σ.aj+1) 0)/\Tr.ah tm 7=.c v/\Tr.ah tm 8=.c (.int .i64 (.ofNat n))/\Tr.ah tm 9=.c (.int .i64 (.ofNat j))
  /\σ'.h σ.aj=some ⟨[.bool (rn 0),.str (rs 0),.str (rd 0)],none⟩/\σ'.h (σ.aj+1)=some ⟨[.bool (rn (aB j f)),.str (rs (aB j f)),.str (rd (aB j f))],none⟩/\Fr σ σ'/\σ.aj+1+1<=σ'.aj) n ?_ ?_
 .refine⟨0,jb,jb,?_⟩
  simp(disch:=try exact jz) only[go_sem,z3,am]
  exact⟨rfl,fr,jb⟩
 .rintro x tm σ' ⟨j,rfl,hj,t2,t3,t7,t8,t9,q2,q3,hf,hnx⟩
  have hle:=hf.le
  simp(disch:=try exact jz) only[go_sem,z3,t2,t3,t7,t8,t9,aG]
  refine aH (λhlt=>?_) (λhlt=>?_)
  .obtain⟨b5,o5,c5,rfl,-,bV⟩:=aZ.at3 hv hlt
   have bV:=hf.ld hW bV
   have z1:=hz j hlt
   have z2:=hs j jb
   have kM:=Fr.refl hf.wf
   simp(disch:=try exact jz) only[go_sem,z3,t2,t3,t7,t8,t9,bV,ak q3,q3,aI q3]
   exact⟨n-(j+1),jb,j+1,rfl,jb,rfl,q2,rfl,fr,jb⟩
  .have:j=n:=jb
   subst this
   simp(disch:=try exact jz) only[go_sem,z3,t2,t3,ak q3,q2,aI q2]
   exact fr
structure Fam(p:Nat->Prop)(h:Tr Bk)(nn bb:Nat->Nat)(GG:Nat->Nat->List B)(ee tt:Nat->Nat)(QQ:Nat->(Nat->Prop)->Tr Bk->Nat->Prop)(lo hi:Nat):Prop where
 g:∀k,xG (nn k) h (bb k)=gF (nn k) (GG k) (ee k) (tt k)
 L:∀k,LG (GG k) (ee k)
 l1:∀k,lo<=bb k
 l2:∀k,nn k=0\/bb k<hi
 ne:∀k k',k≠k'->nn k=0\/nn k'=0\/bb k≠bb k'
 np:∀k,nn k=0\/¬p (bb k)
 q:∀k j,j<nn k->QQ k p h j
 pp:∀x,p x->lo<=x/\x<hi
section
variable {p p' : Nat→Prop} {h h' h1:Tr Bk} {nn bb:Nat→Nat} {GG GG' : Nat→Nat→List B} {ee tt:Nat→Nat} {QQ QQ' : Nat→(Nat→Prop)→Tr Bk→Nat→Prop} {lo hi:Nat}
theorem Fam.nil(hn:∀k,nn k=0)(hL:∀k,LG (GG k) (ee k)):Fam (λ_=>False) h nn (λ_=>lo) GG ee tt QQ lo hi:=
 ⟨λk=>by rw[hn k];rfl,hL,λ_=>jp,λk=>.inl (hn k),λk _ _=>.inl (hn k),λk=>.inl (hn k),λk j hj=>by grind,λ_ h=>h.elim⟩
def Fam.keep(ho:Fam p h nn bb GG ee tt QQ lo hi)(hQ:∀k j,QK (QQ k) j)(hh:∀b,lo<=b->b<hi->h' b=h b){hi':Nat}(h2:hi<=hi'):Fam p h' nn bb GG ee tt QQ lo hi':=by obtain⟨g,L,l1,l2,ne,np,q,pp⟩:=ho;refine⟨λk=>?_,L,l1,λk=>by grind,ne,np,λk j hj=>hQ k j _ _ _ _ (q k j hj) (λb hb=>hh b (pp b hb).1 (pp b hb).2) λ_ hb=>hb,λx hx=>by grind⟩;grind[Go.Proofs.Xe.vG]
def Fam.push(ho:Fam p h nn bb GG ee tt QQ lo hi)(k:Nat){hi1 nx n':Nat}(hp:∀x,p x->p' x)(hp2:∀x,p' x->p x\/hi<=x/\x<hi1)(hQ:∀k j,QK (QQ' k) j)(hQQ:∀k j,j<nn k->∀p h,QQ k p h j->QQ' k p h j)(hG:∀k j,j<nn k->GG' k j=GG k j)(hL:∀k,LG (GG' k) (ee k))
  (hx:QQ' k p' h1 (nn k)) (hh:∀x,lo<=x->x<hi->h1 x=h x) (h2:hi<=hi1) (h3:hi1<=nx) (h4:nx<n') (h5:lo<=hi){x:List B}(hb:h' nx=some ⟨bD (nn k) (GG k)++x,some (ee k,tt k)⟩) (hgn:x=GG' k (nn k)) (hk:∀c,lo<=c->c<hi1->nn k=0\/c≠bb k->h' c=h1 c):
  Fam p' h' (aK nn k (nn k+1)) (aK bb k nx) GG' ee tt QQ' lo n':=by
 obtain⟨g,L,l1,l2,ne,np,q,pp⟩:=ho
 have hp':∀b,p' b->lo<=b/\b<hi1/\(nn k=0\/b≠bb k):=λb hb=>by grind
 have hnp:∀k',nn k'=0\/¬p' (bb k'):=λk'=>by grind
 refine⟨λk'=>?_,hL,λk'=>?_,λk'=>?_,λa b hab=>?_,λk'=>?_,λk' j hj=>?_,λx hx=>by grind⟩
 .by_cases e:k'=k
  .subst e
   rw[aN,aN]
   show h' nx=some _
   grind[Go.Proofs.Xe.lV,Go.Proofs.Xe.bP,Go.Proofs.Xe.iZ]
  .rw[aP _ _ _ _ e,aP _ _ _ _ e]
   have h6:xG (nn k') h' (bb k')=xG (nn k') h (bb k'):=vG (by grind)
   rw[h6,g k']
   generalize hm:nn k'=m
   cases m with
   |zero=>rfl
   |succ m=>show some _=some _;grind[bP]
 .grind[aN,aP]
 .grind[aN,aP]
 .grind[aP,aN]
 .grind[aN,aP]
 .by_cases e:k'=k/\j=nn k
  .obtain⟨rfl,rfl⟩:=e
   exact hQ _ _ _ _ _ _ hx (λb hb=>hk b (hp' b hb).1 (hp' b hb).2.1 (hp' b hb).2.2) λ_ h=>h
  .have hj':j<nn k':=by
    by_cases e2:k'=k
    .subst e2;rw[aN]at hj;have:¬j=nn k':=λe3=>e ⟨rfl,e3⟩;omega
    .rwa[aP _ _ _ _ e2]at hj
   exact hQ _ _ _ _ _ _ (hQQ k' j hj' _ _ (q k' j hj')) (λb hb=>by have:=hp' b (hp b hb);rw[hk b this.1 this.2.1 this.2.2,hh b (pp b hb).1 (pp b hb).2]) hp
def Fam.hlp(ho:Fam p h nn bb GG ee tt QQ lo hi)(k:Nat)(he:0<ee k)(hk:∀j,j<nn k->(GG k j).all B.kn=true){q:Nat->Prop}(hq:∀b,lo<=b->b<hi->q b):aZ q h (ee k) (aU (nn k) (bb k)) (nn k) (GG k):=by
 have g:=ho.g k;have hl:=ho.l2 k;have hL:=ho.L k;have hlo:=ho.l1 k;generalize nn k=n at*;cases n with
 |zero=>exact .inl ⟨rfl,rfl⟩
 |succ n=>exact bf _ g (BU _ _ jb) (hq _ hlo jb) hL he hk
def Fam.keep'(ho:Fam p h nn bb GG ee tt QQ lo hi)(hQ:∀k j,QK (QQ k) j)(hp:∀b,p b->h' b=h b)(hh:∀k,nn k=0\/h' (bb k)=h (bb k)):Fam p h' nn bb GG ee tt QQ lo hi:=by obtain⟨g,L,l1,l2,ne,np,q,pp⟩:=ho;exact⟨λk=>(vG (hh k)).trans (g k),L,l1,l2,ne,np,λk j hj=>hQ k j _ _ _ _ (q k j hj) hp λ_ hb=>hb,pp⟩
structure ug(p:Nat->Prop)(h:Tr Bk)(nn bb:Nat->Nat)(GG:Nat->Nat->List B)(ee tt:Nat->Nat)(QQ:Nat->(Nat->Prop)->Tr Bk->Nat->Prop)(m:Nat)(kk:Nat->Nat)(C:Nat->Nat->List B)(bs:Nat->Nat)(lo hi:Nat):Prop where
 f:Fam p h nn bb GG ee tt QQ lo hi
 r:kT h m kk C bs lo hi
 w:∀j,j<m->¬p (bs j)
 n:∀j k,j<m->nn k=0\/bb k≠bs j
variable {m:Nat} {kk:Nat→Nat} {C:Nat→Nat→List B} {bs:Nat→Nat}
def ug.keep(ho:ug p h nn bb GG ee tt QQ m kk C bs lo hi)(hQ:∀k j,QK (QQ k) j)(hh:∀b,lo<=b->b<hi->h' b=h b){hi':Nat}(h2:hi<=hi'):ug p h' nn bb GG ee tt QQ m kk C bs lo hi':=
 ⟨ho.f.keep hQ hh h2,ho.r.mono hh jp h2,ho.w,ho.n⟩
def ug.push(ho:ug p h nn bb GG ee tt QQ m kk C bs lo hi)(k:Nat){hi1 nx n':Nat}(hp:∀x,p x->p' x)(hp2:∀x,p' x->p x\/hi<=x/\x<hi1)(hQ:∀k j,QK (QQ' k) j)(hQQ:∀k j,j<nn k->∀p h,QQ k p h j->QQ' k p h j)(hG:∀k j,j<nn k->GG' k j=GG k j)(hL:∀k,LG (GG' k) (ee k))
  (hx:QQ' k p' h1 (nn k)) (hh:∀x,lo<=x->x<hi->h1 x=h x) (h2:hi<=hi1) (h3:hi1<=nx) (h4:nx<n') (h5:lo<=hi){x:List B}(hb:h' nx=some ⟨bD (nn k) (GG k)++x,some (ee k,tt k)⟩) (hgn:x=GG' k (nn k)) (hk:∀c,lo<=c->c<hi1->nn k=0\/c≠bb k->h' c=h1 c):
  ug p' h' (aK nn k (nn k+1)) (aK bb k nx) GG' ee tt QQ' m kk C bs lo n':=by
 refine⟨ho.f.push k hp hp2 hQ hQQ hG hL hx hh h2 h3 h4 h5 hb hgn hk,ho.r.mono' (λj hj=>?_) jp jb,λj hj hb=>?_,λj i hj=>?_⟩
 .obtain⟨-,k2,k3⟩:=ho.r.r j hj
  have:=ho.n j k hj
  grind
 .obtain⟨-,k2,k3⟩:=ho.r.r j hj
  rcases hp2 _ hb with hb|hb
  .exact ho.w j hj hb
  .omega
 .obtain⟨-,k2,k3⟩:=ho.r.r j hj
  by_cases e:i=k
  .grind[aN]
  .rw[aP nn _ _ _ e,aP bb _ _ _ e];exact ho.n j i hj
def ug.pushRow(ho:ug p h nn bb GG ee tt QQ m kk C bs lo hi)(k:Nat){hi1 nx n' nb:Nat}(hQ:∀k j,QK (QQ' k) j)(hQQ:∀k j,j<nn k->∀p h,QQ k p h j->QQ' k p h j)(hG:∀k j,j<nn k->GG' k j=GG k j)(hL:∀k,LG (GG' k) (ee k))
  (hx:QQ' k p h1 (nn k)) (hh:∀x,lo<=x->x<hi->h1 x=h x) (h2:hi<=hi1) (h3:hi1<=nx) (h4:nx<n') (h5:lo<=hi){x:List B}(hb:h' nx=some ⟨bD (nn k) (GG k)++x,some (ee k,tt k)⟩) (hgn:x=GG' k (nn k)) (hk:∀c,lo<=c->c<hi1->nn k=0\/c≠bb k->h' c=h1 c)
  (h6:hi<=nb) (h7:nb<hi1) (hr:h' nb=some ⟨bD (kk m) (C m),none⟩):
  ug p h' (aK nn k (nn k+1)) (aK bb k nx) GG' ee tt QQ' (m+1) kk C (aK bs m nb) lo n':=by
 have hP:=ho.push k (p':=p) (λ_ h=>h) (λ_ h=>.inl h) hQ hQQ hG hL hx hh h2 h3 h4 h5 hb hgn hk
 refine⟨hP.f,ho.r.push hr rfl h6 jb jb λb h8 h9 ⟨i,hi,e⟩=>?_,λj hj=>?_,λj i hj=>?_⟩
 .have:=ho.n i k hi
  grind
 .by_cases e:j=m
  .subst e;rw[aN];exact λh=>by have:=ho.f.pp _ h;omega
  .rw[aP _ _ _ _ e];exact ho.w j jb
 .by_cases e:j=m
  .subst e
   rw[aN bs]
   by_cases e2:i=k
   .grind[aN]
   .rw[aP nn _ _ _ e2,aP bb _ _ _ e2]
    have:=ho.f.l2 i;omega
  .rw[aP bs _ _ _ e];exact hP.n j i jb
def ug.write(ho:ug p h nn bb GG ee tt QQ m kk C bs lo hi)(hQ:∀k j,QK (QQ k) j){j c:Nat}{x l:List B}(hj:j<m)(hl:l=bD (kk j) (iZ (C j) c x)):ug p (hset h (bs j) ⟨l,none⟩) nn bb GG ee tt QQ m kk (qP C j c x) bs lo hi:=by
 refine⟨ho.f.keep' hQ (λb hb=>au _ _ _ _ λe=>ho.w j hj (e▸hb)) (λk=>?_),ho.r.set hj hl,ho.w,ho.n⟩;rcases ho.n j k hj with e|e
 .omega
 grind[au]
theorem ug.grow(ho:ug p h nn bb GG ee tt QQ m kk C bs lo hi)(hQ:∀k j,QK (QQ k) j)(hh:∀b,lo<=b->b<hi->h' b=h b){hi':Nat}(h2:hi<=hi')(hp:∀x,p x->p' x)(hp2:∀x,p' x->p x\/hi<=x/\x<hi')(h3:lo<=hi):ug p' h' nn bb GG ee tt QQ m kk C bs lo hi':=by
 obtain⟨⟨g,L,l1,l2,ne,np,q,pp⟩,r,w,n⟩:=ho;refine⟨⟨λk=>?_,L,l1,λk=>by grind,ne,λk=>?_,λk j hj=>hQ k j _ _ _ _ (q k j hj) (λb hb=>hh b (pp b hb).1 (pp b hb).2) hp,λx hx=>?_⟩,r.mono hh jp h2,λj hj hb=>?_,n⟩
 .grind[Go.Proofs.Xe.vG]
 .grind
 .grind
 .obtain⟨-,k2,k3⟩:=r.r j hj;grind
def ug.same(ho:ug p h nn bb GG ee tt QQ m kk C bs lo hi)(k:Nat){hi1:Nat}(hh:∀x,lo<=x->x<hi->h1 x=h x)(h2:hi<=hi1)(hk:∀c,lo<=c->c<hi1->nn k=0\/c≠bb k->h' c=h1 c):∀x,p x->h' x=h x:=λx hx=>by
 have h3:=ho.f.pp x hx;rw[hk x h3.1 jb ?_,hh x h3.1 h3.2];rcases ho.f.np k with e|e
 .omega
 grind
end
def auL(p:Nat->Prop)(h:Tr Bk)(lv:B)(el:List xU):Prop:=∃R P:Nat->B,aZ p h 6 lv el.length (λi=>jo (ix el i).c.length (R i) (P i) (qX (ix el i) (ix el i).c.length))/\∀i,i<el.length->yh p h (R i) (P i) (dI (ix el i))
def aic(p:Nat->Prop)(h:Tr Bk)(bv:B)(el:List xU)(L:List fJ):Prop:=∃T:Nat->B,aZ p h 1 bv el.length (λi=>[T i])/\∀i,i<el.length->aZ p h 1 (T i) (ix el i).c.length λc=>[.bool (L.contains (i,c))]
structure Et(p:Nat->Prop)(h:Tr Bk)(sb:Nat)(g:iJ):Prop where
 s:∃ev dv lv bv,h sb=some ⟨[ev,dv,lv,bv],none⟩/\xH p h ev dv g/\auL p h lv g.e/\aic p h bv g.e (bC g).fA
 b:p sb
def Et.keep{p q:Nat->Prop}{h h':Tr Bk}{sb:Nat}{g:iJ}(hs:Et p h sb g)(hk:∀b,p b->h' b=h b)(hp:∀b,p b->q b):Et q h' sb g:=by obtain⟨⟨ev,dv,lv,bv,h1,h2,⟨R,P,h3,h4⟩,T,h5,h6⟩,hb⟩:=hs;exact⟨⟨ev,dv,lv,bv,by rw[hk _ hb];exact h1,h2.keep hk hp,⟨R,P,h3.keep hk hp,λi hi=>(h4 i hi).keep hk hp⟩,T,h5.keep hk hp,λi hi=>(h6 i hi).keep hk hp⟩,hp _ hb⟩
theorem Et.fr{σ σ':St}(hf:Fr σ σ'){sb:Nat}{g:iJ}(hs:Et (Lt σ.aj) σ.h sb g):Et (Lt σ'.aj) σ'.h sb g:=hs.keep (λb hb=>hf.old b hb) λb hb=>aL hb hf.le
def Aq(i:Nat):Nat->Nat:=λk=>if k=2\/k=3 then i else 0
def kE(el:List xU)(i:Nat):Nat:=(ix el i).c.length
def bG(el:List xU)(R P:Nat->B)(bs:Nat->Nat):Nat->Nat->List B
 |2=>λi=>jo (ix el i).c.length (R i) (P i) (qX (ix el i) (ix el i).c.length)
 |3=>λi=>[xI (kE el) bs i]
 |_=>λ_=>[]
def bE:Nat->Nat
 |2=>6
 |3=>1
 |_=>0
def bT:Nat->Nat
 |2=>113
 |3=>32
 |_=>0
def bQ(el:List xU)(R P:Nat->B):Nat->(Nat->Prop)->Tr Bk->Nat->Prop
 |2=>λp h i=>yh p h (R i) (P i) (dI (ix el i))
 |_=>NoQ
def aie(el:List xU)(R P:Nat->B)(bs:Nat->Nat)(k:Nat):LG (bG el R P bs k) (bE k):=by intro j;unfold bG bE;split<;>rfl
def aen(el:List xU)(R P:Nat->B)(k j:Nat):QK (bQ el R P k) j:=by
 unfold bQ;split
 .exact λ_ _ _ _ hp hk hq=>hp.keep hk hq
 .exact JH j
def Oj(L:List fJ)(i c:Nat):List B:=[.bool (L.contains (i,c))]
abbrev aah(el:List xU)(p:Nat->Prop)(h:Tr Bk)(nn bb:Nat->Nat)(R P:Nat->B)(bs:Nat->Nat)(m:Nat)(L:List fJ)(lo hi:Nat):Prop:=ug p h nn bb (bG el R P bs) bE bT (bQ el R P) m (kE el) (Oj L) bs lo hi
def aeo(i:Nat):aK (aK (Aq i) 2 (Aq i 2+1)) 3 (aK (Aq i) 2 (Aq i 2+1) 3+1)=Aq (i+1):=by grind[aK,Aq]
theorem Xt{kk bs:Nat->Nat}{m nb j:Nat}(h:j≠m):xI kk (aK bs m nb) j=xI kk bs j:=by grind[xI,aP]
def ab3(i k:Nat):Aq i k<=i:=by grind[Aq]
def ark{el:List xU}{R P:Nat->B}{i j:Nat}(h:j<i)(rv pv:B)(k:Nat)(p:Nat->Prop)(H:Tr Bk)(hq:bQ el R P k p H j):bQ el (aK R i rv) (aK P i pv) k p H j:=by
 unfold bQ at hq⊢;split
 .grind[aP]
 .trivial
def arl{el:List xU}{R P:Nat->B}{bs:Nat->Nat}{i j:Nat}(h:j<i)(rv pv:B)(k:Nat):bG el (aK R i rv) (aK P i pv) bs k j=bG el R P bs k j:=by unfold bG;grind[aP]
def arn{el:List xU}{R P:Nat->B}{bs:Nat->Nat}{m nb j:Nat}(k:Nat)(h:k=3->j<m):bG el R P (aK bs m nb) k j=bG el R P bs k j:=by unfold bG;grind[Xt]
def qY{n:Nat}(h:0<n)(b:Nat):aU n b=.sl b 0 n .opn:=by
 cases n with
 |zero=>omega
 |succ n=>rfl
def AV(dl:List tX)(j:Nat):List fJ:=(dl.take j).flatMap λd=>d.l.map zH
def aai{dl:List tX}{j:Nat}(h:j<dl.length):AV dl (j+1)=AV dl j++(ix dl j).l.map zH:=by grind[AV,bH]
def aep(g:iJ):AV g.d g.d.length=(bC g).fA:=by grind[AV,GL.fA,bC,List.flatMap_map]
def aer(L:List fJ)(e c:Nat):qP (Oj L) e c [.bool true]=Oj (L++[(e,c)]):=by grind[qP,Oj]
def QN(nc:Nat)(al:List gB)(x:yQ):Prop:=((x.k=-1/\x.b=true)\/∃i:Nat,i<nc/\x.k=(i:Int)/\Xd al x.k)/\∃w:Nat,w<=16/\x.a=oK ((Int.ofNat w:Int):Rat)
def EU(nc:Nat)(al:List gB)(t:List yQ):Prop:=∀k,k<t.length->QN nc al (ix t k)
def EU.snoc{nc:Nat}{al:List gB}{t:List yQ}{x:yQ}(h:EU nc al t)(hx:QN nc al x):EU nc al (t++[x]):=λk hk=>by
 rw[aD,bR]at hk;by_cases e:k=t.length
 .rw[e,gJ];exact hx
 .rw[gI _ _ jb];exact h k jb
structure TI(σ σ':St)(tb i nc:Nat)(al:List gB)(ts:Nat->List yQ)(bs:Nat->Nat):Prop where
 b:σ'.h tb=some ⟨ones 3 (λt=>kN (ts t) (bs t)),none⟩
 f:JU σ'.h 3 Ba 5 97 ts bs (tb+1) σ'.aj
 g:∀t,t<3->EU nc al (ts t)
 l:∀t,t<3->(ts t).length<=i
 n:tb+1<=σ'.aj
 fr:Fr σ σ'
def aes(ts:Nat->List yQ)(bs:Nat->Nat)(t nx:Nat)(x:yQ):(λj=>kN (aK ts t (ts t++[x]) j) (aK bs t nx j))=aK (λj=>kN (ts j) (bs j)) t (.sl nx 0 ((ts t).length+1) .opn):=by
 funext j;unfold aK;split
 .next e=>rw[iT kc,aD];rfl
 .rfl
def ab4(l:List yQ):l.length*5<=(bD l.length (λk=>Ba (ix l k))).length:=by rw[qA (e:=5) λ_=>rfl];exact jp
def Xu(l:List yQ):(bD l.length (λk=>Ba (ix l k))).take (l.length*5)=bD l.length (λk=>Ba (ix l k)):=zk λ_=>rfl
section
variable {σ σ' : St} {tb i nc:Nat} {al:List gB} {ts:Nat→List yQ} {bs:Nat→Nat}
def TI.step(hT:TI σ σ' tb i nc al ts bs){σ3:St}(hf:Fr σ' σ3):TI σ σ3 tb (i+1) nc al ts bs:=by have hn:=hT.n;have hle:=hf.le;exact⟨by rw[hf.old _ jb];exact hT.b,hT.f.mono (λb _ hb=>hf.old b hb) hle,hT.g,λt ht=>by have:=hT.l t ht;omega,jb,hT.fr.trans hf⟩
def TI.push(hT:TI σ σ' tb i nc al ts bs){t nx n':Nat}{x:yQ}{h':Tr Bk}(ht:t<3)(hg:QN nc al x)(hb:h' tb=some ⟨ones 3 (aK (λj=>kN (ts j) (bs j)) t (.sl nx 0 ((ts t).length+1) .opn)),none⟩)
  (hx:h' nx=some ⟨bD (ts t).length (λk=>Ba (ix (ts t) k))++Ba x,some (5,97)⟩) (ho:∀b,tb+1<=b->b<σ'.aj->(0<(ts t).length->b≠bs t)->h' b=σ'.h b) (hn:σ'.aj<=nx) (hn':nx<n') (hf:Fr σ ⟨h',n'⟩):
  TI σ ⟨h',n'⟩ tb (i+1) nc al (aK ts t (ts t++[x])) (aK bs t nx):=by
 have hn0:=hT.n
 refine⟨?_,?_,λj hj=>?_,λj hj=>?_,by show tb+1<=n';omega,hf⟩
 .rw[aes];exact hb
 .refine hT.f.push ht x rfl hx (λj hj e hp=>?_) jb hn hn'
  obtain⟨-,k2,k3⟩:=hT.f.blk j hj hp
  exact ho _ k2 k3 λhp2 e2=>e (hT.f.inj j t hj ht hp hp2 e2)
 .unfold aK
  split
  .next e=>exact(hT.g t ht).snoc hg
  .exact hT.g j hj
 .unfold aK
  split
  .next e=>rw[aD,bR];have:=hT.l t ht;omega
  .have:=hT.l j hj;omega
end
def aZ.plt{σ:St}(hW:WF σ){p:Nat->Prop}{e n:Nat}{v:B}{G:Nat->List B}(hl:aZ p σ.h e v n G):aZ (λb=>p b/\b<σ.aj) σ.h e v n G:=by
 rcases hl with h|⟨b,o,c,h1,h2,h3⟩
 .exact .inl h
 .exact .inr ⟨b,o,c,h1,λh=>⟨h2 h,hW.dF (h3 0 h)⟩,h3⟩
def dV.plt{σ:St}(hW:WF σ){p:Nat->Prop}{v:B}{l:gB}(hl:dV p σ.h v l):dV (λb=>p b/\b<σ.aj) σ.h v l:=by obtain⟨T,k1,k2⟩:=hl;exact⟨T,k1.plt hW,λj hj=>(k2 j hj).plt hW⟩
def kD.lt{σ:St}(hW:WF σ){p:Nat->Prop}{v:B}{l:List tX}(hl:kD p σ.h v l):kD (Lt σ.aj) σ.h v l:=by obtain⟨L,h3,h4⟩:=hl;exact⟨L,h3.lt hW,λi hi=>(h4 i hi).lt hW⟩
theorem kD.fr{σ σ':St}(hW:WF σ)(hf:Fr σ σ'){p:Nat->Prop}{v:B}{l:List tX}(hl:kD p σ.h v l):kD (Lt σ.aj) σ'.h v l:=(hl.lt hW).keep hf.lt λ_ h=>h
def Xv(dl:List tX)(i c:Int):Prop:=∀j,j<dl.length->∀t,t<(ix dl j).l.length->¬((ix (ix dl j).l t).e=i/\(ix (ix dl j).l t).k=c)
def auM(dl:List tX):Prop:=dl.length<=1000/\∀j,j<dl.length->(ix dl j).l.length<=1000
structure LI(σ σ':St)(ev dv:B)(d0 d1 d2:Nat)(w:Rat)(l:List Ins.Lg)(bl:Nat):Prop where
 q1:σ'.h σ.aj=some ⟨[ev,dv],none⟩
 q2:σ'.h (σ.aj+1)=some ⟨[.int .u16 (.ofNat d0),.int .u16 (.ofNat d1),.int .u16 (.ofNat d2)],none⟩
 b:σ'.h (σ.aj+1+1)=some ⟨[.bool (rn w),.str (rs w),.str (rd w),kN l bl],none⟩
 lb:0<l.length->σ'.h bl=some ⟨bD l.length (λk=>Kv (ix l k)),some (2,68)⟩/\σ.aj+1+1+1<=bl/\bl<σ'.aj
 n:l.length<=4
 nx:σ.aj+1+1+1<=σ'.aj
 fr:Fr σ σ'
structure Uy(el:List xU)(dl:List tX)(i j:Nat)(hv:Int)(l:List Ins.Lg):Prop where
 r:∀x∈l,∃e k:Nat,x=⟨.ofNat e,.ofNat k⟩/\e<el.length/\k<(ix el e).c.length/\Xv dl (.ofNat e) (.ofNat k)/\holdL el x=hv/\(e<i\/e=i/\k<j)
 nd:l.Nodup
def LGf(el:List xU)(dl:List tX)(l:List Ins.Lg):Prop:=∃hv,Uy el dl el.length 0 hv l
section
variable {el:List xU} {dl:List tX} {i j:Nat} {hv hv' : Int} {l:List Ins.Lg}
theorem Uy.nil:Uy el dl i j hv []:=⟨λx hx=>by simp at hx,List.nodup_nil⟩
def Uy.next(h:Uy el dl i j hv l):Uy el dl i (j+1) hv l:=⟨λx hx=>by obtain⟨e,k,h1,h2,h3,h4,h5,h6⟩:=h.r x hx;exact⟨e,k,h1,h2,h3,h4,h5,jb⟩,h.nd⟩
def Uy.row(h:Uy el dl i j hv l):Uy el dl (i+1) 0 hv l:=⟨λx hx=>by obtain⟨e,k,h1,h2,h3,h4,h5,h6⟩:=h.r x hx;exact⟨e,k,h1,h2,h3,h4,h5,jb⟩,h.nd⟩
def Uy.push(h:Uy el dl i j hv l)(hi:i<el.length){cl:List C5}(he:(ix el i).c=cl)(hj:j<cl.length)(hN:Xv dl (.ofNat i) (.ofNat j))(hh:l=[]\/hv=hv')(hx:(ix cl j).h=hv'):Uy el dl i (j+1) hv' (l++[⟨.ofNat i,.ofNat j⟩]):=by
 refine⟨λx hm=>?_,?_⟩
 .rcases bX.mp hm with hm|hm
  .obtain⟨e,k,h1,h2,h3,h4,h5,h6⟩:=h.r x hm;rcases hh with hh|hh
   .rw[hh]at hm;cases hm
   .exact⟨e,k,h1,h2,h3,h4,by rw[h5,hh],jb⟩
  .rw[dt]at hm;subst hm;refine⟨i,j,rfl,hi,by rw[he];exact hj,hN,?_,jb⟩;show(ix (ix el i).c j).h=_;rw[he];exact hx
 .rw[gd];refine⟨h.nd,(ip.mpr ⟨List.not_mem_nil,List.nodup_nil⟩),λa ha b hb e=>?_⟩;rw[dt]at hb;subst hb;obtain⟨e',k,h1,-,-,-,-,h6⟩:=h.r a ha;rw[e]at h1;have h7:=(Ins.Lg.mk.inj h1).1;have h8:=(Ins.Lg.mk.inj h1).2;have h7:=Int.ofNat.inj h7;have h8:=Int.ofNat.inj h8;omega
def Uy.perm{l':List Ins.Lg}(h:Uy el dl i j hv l)(hp:l'.Perm l):Uy el dl i j hv l':=⟨λx hx=>h.r x (hp.mem_iff.mp hx),hp.nodup_iff.mpr h.nd⟩
def swap_perm{l:List Ins.Lg}{i j:Nat}(hi:i<l.length)(hj:j<l.length):((l.set i (ix l j)).set j (ix l i)).Perm l:=by rw[eY hi,eY hj];exact List.set_set_perm hi hj
end
section
variable {σ σ' : St} {ev dv:B} {d0 d1 d2:Nat} {w:Rat} {l:List Ins.Lg} {bl:Nat}
def LI.step(hL:LI σ σ' ev dv d0 d1 d2 w l bl){σ3:St}(hf:Fr σ' σ3):LI σ σ3 ev dv d0 d1 d2 w l bl:=by
 have hn:=hL.nx;have hle:=hf.le;refine⟨?_,?_,?_,λh0=>?_,hL.n,jb,hL.fr.trans hf⟩
 .rw[hf.old _ jb];exact hL.q1
 .rw[hf.old _ jb];exact hL.q2
 .rw[hf.old _ jb];exact hL.b
 .obtain⟨k1,k2,k3⟩:=hL.lb h0;exact⟨by rw[hf.old _ k3];exact k1,k2,jb⟩
def LI.push(hL:LI σ σ' ev dv d0 d1 d2 w l bl){nx n':Nat}{x:Ins.Lg}{h':Tr Bk}(hl:l.length<=3)(hb:h' (σ.aj+1+1)=some ⟨[.bool (rn w),.str (rs w),.str (rd w),.sl nx 0 (l.length+1) .opn],none⟩)
  (hx:h' nx=some ⟨bD l.length (λk=>Kv (ix l k))++Kv x,some (2,68)⟩) (ho:∀b,b<σ.aj+1+1->h' b=σ'.h b) (hn:σ'.aj<=nx) (hn':nx<n') (hf:Fr σ ⟨h',n'⟩):LI σ ⟨h',n'⟩ ev dv d0 d1 d2 w (l++[x]) nx:=by
 have hn1:=hL.nx
 refine⟨by rw[ho _ jb];exact hL.q1,by rw[ho _ jb];exact hL.q2,?_,λ_=>⟨?_,jb,hn'⟩,by simp;omega,by show _<=n';omega,hf⟩
 .rw[iT kc,aD];exact hb
 .rw[aD,bR]
  show h' nx=_
  rw[hx,lV]
  congr 2
  refine bP λk hk=>?_
  unfold iZ
  split
  .next e=>rw[e,gJ]
  .rw[gI _ _ jb]
def LI.set(hL:LI σ σ' ev dv d0 d1 d2 w l bl){h':Tr Bk}{l':List Ins.Lg}(h0:0<l.length)(hl:l'.length=l.length)(hb:h' bl=some ⟨bD l.length (λk=>Kv (ix l' k)),some (2,68)⟩)(ho:∀b,b≠bl->h' b=σ'.h b)(hf:Fr σ ⟨h',σ'.aj⟩):LI σ ⟨h',σ'.aj⟩ ev dv d0 d1 d2 w l' bl:=by have hn1:=hL.nx;obtain⟨k1,k2,k3⟩:=hL.lb h0;refine⟨by rw[ho _ jb];exact hL.q1,by rw[ho _ jb];exact hL.q2,?_,λ_=>⟨by rw[hl];exact hb,k2,k3⟩,by rw[hl];exact hL.n,hL.nx,hf⟩;rw[ho _ jb,hL.b];unfold kN;rw[hl]
def aro(l:List Ins.Lg):l.length*2<=(bD l.length (λk=>Kv (ix l k))).length:=by rw[qA (e:=2) λ_=>rfl];exact jp
def amy(l:List Ins.Lg):(bD l.length (λk=>Kv (ix l k))).take (l.length*2)=bD l.length (λk=>Kv (ix l k)):=zk λ_=>rfl
def aop{n i:Nat}(l:List Ins.Lg)(hn:l.length=n)(y:Ins.Lg)(hi:i<n):xC (bD n λk=>Kv (ix l k)) (i*2) [.int .i64 y.e,.int .i64 y.k]=some (bD n λk=>Kv (ix (l.set i y) k)):=by
 have:=yD (e:=2) (k:=0) (vs:=Kv y) (G:=λk=>Kv (ix l k)) (λ_=>rfl) hi (by exact cI 2);rw[cA]at this;show xC _ _ (Kv y)=_;rw[this];show some _=some _;congr 1;refine bP λk hk=>?_;unfold iZ;rw[show ix (l.set i y) k=if k=i then y else ix l k by
  unfold ix;rw[dy,dy,List.getElem?_set];by_cases e:k=i
  .subst e;rw[ab rfl,ab rfl,ab jb];rfl
  .rw[ae e,ae (Ne.symm e)]]
 split<;>rfl
def aoq{n i:Nat}(l:List Ins.Lg)(hi:i<n):yO (bD n λk=>Kv (ix l k)) (i*2) 2 true=some (.agg [.int .i64 (ix l i).e,.int .i64 (ix l i).k]):=by have:=yC (e:=2) (k:=0) (m:=2) (G:=λk=>Kv (ix l k)) true (λ_=>rfl) hi jj jj;rw[cA]at this;rw[this];rfl
end
def Ce.at{p:Nat->Prop}{h:Tr Bk}{v:B}{el:List xU}(hE:Ce p h v el){i:Nat}(hi:i<el.length):∃b o c,v=.sl b o el.length c/\∃C A:B,ld h b (o+i*5) 5 true=some (.agg [.bool (ix el i).m.n,.str (ix el i).m.s,.str (ix el i).m.d,C,A])/\ld h b (o+i*5+3) 1 false=some (.c C)/\DT p h C (ix el i).c/\je p h A (ix el i).a:=by obtain⟨C,A,h1,h2⟩:=hE;obtain⟨b,o,c,e,-,hld⟩:=h1.pos jb;refine⟨b,o,c,e,C i,A i,hld i hi,?_,h2 i hi⟩;rw[wI (hld i hi) 3 1 false jj jj];unfold yO;have:=(h2 i hi).1.kn;simp[this]
def Ce.len{p:Nat->Prop}{h:Tr Bk}{v:B}{l:List xU}(hl:Ce p h v l):lenV (.c v)=some (.c (.int .i64 (.ofNat l.length))):=hl.choose_spec.choose_spec.1.len
def kD.el{p:Nat->Prop}{h:Tr Bk}{v:B}{dl:List tX}(hD:kD p h v dl){i:Nat}(hi:i<dl.length):∃b o c,v=.sl b o dl.length c/\∃T:B,ld h b (o+i*4) 4 true=some (.agg [.bool (ix dl i).w.n,.str (ix dl i).w.s,.str (ix dl i).w.d,T])/\JE p h T (ix dl i).l:=by obtain⟨L,h1,h2⟩:=hD;obtain⟨b,o,c,e,-,hld⟩:=h1.pos jb;exact⟨b,o,c,e,L i,hld i hi,h2 i hi⟩
def kD.len{p:Nat->Prop}{h:Tr Bk}{v:B}{dl:List tX}(hD:kD p h v dl):lenV (.c v)=some (.c (.int .i64 (.ofNat dl.length))):=hD.choose_spec.1.len
def auN:ou .sub (.c (.int .i64 (.ofNat 0))) (.c (.int .i64 (.ofNat 1)))=some (.c (.int .i64 (.negSucc 0))):=rfl
def awP:decide (Int.ofNat 0<Int.negSucc 0)=false:=rfl
end Go.Proofs.Xe
