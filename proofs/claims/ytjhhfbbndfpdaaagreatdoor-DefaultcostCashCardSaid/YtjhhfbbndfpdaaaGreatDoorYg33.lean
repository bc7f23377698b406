import Derived.Test.YtjhhfbbndfpdaaaGreatDoorYg32
set_option linter.all false
set_option maxRecDepth 100000
set_option maxHeartbeats 8000000
namespace Go.Proofs.Ins
def Lu(W:Rat)(q:gJ->Rat):Rat->List gJ->gJ->Rat
 |_,[],_=>0
 |Q,a::t,l=>(if a=l then tX (Q+q a-W)-tX (Q-W)else 0)+Lu W q (Q+q a) t l
def LC(g:GL)(x:Nat->Rat)(l:gJ):Rat:=aK g.ds λd=>Lu d.1 (gq g x) 0 d.2 l
def Xt(g:GL)(x:Nat->Rat)(l:gJ):Rat:=gq g x l-LC g x l
def ahi(W:Rat)(q:gJ->Rat)(Q:Rat)(a:gJ)(t:List gJ)(l:gJ):Lu W q Q (a::t) l=(if a=l then tX (Q+q a-W)-tX (Q-W)else 0)+Lu W q (Q+q a) t l:=rfl
def Xu{W:Rat}{q:gJ->Rat}{l:gJ}:∀{t:List gJ}{Q:Rat},l∉t->Lu W q Q t l=0
 |[],_,_=>rfl
 |a::t,Q,h=>by unfold Lu;rw[ae (λe=>h (by simp[e])),Xu (λhl=>h (by simp[hl]))];exact cN 0
def Vf{W:Rat}{q:gJ->Rat}{l a:gJ}:∀{t:List gJ}{Q:Rat},Lu W q Q (t++[a]) l=Lu W q Q t l+if a=l then tX (Q+aK t q+q a-W)-tX (Q+aK t q-W)else 0
 |[],Q=>by show(if a=l then tX (Q+q a-W)-tX (Q-W)else 0)+0=0+if a=l then tX (Q+0+q a-W)-tX (Q+0-W)else 0;grind
 |b::t,Q=>by rw[fi];unfold Lu;rw[Vf];show _=_+if a=l then tX (Q+(q b+aK t q)+q a-W)-tX (Q+(q b+aK t q)-W)else 0;rw[show Q+(q b+aK t q)=Q+q b+aK t q by grind];grind
section
variable {n:Nat} {g:GL}
end
end Go.Proofs.Ins
namespace Go.Proofs.Xe
open Go.RowKit Go.Proofs.Ins
def Oy{a b:Rat}:0<=mW a b↔b<=a:=by rw[<-Int.not_lt,su];grind
def Ru(p:Rat):sH p 0=tX p:=by
 unfold sH tX;by_cases h:0<=p
 .rw[ab h,ab (Oy.mpr h)]
 .rw[ae h,ae λe=>h (Oy.mp e)]
def LD{p:Rat}(h:0<=p):tX p=p:=ab h
def ahj(W:Rat)(q:Nat->Rat)(k:Nat):Rat:=tX (aB (k+1) q-W)-tX (aB k q-W)
def aam(J J':St)(r:V)(n:Nat)(f:Nat->Rat):Prop:=∃b,r=.c (.sl b 0 n (.ex n))/\J'.h b=some ⟨cO n f,none⟩/\J.aj<=b/\b<J'.aj
theorem Zk.AB{D:Nat}{f:Nat->Rat}:∀{n:Nat},(∀i,i<n->Zk D 1 (f i))->Zk D n (aB n f)
 |0,_=>Zk.zero
 |n+1,h=>(Zk.AB λi hi=>h i jb).add (h n jb)
def Zk.pq{D k:Nat}{q:Rat}(h:Zk D k q):Zk D k (tX q):=by
 unfold tX;split
 .exact h
 .exact Zk.zero.mono (aM _)
def alj:1000000<=256^uK:=ar (by decide:1000000<=256^3) (bq jj jj)
def ahk{J:St}(hW:WF J){p:Nat->Prop}{wn:Bool}{ws wd:ByteArray}{W:Rat}(hw:rq wn ws wd=W)(hws:ws.size+wd.size<=130000000){v:B}{m:Nat}{q:Nat->Rat}(hv:kX p J.h v m q)(hm:m<=1000)(hq:∀k,k<m->0<=q k)(h0:0<=W){D:Nat}(hD:Dl D)(hWz:Zk D 1 W)(hqz:∀k,k<m->Zk D 1 (q k)):
  aC EN 79 [.agg [.bool wn,.str ws,.str wd],.c v] J λr J'=>aam J J' r m (ahj W q)/\Fr J J':=by
 refine aN (qx.o _ _) qx.h ?_
 unfold qx
 dsimp only
 have hlen:=aZ.len hv
 have hFr:=Fr.refl hW
 have hu:=alj
 have hp:=λ(args:List V) (J:St) (K:V->St->Prop)=>lW (E:=EN) (K:=K) (iw.o args J) iw.h
 unfold iw at hp
 dsimp only at hp
 simp(disch:=try exact jz)only[go_sem,hlen]
 refine aF (λx tm J'=>∃k,x=m-k/\k<=m/\r8 tm 2=.c (.ptr J.aj 0)/\r8 tm 5=.c (.sl (J.aj+1) 0 m (.ex m))/\r8 tm 6=.c (.ptr (J.aj+1+1) 0)/\r8 tm 7=.c (.ptr (J.aj+1+1+1) 0)/\r8 tm 16=.c v/\r8 tm 17=jN m/\r8 tm 18=jN k
  /\J'.h J.aj=some ⟨[.bool wn,.str ws,.str wd],none⟩/\J'.h (J.aj+1)=some ⟨cO m (λi=>if i<k then ahj W q i else 0),none⟩/\J'.h (J.aj+1+1)=some ⟨(rK (aB k q)),none⟩/\J'.h (J.aj+1+1+1)=some ⟨(rK (tX (aB k q-W))),none⟩
  /\Fr J J'/\J.aj+1+1+1+1<=J'.aj) m ?_ ?_
 .refine⟨0,jb,jb,?_⟩
  have e0:tX (0-W)=0:=by grind[tX]
  refine WN ?_
  refine⟨?_,rfl,?_,fr,jb⟩
  .rw[yV]
  .show _=some (Bk.mk (rK (tX (0-W))) none)
   rw[e0]
 .rintro x tm J' ⟨k,rfl,hk,t2,t5,t6,t7,t16,t17,uF,q2,q5,q6,q7,hf,hnx⟩
  have hle:=hf.le
  simp(disch:=try exact jz)only[go_sem,t17,uF,aA]
  refine aH (λhlt=>?_) (λhlt=>?_)
  .obtain⟨b5,o5,c5,rfl,-,bC⟩:=aZ.at3 hv hlt
   have bC:=hf.ld hW bC
   have hqk:=hq k hlt
   have hzk:=hqz k hlt
   have hzs:Zk D k (aB k q):=Zk.AB λi hi=>hqz i jb
   have z1:Sz (q k):=hzk.sz hD jb
   have z2:Sz (aB k q):=hzs.sz hD jb
   have z3':=(hzs.add hzk)
   have z4:Sz (aB k q+q k):=z3'.sz hD jb
   have z5:Sz W:=hWz.sz hD jb
   have z6:Sz (aB k q+q k-W):=(z3'.sub hWz).sz hD jb
   have z7:Sz (tX (aB k q+q k-W)):=(z3'.sub hWz).pq.sz hD jb
   have z8:Sz (tX (aB k q-W)):=(hzs.sub hWz).pq.sz hD jb
   have z9:=Sz.zero
   have z10:=Sz.zero.two
   have e1:tX (q k)=q k:=LD hqk
   have e2:tX W=W:=LD h0
   have lT:=Fr.refl hf.wf
   simp(disch:=try exact jz)only[go_sem,W3,uF,bC,au q2,au q6,au q7,q5,q6,q7,Ru,e1,e2,hw,hp]
   refine⟨m-(k+1),jb,k+1,rfl,jb,rfl,q2,?_,rfl,rfl,fr,jb⟩
   exact bp (λl=>some (Bk.mk l none)) (um m k (ahj W q))
  .have:k=m:=jb
   subst this
   simp(disch:=try exact jz)only[go_sem,t5]
   exact⟨⟨_,rfl,by rw[q5,Aa],jb,jb⟩,hf⟩
def acR{J:St}(hW:WF J){p p':Nat->Prop}{w1 w2 w3 L lv:B}{fP:List Ins.Lg}{n:Nat}{kk:Nat->Nat}{f:Nat->Nat->Rat}(hL:Bg p J.h L fP)(hR:dQ p' J.h lv n kk f)(h1:w1.kn=true)(h2:w2.kn=true)(h3:w3.kn=true)(hl:fP.length<=1000)(JO:∀j,j<fP.length->∃e c:Nat,ix fP j=⟨.ofNat e,.ofNat c⟩/\e<n/\c<kk e):
  aC EN 80 [.agg [w1,w2,w3,L],.c lv] J λr J'=>aam J J' r fP.length (λj=>f (BD (ix fP j)).1 (BD (ix fP j)).2)/\Fr J J':=by
 refine aN (wQ.o _ _) wQ.h ?_
 unfold wQ
 dsimp only
 have hlen:=aZ.len hL
 have hLk:=aZ.kn hL
 have hFr:=Fr.refl hW
 simp(disch:=try exact jz)only[go_sem,hlen,hLk]
 refine aF (λx tm J'=>∃j,x=fP.length-j/\j<=fP.length/\r8 tm 1=.c lv/\r8 tm 5=.c (.sl (J.aj+1) 0 fP.length (.ex fP.length))/\r8 tm 13=.c L/\r8 tm 14=jN fP.length/\r8 tm 15=jN j
  /\J'.h (J.aj+1)=some ⟨cO fP.length (λi=>if i<j then f (BD (ix fP i)).1 (BD (ix fP i)).2 else 0),none⟩/\Fr J J'/\J.aj+1+1<=J'.aj) fP.length ?_ ?_
 .refine⟨0,jb,jb,?_⟩
  refine WN ?_
  exact⟨by rw[yV],fr,jb⟩
 .rintro x tm J' ⟨j,rfl,hj,t1,t5,t13,t14,t15,q5,hf,hnx⟩
  have hle:=hf.le
  simp(disch:=try exact jz)only[go_sem,t14,t15,aA]
  refine aH (λhlt=>?_) (λhlt=>?_)
  .obtain⟨b5,o5,c5,rfl,-,bC⟩:=aZ.pos hL jb
   have bC:=hf.ld hW (bC j hlt)
   obtain⟨e,c,Gj,he,hc⟩:=JO j hlt
   obtain⟨b6,o6,c6,T,rfl,-,bJ,hT⟩:=hR.at he
   obtain⟨b7,o7,c7,rfl,-,cZ⟩:=aZ.at3 hT hc
   have bJ:=hf.ld hW bJ
   have cZ:=hf.ld hW cZ
   have hb6:=hf.wf.dh bJ
   have hb7:=hf.wf.dh cZ
   have lT:=Fr.refl hf.wf
   unfold NY at bC
   have hst:=um fP.length j λi=>f (BD (ix fP i)).1 (BD (ix fP i)).2
   rw[show f (BD (ix fP j)).1 (BD (ix fP j)).2=f e c by rw[Gj];rfl]at hst
   rw[Gj]at bC
   simp(disch:=try exact jz)only[go_sem,W3,bC,bJ,cZ,q5,hst]
   exact⟨fP.length-(j+1),jb,j+1,rfl,jb,rfl,rfl,fr,jb⟩
  .have:j=fP.length:=jb
   subst this
   simp(disch:=try exact jz)only[go_sem,t5]
   exact⟨⟨_,rfl,by rw[q5,Aa],jb,jb⟩,hf⟩
def arX{J:St}(hW:WF J){p:Nat->Prop}{v:B}{n:Nat}{f:Nat->Rat}(hv:kX p J.h v n f)(hn:n<=1000)(hz:∀i,i<n->Sz (f i))(hs:∀i,i<=n->Sz (aB i f)):
  aC EN 122 [.c v] J λr J'=>r=.agg (rK (aB n f))/\Fr J J':=by
 refine aN (yH.o _ _) yH.h ?_
 unfold yH
 dsimp only
 have hlen:=aZ.len hv
 have hFr:=Fr.refl hW
 simp(disch:=try exact jz)only[go_sem,hlen]
 refine aF (λx tm J'=>∃j,x=n-j/\j<=n/\r8 tm 2=.c (.ptr J.aj 0)/\r8 tm 3=.c (.ptr (J.aj+1) 0)/\r8 tm 7=.c v/\r8 tm 8=jN n/\r8 tm 9=jN j
  /\J'.h J.aj=some ⟨(rK 0),none⟩/\J'.h (J.aj+1)=some ⟨(rK (aB j f)),none⟩/\Fr J J'/\J.aj+1+1<=J'.aj) n ?_ ?_
 .refine⟨0,jb,jb,?_⟩
  refine WN ?_
  exact⟨rfl,fr,jb⟩
 .rintro x tm J' ⟨j,rfl,hj,t2,t3,t7,t8,t9,q2,q3,hf,hnx⟩
  have hle:=hf.le
  simp(disch:=try exact jz)only[go_sem,t8,t9,aA]
  refine aH (λhlt=>?_) (λhlt=>?_)
  .obtain⟨b5,o5,c5,rfl,-,bC⟩:=aZ.at3 hv hlt
   have bC:=hf.ld hW bC
   have z1:=hz j hlt
   have z2:=hs j jb
   have lT:=Fr.refl hf.wf
   simp(disch:=try exact jz)only[go_sem,W3,bC,au q3,q3]
   exact⟨n-(j+1),jb,j+1,rfl,jb,rfl,q2,rfl,fr,jb⟩
  .have:j=n:=jb
   subst this
   simp(disch:=try exact jz)only[go_sem,t2,t3,au q3,aG q2]
   exact fr
structure Fam(p:Nat->Prop)(h:Tr Bk)(nn bb:Nat->Nat)(GG:Nat->Nat->List B)(ee tt:Nat->Nat)(QQ:Nat->(Nat->Prop)->Tr Bk->Nat->Prop)(lo hi:Nat):Prop where
 g:∀k,wM (nn k) h (bb k)=gF (nn k) (GG k) (ee k) (tt k)
 L:∀k,LG (GG k) (ee k)
 l1:∀k,lo<=bb k
 l2:∀k,nn k=0\/bb k<hi
 ne:∀k k',k≠k'->nn k=0\/nn k'=0\/bb k≠bb k'
 np:∀k,nn k=0\/¬p (bb k)
 q:∀k j,j<nn k->QQ k p h j
 pp:∀x,p x->lo<=x/\x<hi
section
variable {p p' : Nat→Prop} {h h' h1:Tr Bk} {nn bb:Nat→Nat} {GG GG' : Nat→Nat→List B} {ee tt:Nat→Nat} {QQ QQ' : Nat→(Nat→Prop)→Tr Bk→Nat→Prop} {lo hi:Nat}
theorem Fam.nil(hn:∀k,nn k=0)(hL:∀k,LG (GG k) (ee k)):Fam (λ_=>False) h nn (λ_=>lo) GG ee tt QQ lo hi:=
 ⟨λk=>by rw[hn k];rfl,hL,λ_=>jp,λk=>.inl (hn k),λk _ _=>.inl (hn k),λk=>.inl (hn k),λk j hj=>by grind,λ_ h=>h.elim⟩
def Fam.keep(ho:Fam p h nn bb GG ee tt QQ lo hi)(hQ:∀k j,QK (QQ k) j)(hh:∀b,lo<=b->b<hi->h' b=h b){hi':Nat}(h2:hi<=hi'):Fam p h' nn bb GG ee tt QQ lo hi':=by obtain⟨g,L,l1,l2,ne,np,q,pp⟩:=ho;refine⟨λk=>?_,L,l1,λk=>by grind,ne,np,λk j hj=>hQ k j _ _ _ _ (q k j hj) (λb hb=>hh b (pp b hb).1 (pp b hb).2) λ_ hb=>hb,λx hx=>by grind⟩;grind[Go.Proofs.Xe.xO]
def Fam.push(ho:Fam p h nn bb GG ee tt QQ lo hi)(k:Nat){hi1 nx n':Nat}(hp:∀x,p x->p' x)(hp2:∀x,p' x->p x\/hi<=x/\x<hi1)(hQ:∀k j,QK (QQ' k) j)(hQQ:∀k j,j<nn k->∀p h,QQ k p h j->QQ' k p h j)(hG:∀k j,j<nn k->GG' k j=GG k j)(hL:∀k,LG (GG' k) (ee k))
  (hx:QQ' k p' h1 (nn k)) (hh:∀x,lo<=x->x<hi->h1 x=h x) (h2:hi<=hi1) (h3:hi1<=nx) (h4:nx<n') (h5:lo<=hi){x:List B}(hb:h' nx=some ⟨aY (nn k) (GG k)++x,some (ee k,tt k)⟩) (hgn:x=GG' k (nn k)) (hk:∀c,lo<=c->c<hi1->nn k=0\/c≠bb k->h' c=h1 c):
  Fam p' h' (aJ nn k (nn k+1)) (aJ bb k nx) GG' ee tt QQ' lo n':=by
 obtain⟨g,L,l1,l2,ne,np,q,pp⟩:=ho
 have hp':∀b,p' b->lo<=b/\b<hi1/\(nn k=0\/b≠bb k):=λb hb=>by grind
 have hnp:∀k',nn k'=0\/¬p' (bb k'):=λk'=>by grind
 refine⟨λk'=>?_,hL,λk'=>?_,λk'=>?_,λa b hab=>?_,λk'=>?_,λk' j hj=>?_,λx hx=>by grind⟩
 .by_cases e:k'=k
  .subst e
   rw[aI,aI]
   show h' nx=some _
   grind[Go.Proofs.Xe.jv,Go.Proofs.Xe.bf,Go.Proofs.Xe.iC]
  .rw[aQ _ _ _ _ e,aQ _ _ _ _ e]
   have h6:wM (nn k') h' (bb k')=wM (nn k') h (bb k'):=xO (by grind)
   rw[h6,g k']
   generalize hm:nn k'=m
   cases m with
   |zero=>rfl
   |succ m=>show some _=some _;grind[bf]
 .grind[aI,aQ]
 .grind[aI,aQ]
 .grind[aQ,aI]
 .grind[aI,aQ]
 .by_cases e:k'=k/\j=nn k
  .obtain⟨rfl,rfl⟩:=e
   exact hQ _ _ _ _ _ _ hx (λb hb=>hk b (hp' b hb).1 (hp' b hb).2.1 (hp' b hb).2.2) λ_ h=>h
  .have hj':j<nn k':=by
    by_cases e2:k'=k
    .subst e2;rw[aI]at hj;have:¬j=nn k':=λe3=>e ⟨rfl,e3⟩;omega
    .rwa[aQ _ _ _ _ e2]at hj
   exact hQ _ _ _ _ _ _ (hQQ k' j hj' _ _ (q k' j hj')) (λb hb=>by have:=hp' b (hp b hb);rw[hk b this.1 this.2.1 this.2.2,hh b (pp b hb).1 (pp b hb).2]) hp
def Fam.hlp(ho:Fam p h nn bb GG ee tt QQ lo hi)(k:Nat)(he:0<ee k)(hk:∀j,j<nn k->(GG k j).all B.kn=true){q:Nat->Prop}(hq:∀b,lo<=b->b<hi->q b):aZ q h (ee k) (aW (nn k) (bb k)) (nn k) (GG k):=by
 have g:=ho.g k;have hl:=ho.l2 k;have hL:=ho.L k;have hlo:=ho.l1 k;generalize nn k=n at*;cases n with
 |zero=>exact .inl ⟨rfl,rfl⟩
 |succ n=>exact bD _ g (Bd _ _ jb) (hq _ hlo jb) hL he hk
def Fam.keep'(ho:Fam p h nn bb GG ee tt QQ lo hi)(hQ:∀k j,QK (QQ k) j)(hp:∀b,p b->h' b=h b)(hh:∀k,nn k=0\/h' (bb k)=h (bb k)):Fam p h' nn bb GG ee tt QQ lo hi:=by obtain⟨g,L,l1,l2,ne,np,q,pp⟩:=ho;exact⟨λk=>(xO (hh k)).trans (g k),L,l1,l2,ne,np,λk j hj=>hQ k j _ _ _ _ (q k j hj) hp λ_ hb=>hb,pp⟩
structure wE(p:Nat->Prop)(h:Tr Bk)(nn bb:Nat->Nat)(GG:Nat->Nat->List B)(ee tt:Nat->Nat)(QQ:Nat->(Nat->Prop)->Tr Bk->Nat->Prop)(m:Nat)(kk:Nat->Nat)(C:Nat->Nat->List B)(bs:Nat->Nat)(lo hi:Nat):Prop where
 f:Fam p h nn bb GG ee tt QQ lo hi
 r:mP h m kk C bs lo hi
 w:∀j,j<m->¬p (bs j)
 n:∀j k,j<m->nn k=0\/bb k≠bs j
variable {m:Nat} {kk:Nat→Nat} {C:Nat→Nat→List B} {bs:Nat→Nat}
def wE.keep(ho:wE p h nn bb GG ee tt QQ m kk C bs lo hi)(hQ:∀k j,QK (QQ k) j)(hh:∀b,lo<=b->b<hi->h' b=h b){hi':Nat}(h2:hi<=hi'):wE p h' nn bb GG ee tt QQ m kk C bs lo hi':=
 ⟨ho.f.keep hQ hh h2,ho.r.mono hh jp h2,ho.w,ho.n⟩
def wE.push(ho:wE p h nn bb GG ee tt QQ m kk C bs lo hi)(k:Nat){hi1 nx n':Nat}(hp:∀x,p x->p' x)(hp2:∀x,p' x->p x\/hi<=x/\x<hi1)(hQ:∀k j,QK (QQ' k) j)(hQQ:∀k j,j<nn k->∀p h,QQ k p h j->QQ' k p h j)(hG:∀k j,j<nn k->GG' k j=GG k j)(hL:∀k,LG (GG' k) (ee k))
  (hx:QQ' k p' h1 (nn k)) (hh:∀x,lo<=x->x<hi->h1 x=h x) (h2:hi<=hi1) (h3:hi1<=nx) (h4:nx<n') (h5:lo<=hi){x:List B}(hb:h' nx=some ⟨aY (nn k) (GG k)++x,some (ee k,tt k)⟩) (hgn:x=GG' k (nn k)) (hk:∀c,lo<=c->c<hi1->nn k=0\/c≠bb k->h' c=h1 c):
  wE p' h' (aJ nn k (nn k+1)) (aJ bb k nx) GG' ee tt QQ' m kk C bs lo n':=by
 refine⟨ho.f.push k hp hp2 hQ hQQ hG hL hx hh h2 h3 h4 h5 hb hgn hk,ho.r.mono' (λj hj=>?_) jp jb,λj hj hb=>?_,λj i hj=>?_⟩
 .obtain⟨-,k2,k3⟩:=ho.r.r j hj
  have:=ho.n j k hj
  grind
 .obtain⟨-,k2,k3⟩:=ho.r.r j hj
  rcases hp2 _ hb with hb|hb
  .exact ho.w j hj hb
  .omega
 .obtain⟨-,k2,k3⟩:=ho.r.r j hj
  by_cases e:i=k
  .grind[aI]
  .rw[aQ nn _ _ _ e,aQ bb _ _ _ e];exact ho.n j i hj
def wE.pushRow(ho:wE p h nn bb GG ee tt QQ m kk C bs lo hi)(k:Nat){hi1 nx n' nb:Nat}(hQ:∀k j,QK (QQ' k) j)(hQQ:∀k j,j<nn k->∀p h,QQ k p h j->QQ' k p h j)(hG:∀k j,j<nn k->GG' k j=GG k j)(hL:∀k,LG (GG' k) (ee k))
  (hx:QQ' k p h1 (nn k)) (hh:∀x,lo<=x->x<hi->h1 x=h x) (h2:hi<=hi1) (h3:hi1<=nx) (h4:nx<n') (h5:lo<=hi){x:List B}(hb:h' nx=some ⟨aY (nn k) (GG k)++x,some (ee k,tt k)⟩) (hgn:x=GG' k (nn k)) (hk:∀c,lo<=c->c<hi1->nn k=0\/c≠bb k->h' c=h1 c)
  (h6:hi<=nb) (h7:nb<hi1) (hr:h' nb=some ⟨aY (kk m) (C m),none⟩):
  wE p h' (aJ nn k (nn k+1)) (aJ bb k nx) GG' ee tt QQ' (m+1) kk C (aJ bs m nb) lo n':=by
 have hP:=ho.push k (p':=p) (λ_ h=>h) (λ_ h=>.inl h) hQ hQQ hG hL hx hh h2 h3 h4 h5 hb hgn hk
 refine⟨hP.f,ho.r.push hr rfl h6 jb jb λb h8 h9 ⟨i,hi,e⟩=>?_,λj hj=>?_,λj i hj=>?_⟩
 .have:=ho.n i k hi
  grind
 .by_cases e:j=m
  .subst e;rw[aI];exact λh=>by have:=ho.f.pp _ h;omega
  .rw[aQ _ _ _ _ e];exact ho.w j jb
 .by_cases e:j=m
  .subst e
   rw[aI bs]
   by_cases e2:i=k
   .grind[aI]
   .rw[aQ nn _ _ _ e2,aQ bb _ _ _ e2]
    have:=ho.f.l2 i;omega
  .rw[aQ bs _ _ _ e];exact hP.n j i jb
def wE.write(ho:wE p h nn bb GG ee tt QQ m kk C bs lo hi)(hQ:∀k j,QK (QQ k) j){j c:Nat}{x l:List B}(hj:j<m)(hl:l=aY (kk j) (iC (C j) c x)):wE p (hset h (bs j) ⟨l,none⟩) nn bb GG ee tt QQ m kk (ug C j c x) bs lo hi:=by
 refine⟨ho.f.keep' hQ (λb hb=>ak _ _ _ _ λe=>ho.w j hj (e▸hb)) (λk=>?_),ho.r.set hj hl,ho.w,ho.n⟩;rcases ho.n j k hj with e|e
 .omega
 grind[ak]
theorem wE.grow(ho:wE p h nn bb GG ee tt QQ m kk C bs lo hi)(hQ:∀k j,QK (QQ k) j)(hh:∀b,lo<=b->b<hi->h' b=h b){hi':Nat}(h2:hi<=hi')(hp:∀x,p x->p' x)(hp2:∀x,p' x->p x\/hi<=x/\x<hi')(h3:lo<=hi):wE p' h' nn bb GG ee tt QQ m kk C bs lo hi':=by
 obtain⟨⟨g,L,l1,l2,ne,np,q,pp⟩,r,w,n⟩:=ho;refine⟨⟨λk=>?_,L,l1,λk=>by grind,ne,λk=>?_,λk j hj=>hQ k j _ _ _ _ (q k j hj) (λb hb=>hh b (pp b hb).1 (pp b hb).2) hp,λx hx=>?_⟩,r.mono hh jp h2,λj hj hb=>?_,n⟩
 .grind[Go.Proofs.Xe.xO]
 .grind
 .grind
 .obtain⟨-,k2,k3⟩:=r.r j hj;grind
def wE.same(ho:wE p h nn bb GG ee tt QQ m kk C bs lo hi)(k:Nat){hi1:Nat}(hh:∀x,lo<=x->x<hi->h1 x=h x)(h2:hi<=hi1)(hk:∀c,lo<=c->c<hi1->nn k=0\/c≠bb k->h' c=h1 c):∀x,p x->h' x=h x:=λx hx=>by
 have h3:=ho.f.pp x hx;rw[hk x h3.1 jb ?_,hh x h3.1 h3.2];rcases ho.f.np k with e|e
 .omega
 grind
end
def azl(p:Nat->Prop)(h:Tr Bk)(lv:B)(el:List vZ):Prop:=∃R P:Nat->B,aZ p h 6 lv el.length (λi=>jW (ix el i).c.length (R i) (P i) (pz (ix el i) (ix el i).c.length))/\∀i,i<el.length->zZ p h (R i) (P i) (bZ (ix el i))
def alk(p:Nat->Prop)(h:Tr Bk)(bv:B)(el:List vZ)(L:List gJ):Prop:=∃T:Nat->B,aZ p h 1 bv el.length (λi=>[T i])/\∀i,i<el.length->aZ p h 1 (T i) (ix el i).c.length λc=>[.bool (L.contains (i,c))]
structure Gn(p:Nat->Prop)(h:Tr Bk)(sb:Nat)(g:fH):Prop where
 s:∃ev dv lv bv,h sb=some ⟨[ev,dv,lv,bv],none⟩/\rW p h ev dv g/\azl p h lv g.e/\alk p h bv g.e (bI g).fP
 b:p sb
def Gn.keep{p q:Nat->Prop}{h h':Tr Bk}{sb:Nat}{g:fH}(hs:Gn p h sb g)(hk:∀b,p b->h' b=h b)(hp:∀b,p b->q b):Gn q h' sb g:=by obtain⟨⟨ev,dv,lv,bv,h1,h2,⟨R,P,h3,h4⟩,T,h5,h6⟩,hb⟩:=hs;exact⟨⟨ev,dv,lv,bv,by rw[hk _ hb];exact h1,h2.keep hk hp,⟨R,P,h3.keep hk hp,λi hi=>(h4 i hi).keep hk hp⟩,T,h5.keep hk hp,λi hi=>(h6 i hi).keep hk hp⟩,hp _ hb⟩
theorem Gn.fr{J J':St}(hf:Fr J J'){sb:Nat}{g:fH}(hs:Gn (Lt J.aj) J.h sb g):Gn (Lt J'.aj) J'.h sb g:=hs.keep (λb hb=>hf.old b hb) λb hb=>aE hb hf.le
def CG(i:Nat):Nat->Nat:=λk=>if k=2\/k=3 then i else 0
def kE(el:List vZ)(i:Nat):Nat:=(ix el i).c.length
def bG(el:List vZ)(R P:Nat->B)(bs:Nat->Nat):Nat->Nat->List B
 |2=>λi=>jW (ix el i).c.length (R i) (P i) (pz (ix el i) (ix el i).c.length)
 |3=>λi=>[zD (kE el) bs i]
 |_=>λ_=>[]
def bE:Nat->Nat
 |2=>6
 |3=>1
 |_=>0
def bT:Nat->Nat
 |2=>135
 |3=>33
 |_=>0
def bQ(el:List vZ)(R P:Nat->B):Nat->(Nat->Prop)->Tr Bk->Nat->Prop
 |2=>λp h i=>zZ p h (R i) (P i) (bZ (ix el i))
 |_=>NoQ
def alm(el:List vZ)(R P:Nat->B)(bs:Nat->Nat)(k:Nat):LG (bG el R P bs k) (bE k):=by intro j;unfold bG bE;split<;>rfl
def ahl(el:List vZ)(R P:Nat->B)(k j:Nat):QK (bQ el R P k) j:=by
 unfold bQ;split
 .exact λ_ _ _ _ hp hk hq=>hp.keep hk hq
 .exact MZ j
def Rw(L:List gJ)(i c:Nat):List B:=[.bool (L.contains (i,c))]
abbrev acS(el:List vZ)(p:Nat->Prop)(h:Tr Bk)(nn bb:Nat->Nat)(R P:Nat->B)(bs:Nat->Nat)(m:Nat)(L:List gJ)(lo hi:Nat):Prop:=wE p h nn bb (bG el R P bs) bE bT (bQ el R P) m (kE el) (Rw L) bs lo hi
def ahm(i:Nat):aJ (aJ (CG i) 2 (CG i 2+1)) 3 (aJ (CG i) 2 (CG i 2+1) 3+1)=CG (i+1):=by grind[aJ,CG]
theorem aan{kk bs:Nat->Nat}{m nb j:Nat}(h:j≠m):zD kk (aJ bs m nb) j=zD kk bs j:=by grind[zD,aQ]
def ae2(i k:Nat):CG i k<=i:=by grind[CG]
def avt{el:List vZ}{R P:Nat->B}{i j:Nat}(h:j<i)(rv pv:B)(k:Nat)(p:Nat->Prop)(H:Tr Bk)(hq:bQ el R P k p H j):bQ el (aJ R i rv) (aJ P i pv) k p H j:=by
 unfold bQ at hq⊢;split
 .grind[aQ]
 .trivial
def avu{el:List vZ}{R P:Nat->B}{bs:Nat->Nat}{i j:Nat}(h:j<i)(rv pv:B)(k:Nat):bG el (aJ R i rv) (aJ P i pv) bs k j=bG el R P bs k j:=by unfold bG;grind[aQ]
def avv{el:List vZ}{R P:Nat->B}{bs:Nat->Nat}{m nb j:Nat}(k:Nat)(h:k=3->j<m):bG el R P (aJ bs m nb) k j=bG el R P bs k j:=by unfold bG;grind[aan]
def uo{n:Nat}(h:0<n)(b:Nat):aW n b=.sl b 0 n .opn:=by
 cases n with
 |zero=>omega
 |succ n=>rfl
def Df(dl:List pX)(j:Nat):List gJ:=(dl.take j).flatMap λd=>d.l.map BD
def acT{dl:List pX}{j:Nat}(h:j<dl.length):Df dl (j+1)=Df dl j++(ix dl j).l.map BD:=by grind[Df,bU]
def ahn(g:fH):Df g.d g.d.length=(bI g).fP:=by grind[Df,GL.fP,bI,List.flatMap_map]
def aho(L:List gJ)(e c:Nat):ug (Rw L) e c [.bool true]=Rw (L++[(e,c)]):=by grind[ug,Rw]
structure aao(A:Nat)(g:fH):Prop where
 n:g.e.length<=1000
 d:g.d.length<=1000
 e:∀i,i<g.e.length->Rq A (ix g.e i)
 l:∀d,d<g.d.length->(ix g.d d).l.length<=1000
 lg:∀d,d<g.d.length->∀k,k<(ix g.d d).l.length->∃e c:Nat,ix (ix g.d d).l k=⟨.ofNat e,.ofNat c⟩/\e<g.e.length/\c<(ix g.e e).c.length
def aap(ev dv:B)(n:Nat)(bb:Nat->Nat):List B:=[ev,dv,aW n (bb 2),aW n (bb 3)]
def ap2{J:St}(hW:WF J){p:Nat->Prop}{ev dv:B}(g:fH)(hg:rW p J.h ev dv g){A:Nat}(hA:Dl A)(hO:aao A g):
  aC EN 50 [.agg [ev,dv]] J λr J'=>(∃sb,r=.c (.ptr sb 0)/\Gn (Lt J'.aj) J'.h sb g)/\Fr J J':=by
 refine aN (uU.o _ _) uU.h ?_
 unfold uU
 dsimp only
 have hek:=hg.e.kn
 have hdk:=hg.d.kn
 have hlenE:=hg.e.len
 have hlenD:=hg.d.len
 have hne:=hO.n
 have hnd:=hO.d
 have hFr:=Fr.refl hW
 simp(disch:=try exact jz)only[go_sem,hek,hdk,hlenE]
 refine bM.mono (Q:=λex tm J'=>ex=.exit 0/\∃p bb R P bs,r8 tm 1=.c (.ptr J.aj 0)/\r8 tm 3=.c (.ptr (J.aj+1) 0)/\J'.h J.aj=some ⟨[ev,dv],none⟩/\J'.h (J.aj+1)=some ⟨aap ev dv g.e.length bb,none⟩
   /\acS g.e p J'.h (CG g.e.length) bb R P bs g.e.length [] (J.aj+1+1) J'.aj/\Fr J J'/\J.aj+1+1<=J'.aj)
  (aF (λq tm J'=>∃i p bb R P bs,q=g.e.length-i/\i<=g.e.length/\r8 tm 1=.c (.ptr J.aj 0)/\r8 tm 3=.c (.ptr (J.aj+1) 0)/\r8 tm 14=.c ev/\r8 tm 15=jN g.e.length/\r8 tm 16=jN i/\J'.h J.aj=some ⟨[ev,dv],none⟩/\J'.h (J.aj+1)=some ⟨aap ev dv i bb,none⟩
   /\acS g.e p J'.h (CG i) bb R P bs i [] (J.aj+1+1) J'.aj/\Fr J J'/\J.aj+1+1<=J'.aj) g.e.length ?_ ?_) ?_
 .refine⟨0,λ_=>False,λ_=>J.aj+1+1,λ_=>.aO,λ_=>.aO,λ_=>0,jb,jb,?_⟩
  refine WN ?_
  refine⟨rfl,⟨Fam.nil (λk=>?_) (alm _ _ _ _),mP.nil _ _ _ _ _ _,λj hj=>jb,λj k hj=>jb⟩,fr,jb⟩
  unfold CG;split<;>rfl
 .rintro q tm J' ⟨i,p,bb,R,P,bs,rfl,hi,t1,t3,t14,t15,t16,q0,q1,hS,hf,hnx⟩
  have hle:=hf.le
  simp(disch:=try exact jz)only[go_sem,t15,t16,aA]
  refine aH (λhlt=>?_) (λhlt=>?_)
  .obtain⟨b5,o5,c5,rfl,C1,A1,bC,-,hC,hA1⟩:=hg.e.at hlt
   have bC:=hf.ld hW bC
   have SY:=aZ.kn hC
   have hAk:=hA1.kn
   have hlo2:=hS.f.l1 2
   have hlo3:=hS.f.l1 3
   have hhi2:i=0\/bb 2<J'.aj:=hS.f.l2 2
   have hhi3:i=0\/bb 3<J'.aj:=hS.f.l2 3
   have azm:i=0\/i=0\/bb 2≠bb 3:=hS.f.ne 2 3 jj
   unfold aap at q1
   refine JM (run_seq (FD (Rt (λtm σ5=>∃p bb R P,r8 tm 1=.c (.ptr J.aj 0)/\r8 tm 3=.c (.ptr (J.aj+1) 0)/\r8 tm 5=.c (.ptr J'.aj 0)/\r8 tm 14=.c (.sl b5 o5 g.e.length c5)/\r8 tm 15=jN g.e.length/\r8 tm 16=jN i
     /\σ5.h J.aj=some ⟨[.sl b5 o5 g.e.length c5,dv],none⟩/\σ5.h (J.aj+1)=some ⟨[.sl b5 o5 g.e.length c5,dv,aW (i+1) (bb 2),aW i (bb 3)],none⟩/\σ5.h J'.aj=some ⟨[.bool (ix g.e i).m.n,.str (ix g.e i).m.s,.str (ix g.e i).m.d,C1,A1],none⟩/\acS g.e p σ5.h (aJ (CG i) 2 (CG i 2+1)) bb R P bs i [] (J.aj+1+1) σ5.aj/\Fr J σ5/\J'.aj<σ5.aj) ?_ ?_)))
   .have lT:=Fr.refl hf.wf
    simp(disch:=try exact jz)only[go_sem,t3,t14,t16,bC,SY,hAk,au q1]
    refine aC.st (Fr J') (fr) λdY=>?_
    have hf5:=hf.trans dY
    refine(azk dY.wf (aZ.fr hW hf5 hC) (hA1.fr hW hf5) rfl rfl rfl hA (hO.e i hlt)).mono ?_
    rintro _ σ6 ⟨⟨rv,pv,rfl,hL⟩,iD⟩
    have iR:=dY.trans iD
    have acP:=hf.trans iR
    have zC:J'.aj+1<=σ6.aj:=iD.le
    have q06:=iR.get hf.wf q0
    have q16:=iR.get hf.wf q1
    have q56:σ6.h J'.aj=some ⟨[.bool (ix g.e i).m.n,.str (ix g.e i).m.s,.str (ix g.e i).m.d,C1,A1],none⟩:=iD.get dY.wf (ay _ _ _)
    have hrk:=hL.rk.kn
    have hpk:=hL.pkn
    have hS6:=hS.keep (ahl _ _ _) (λb _ hb=>iR.old b hb) jp
    have hg6:wM i σ6.h (bb 2)=gF i (bG g.e R P bs 2) 6 135:=hS6.f.g 2
    have hLG:LG (bG g.e R P bs 2) 6:=alm _ _ _ _ 2
    unfold jW
    simp(disch:=try exact jz)only[go_sem,W3,hrk,hpk,au q16,q16,hg6]
    refine⟨λb=>p b\/J'.aj<=b/\b<σ6.aj,aJ bb 2 (σ6.aj+1),aJ R i rv,aJ P i pv,?_⟩
    and_intros<;>try(first|rfl|omega|exact q06|exact q56|exact fr)
    refine hS.push 2 (hi1:=σ6.aj) (h1:=σ6.h) (λx h=>.inl h) (λx h=>h) (ahl _ _ _) (λk j hj p h hq=>avt (aE hj (ae2 i k)) rv pv k p h hq) (λk j hj=>avu (aE hj (ae2 i k)) rv pv k) (alm _ _ _ _) ?_ (λb _ hb=>iR.old b hb) jb jb jb hnx
     (x:=jW (ix g.e i).c.length rv pv (pz (ix g.e i) (ix g.e i).c.length)) ?_ ?_ λc h1 h2 h3=>?_
    .show zZ _ _ (aJ R i rv i) (aJ P i pv i) _
     rw[aI,aI]
     exact hL.keep (λ_ _=>rfl) λb hb=>.inr ⟨ar (dx _) hb.1,hb.2⟩
    .rw[ak _ _ _ _ jb,ay];rfl
    .show _=jW _ (aJ R i rv i) (aJ P i pv i) _
     rw[aI,aI];rfl
    .rw[ak _ _ _ _ jb,ak _ _ _ _ jb,fE i _ _ _ h3,ak _ _ _ _ jb]
   .rintro tm5 σ5 ⟨p5,nP,R5,P5,t1,t3,t5,t14,t15,t16,q0,q1,q5,hS5,hf5,hn5⟩
    have wu:=hf5.le
    have hlo2:=hS5.f.l1 2
    have hlo3:=hS5.f.l1 3
    have hhi2:i+1=0\/nP 2<σ5.aj:=hS5.f.l2 2
    have hhi3:i=0\/nP 3<σ5.aj:=hS5.f.l2 3
    have azm:i+1=0\/i=0\/nP 2≠nP 3:=hS5.f.ne 2 3 jj
    have hg5:wM i σ5.h (nP 3)=gF i (bG g.e R5 P5 bs 3) 1 33:=hS5.f.g 3
    have hLG:LG (bG g.e R5 P5 bs 3) 1:=alm _ _ _ _ 3
    have hnc:=(hO.e i hlt).nc
    have hlC:=aZ.len hC
    have JQ:=Fr.refl hf5.wf
    simp(disch:=try exact jz)only[go_sem,W3,hlC,SY,au q1,au q5,q1,hg5]
    refine⟨g.e.length-(i+1),jb,i+1,p5,aJ nP 3 (σ5.aj+1+1),R5,P5,aJ bs i σ5.aj,rfl,jb,rfl,q0,rfl,?_,fr,jb⟩
    rw[<-ahm]
    refine hS5.pushRow 3 (hi1:=σ5.aj+1) (nb:=σ5.aj) (h1:=hset σ5.h σ5.aj ⟨aY (kE g.e i) (Rw [] i),none⟩) (ahl _ _ _) (λk j hj p h hq=>hq) (λk j hj=>avv (m:=i) k λe=>by subst e;exact hj) (alm _ _ _ _) trivial (λb _ hb=>ak _ _ _ _ jb) jb jb jb jb (x:=[zD (kE g.e) (aJ bs i σ5.aj) i]) ?_ rfl (λc h1 h2 h3=>?_) jb jb ?_
    .rw[ak _ _ _ _ jb,ay]
     unfold zD
     rw[aI];rfl
    .rw[ak _ _ _ _ jb,ak _ _ _ _ jb,fE i _ _ _ h3,ak _ _ _ _ jb];rfl
    .rw[ak _ _ _ _ jb,ak _ _ _ _ jb,fE _ _ _ _ jb,ak _ _ _ _ jb,ay];rfl
  .have:i=g.e.length:=jb
   subst this
   simp(disch:=try exact jz)only[go_sem,am]
   exact⟨p,bb,R,P,bs,t1,t3,q0,q1,hS,hf,hnx⟩
 rintro _ tm σ2 ⟨rfl,p2,bb,R,P,bs,t1,t3,q0,q1,hS,hf,hnx⟩
 have hle:=hf.le
 have ayN:∀k,bb k<σ2.aj\/CG g.e.length k=0:=λk=>(hS.f.l2 k).symm
 simp(disch:=try exact jz)only[go_sem,t1,au q0,hdk,hlenD]
 refine bM.mono (Q:=λex tm J'=>ex=.exit 2/\r8 tm 3=.c (.ptr (J.aj+1) 0)/\J'.h (J.aj+1)=some ⟨aap ev dv g.e.length bb,none⟩/\acS g.e p2 J'.h (CG g.e.length) bb R P bs g.e.length (Df g.d g.d.length) (J.aj+1+1) J'.aj/\Fr J J'/\J.aj+1+1<=J'.aj)
  (aF (λq tm J'=>∃j,q=g.d.length-j/\j<=g.d.length/\r8 tm 3=.c (.ptr (J.aj+1) 0)/\r8 tm 46=.c dv/\r8 tm 47=jN g.d.length/\r8 tm 48=jN j
   /\J'.h (J.aj+1)=some ⟨aap ev dv g.e.length bb,none⟩/\acS g.e p2 J'.h (CG g.e.length) bb R P bs g.e.length (Df g.d j) (J.aj+1+1) J'.aj/\Fr J J'/\J.aj+1+1<=J'.aj) g.d.length ?_ ?_) ?_
 .refine⟨0,jb,jb,?_⟩
  simp(disch:=try exact jz)only[go_sem,t3,am]
  exact⟨q1,hS,hf,hnx⟩
 .rintro q tm J' ⟨j,rfl,hj,t3,t46,t47,t48,q1,hS,hf,hnx⟩
  have hle:=hf.le
  simp(disch:=try exact jz)only[go_sem,t47,t48,aA]
  refine aH (λhlt=>?_) (λhlt=>?_)
  .obtain⟨b5,o5,c5,rfl,T1,bC,hT⟩:=hg.d.el hlt
   have bC:=hf.ld hW bC
   have WT:=aZ.kn hT
   have hlT:=aZ.len hT
   have hll:=hO.l j hlt
   have lT:=Fr.refl hf.wf
   simp(disch:=try exact jz)only[go_sem,t46,t48,bC,WT,hlT]
   refine bM.st (Fr J') (fr) λhF3=>?_
   have hf3:=hf.trans hF3
   have hS3:=hS.keep (ahl _ _ _) (λb _ hb=>hF3.old b hb) hF3.le
   have q13:=hF3.get hf.wf q1
   have hle3:=hF3.le
   refine bM.mono (Q:=λex tm σ4=>ex=.exit 4/\r8 tm 3=.c (.ptr (J.aj+1) 0)/\r8 tm 46=.c (.sl b5 o5 g.d.length c5)/\r8 tm 47=jN g.d.length/\r8 tm 48=jN j/\σ4.h (J.aj+1)=some ⟨aap ev (.sl b5 o5 g.d.length c5) g.e.length bb,none⟩/\acS g.e p2 σ4.h (CG g.e.length) bb R P bs g.e.length (Df g.d (j+1)) (J.aj+1+1) σ4.aj/\Fr J σ4/\J.aj+1+1<=σ4.aj)
    (aF (λq tm σ4=>∃t,q=(ix g.d j).l.length-t/\t<=(ix g.d j).l.length/\r8 tm 3=.c (.ptr (J.aj+1) 0)/\r8 tm 46=.c (.sl b5 o5 g.d.length c5)/\r8 tm 47=jN g.d.length/\r8 tm 48=jN j/\r8 tm 53=.c T1/\r8 tm 54=jN (ix g.d j).l.length/\r8 tm 55=jN t
     /\σ4.h (J.aj+1)=some ⟨aap ev (.sl b5 o5 g.d.length c5) g.e.length bb,none⟩/\acS g.e p2 σ4.h (CG g.e.length) bb R P bs g.e.length (Df g.d j++((ix g.d j).l.take t).map BD) (J.aj+1+1) σ4.aj/\Fr J σ4/\J.aj+1+1<=σ4.aj) (ix g.d j).l.length ?_ ?_) ?_
   .refine⟨0,jb,jb,?_⟩
    simp(disch:=try exact jz)only[go_sem,W3,am,cH,List.map_nil,du]
    exact⟨q1,hS3,hf3,jb⟩
   .rintro q tm σ4 ⟨t,rfl,ht,t3,t46,t47,t48,t53,t54,t55,TN,hS4,hf4,hn4⟩
    have pK:=hf4.le
    simp(disch:=try exact jz)only[go_sem,t54,t55,aA]
    refine aH (λhlt4=>?_) (λhlt4=>?_)
    .obtain⟨b6,o6,c6,rfl,-,bJ⟩:=aZ.pos hT jb
     have bJ:=hf4.ld hW (bJ t hlt4)
     obtain⟨e,c,Gj,he,hc⟩:=hO.lg j hlt t hlt4
     unfold NY at bJ
     rw[Gj]at bJ
     have hrow:ld σ4.h (bb 3) (0+e*1) 1 false=some (.c (zD (kE g.e) bs e)):=by obtain⟨b7,o7,c7,e7,-,cZ⟩:=aZ.pos (hS4.f.hlp 3 (q:=λ_=>True) jj (λ_ _=>rfl) λ_ _ _=>trivial) (show 0<CG g.e.length 3 by show 0<g.e.length;omega);have e8:aW g.e.length (bb 3)=.sl b7 o7 g.e.length c7:=e7;rw[uo jb]at e8;cases e8;exact(tH (cZ e he)).1
     unfold zD kE at hrow
     rw[ck]at hrow
     obtain⟨hr1,hr2,hr3⟩:=hS4.r.r e he
     have hr1:σ4.h (bs e)=some ⟨ones (ix g.e e).c.length λc=>.bool ((Df g.d j++((ix g.d j).l.take t).map BD).contains (e,c)),none⟩:=hr1
     have hb3:=hS4.f.l1 3
     have apS:bb 3<σ4.aj:=by rcases hS4.f.l2 3 with h|h;exact absurd (show g.e.length=0 from h) jb;exact h
     have EC:=Fr.refl hf4.wf
     have hfp:=uo (show 0<g.e.length by omega) (bb 3)
     have avw:=TN
     unfold aap at avw
     rw[hfp]at avw
     simp(disch:=try exact jz)only[go_sem,W3,bJ,au avw,hrow,hr1]
     refine⟨(ix g.d j).l.length-(t+1),jb,t+1,rfl,jb,rfl,TN,?_,fr,jb⟩
     have e9:Df g.d j++((ix g.d j).l.take (t+1)).map BD=(Df g.d j++((ix g.d j).l.take t).map BD)++[(e,c)]:=by rw[bU hlt4,List.map_append,gS,Gj];rfl
     rw[e9]
     show wE _ _ _ _ _ _ _ _ _ _ (Rw _) _ _ _
     rw[<-aho]
     refine(hS4.keep (h':=hset (hset σ4.h σ4.aj ⟨[i0,i0],none⟩) σ4.aj ⟨[.int .i64 (.ofNat e),.int .i64 (.ofNat c)],none⟩) (ahl _ _ _) (λb _ hb=>by rw[ak _ _ _ _ jb,ak _ _ _ _ jb]) (dx _)).write (ahl _ _ _) he (bf λc' _=>?_)
     unfold iC aJ Rw
     split<;>rfl
    .have:t=(ix g.d j).l.length:=jb
     subst this
     refine WN ?_
     rw[cr,<-acT hlt]at hS4
     exact⟨t3,t46,t47,t48,TN,hS4,hf4,hn4⟩
   .rintro _ tm σ4 ⟨rfl,t3,t46,t47,t48,TN,hS4,hf4,hn4⟩
    refine WP ?_
    exact⟨g.d.length-(j+1),jb,j+1,rfl,jb,rfl,TN,hS4,hf4,hn4⟩
  .have:j=g.d.length:=jb
   subst this
   simp(disch:=try exact jz)only[go_sem,am]
   exact⟨t3,q1,hS,hf,hnx⟩
 rintro _ tm σ3 ⟨rfl,t3,q1,hS,hf,hnx⟩
 have hle:=hf.le
 refine WP ?_
 refine⟨⟨_,rfl,⟨_,_,_,_,q1,(hg.fr hW hf).keep (λ_ _=>rfl) λb hb=>aE hb hf.le,⟨R,P,?_,λi hi=>?_⟩,?_⟩,by show _<_;omega⟩,hf⟩
 .refine(hS.f.hlp 2 jj (λj hj=>?_) λb _ h2=>h2)
  have:=hS.f.q 2 j hj
  show List.all (jW _ _ _ _) B.kn=true
  unfold jW
  have h1:(R j).kn=true:=zZ.rk this|>.kn
  have h2:(P j).kn=true:=zZ.pkn this
  simp only[cy,di,ajD,vK,Am,h1,h2,cI]
 .exact zZ.keep (hS.f.q 2 i hi) (λ_ _=>rfl) λb hb=>(hS.f.pp b hb).2
 .refine⟨λi=>zD (kE g.e) bs i,hS.f.hlp 3 jj (λ_ _=>rfl) λb _ h2=>h2,λi hi=>?_⟩
  rw[<-ahn]
  exact hS.r.hlp (λb _ h2=>h2) jj (λ_ _=>rfl) (λ_ _ _ _=>rfl) hi
structure azn(D:Nat)(g:fH)(x:Nat->Rat):Prop where
 hD:Dl D
 n:g.e.length<=1000
 d:g.d.length<=1000
 e:∀i,i<g.e.length->EOk D (kE g.e i) (bZ (ix g.e i))/\MOk D (bZ (ix g.e i)) (x i)/\Sz (pz (ix g.e i) (kE g.e i))/\Sz (x i-pz (ix g.e i) (kE g.e i))
 k:∀i,i<g.e.length->kE g.e i<=1000
 w:∀d,d<g.d.length->(ix g.d d).w.fits 1000000/\0<=(ix g.d d).w.q/\Zk D 1 (ix g.d d).w.q
 l:∀d,d<g.d.length->(ix g.d d).l.length<=1000/\∀k,k<(ix g.d d).l.length->∃e c:Nat,ix (ix g.d d).l k=⟨.ofNat e,.ofNat c⟩/\e<g.e.length/\c<kE g.e e
 q:∀i,i<g.e.length->∀c,c<kE g.e i->0<=gq (bI g) x (i,c)/\Zk D 1 (gq (bI g) x (i,c))
 r:∀i,i<g.e.length->∀c,c<kE g.e i->Sz (LC (bI g) x (i,c))
 nd:(bI g).fP.Nodup
def Xv(g:fH)(x:Nat->Rat)(i c:Nat):Rat:=AU (bZ (ix g.e i)) (x i) c
def LH(g:fH)(x:Nat->Rat)(i c:Nat):Rat:=uI (bZ (ix g.e i)) (x i) c
def suF(g:fH)(x:Nat->Rat)(i:Nat):Rat:=sH (x i-pz (ix g.e i) (kE g.e i)) 0
def rsF(g:fH)(x:Nat->Rat)(i:Nat):Rat:=rsv (bZ (ix g.e i)) (x i)
def fuF(g:fH)(x:Nat->Rat)(i:Nat):Bool:=decide (0<=mW (x i) (pz (ix g.e i) (kE g.e i)))
noncomputable def sG (g:fH) (x:Nat→Rat) (T:Nat→Nat→B) (bs:Nat→Nat):Nat→Nat→List B
 | 1=>fun i=>[T 1 i]
 | 2=>fun i=>[T 2 i]
 | 3=>fun i=>[zD (kE g.e) bs i]
 | 4=>fun i=>[T 4 i]
 | 5=>fun i=>dP (suF g x i)
 | 6=>fun i=>dP (rsF g x i)
 | 7=>fun i=>[.bool (fuF g x i)]
 | _=>fun _=>[]
def sE:Nat->Nat
 |1=>1
 |2=>1
 |3=>1
 |4=>1
 |5=>3
 |6=>3
 |7=>1
 |_=>0
def sT:Nat->Nat
 |1=>31
 |2=>31
 |3=>31
 |4=>31
 |5=>44
 |6=>44
 |7=>4
 |_=>0
def sQ(g:fH)(x:Nat->Rat)(T:Nat->Nat->B):Nat->(Nat->Prop)->Tr Bk->Nat->Prop
 |1=>TM (T 1) (kE g.e) (Xv g x)
 |2=>TM (T 2) (kE g.e) (LH g x)
 |4=>TM (T 4) (kE g.e) λi c=>Xt (bI g) x (i,c)
 |_=>NoQ
def Rx(g:fH)(x:Nat->Rat)(T:Nat->Nat->B)(bs:Nat->Nat)(k:Nat):LG (sG g x T bs k) (sE k):=by intro j;unfold sG sE;split<;>rfl
def TP(g:fH)(x:Nat->Rat)(T:Nat->Nat->B)(k j:Nat):QK (sQ g x T k) j:=by
 unfold sQ;split
 .exact E8 _ _ _ j
 .exact E8 _ _ _ j
 .exact E8 _ _ _ j
 .exact MZ j
def uw(T:Nat->Nat->B)(k i:Nat)(v:B):Nat->Nat->B:=λk' j=>if k'=k/\j=i then v else T k' j
def Oz{T:Nat->Nat->B}{k i k' j:Nat}(h:k'≠k\/j≠i)(v:B):uw T k i v k' j=T k' j:=ae jb
def ou(T:Nat->Nat->B)(k i:Nat)(v:B):uw T k i v k i=v:=ab ⟨rfl,rfl⟩
def acU{g:fH}{x:Nat->Rat}{T:Nat->Nat->B}{bs:Nat->Nat}{k i:Nat}{v:B}{k' j:Nat}(h:k'=k->j<i):sG g x (uw T k i v) bs k' j=sG g x T bs k' j:=by
 have hu:∀a,k'=a->uw T k i v a j=T a j:=λa e=>Oz (by by_cases e2:a=k;exact .inr (by have:=h (e.trans e2);omega);exact .inl e2) v;unfold sG;split
 .show [uw T k i v 1 j]=_;rw[hu 1 rfl]
 .show [uw T k i v 2 j]=_;rw[hu 2 rfl]
 .rfl
 .show [uw T k i v 4 j]=_;rw[hu 4 rfl]
 .rfl
 .rfl
 .rfl
 .rfl
def acV{g:fH}{x:Nat->Rat}{T:Nat->Nat->B}{k i:Nat}{v:B}{k' j:Nat}(h:k'=k->j<i){p:Nat->Prop}{H:Tr Bk}(hq:sQ g x T k' p H j):sQ g x (uw T k i v) k' p H j:=by
 have hu:∀a,k'=a->uw T k i v a j=T a j:=λa e=>Oz (by by_cases e2:a=k;exact .inr (by have:=h (e.trans e2);omega);exact .inl e2) v;unfold sQ at hq⊢;split
 .show aZ _ _ _ (uw T k i v 1 j) _ _;rw[hu 1 rfl];exact hq
 .show aZ _ _ _ (uw T k i v 2 j) _ _;rw[hu 2 rfl];exact hq
 .show aZ _ _ _ (uw T k i v 4 j) _ _;rw[hu 4 rfl];exact hq
 .trivial
def avx{g:fH}{x:Nat->Rat}{T:Nat->Nat->B}{bs:Nat->Nat}{m nb j:Nat}(k:Nat)(h:k=3->j<m):sG g x T (aJ bs m nb) k j=sG g x T bs k j:=by
 unfold sG;split
 .rfl
 .rfl
 .show [zD _ _ j]=_;have:=h rfl;rw[aan jb]
 all_goals rfl
def Fa(cm:B)(nn bb:Nat->Nat):List B:=[cm,aW (nn 1) (bb 1),aW (nn 2) (bb 2),aW (nn 3) (bb 3),aW (nn 4) (bb 4),aW (nn 5) (bb 5),aW (nn 6) (bb 6),aW (nn 7) (bb 7)]
noncomputable def rC (R:Nat→Nat→Rat) (i c:Nat):List B:=dP (R i c)
abbrev CJ(g:fH)(x:Nat->Rat)(p:Nat->Prop)(h:Tr Bk)(nn bb:Nat->Nat)(T:Nat->Nat->B)(m:Nat)(R:Nat->Nat->Rat)(bs:Nat->Nat)(lo hi:Nat):Prop:=wE p h nn bb (sG g x T bs) sE sT (sQ g x T) m (kE g.e) (rC R) bs lo hi
def uH(i m:Nat):Nat->Nat
 |1=>i
 |2=>i
 |3=>i
 |4=>m
 |5=>i
 |6=>i
 |7=>i
 |_=>0
def acW(tm:Tr V)(rb sb mb n ob i lb xb:Nat)(lv dv:B):Prop:=r8 tm 0=.c (.ptr sb 0)/\r8 tm 1=.c (.sl mb 0 n (.ex n))/\r8 tm 4=.c (.ptr rb 0)/\r8 tm 5=.c (.ptr ob 0)/\r8 tm 6=jN i/\r8 tm 7=.c (.ptr lb 0)/\r8 tm 8=.c dv/\r8 tm 9=.c (.ptr xb 0)/\r8 tm 25=.c lv/\r8 tm 26=jN n/\r8 tm 27=jN i
structure acX(J:St)(g:fH)(x:Nat->Rat)(cm:B)(ob i:Nat)(LB:List B)(lb xb:Nat)(dv:B)(nn:Nat->Nat)(m:Nat)(p:Nat->Prop)(bb:Nat->Nat)(T:Nat->Nat->B)(bs:Nat->Nat)(σ5:St):Prop where
 o:σ5.h ob=some ⟨Fa cm nn bb,none⟩
 l:σ5.h lb=some ⟨LB,none⟩
 rx:σ5.h xb=some ⟨dP (rsF g x i),none⟩
 pl:p lb
 px:p xb
 d:kX p σ5.h dv (kE g.e i) (LH g x i)
 S:CJ g x p σ5.h nn bb T m (λ_ _=>0) bs (ob+1) σ5.aj
 f:Fr J σ5
 n:ob+1<=σ5.aj
section
variable {J σ5:St} {g:fH} {x:Nat→Rat} {cm:B} {ob i:Nat} {LB:List B} {lb xb:Nat} {dv:B} {nn:Nat→Nat} {m:Nat} {p p' : Nat→Prop} {bb:Nat→Nat} {T T' : Nat→Nat→B} {bs:Nat→Nat}
def acX.push(H:acX J g x cm ob i LB lb xb dv nn m p bb T bs σ5)(k:Nat){hi1 nx n':Nat}{h1 h':Tr Bk}(hp:∀b,p b->p' b)(hp2:∀b,p' b->p b\/σ5.aj<=b/\b<hi1)(hQQ:∀k' j,j<nn k'->∀p h,sQ g x T k' p h j->sQ g x T' k' p h j)(hG:∀k' j,j<nn k'->sG g x T' bs k' j=sG g x T bs k' j)(hx:sQ g x T' k p' h1 (nn k))(hh:∀b,b<σ5.aj->h1 b=σ5.h b)
  (h2:σ5.aj<=hi1) (h3:hi1<=nx) (h4:nx<n'){y:List B}(hb:h' nx=some ⟨aY (nn k) (sG g x T bs k)++y,some (sE k,sT k)⟩) (hgn:y=sG g x T' bs k (nn k)) (hk:∀c,c≠ob->c<hi1->nn k=0\/c≠bb k->h' c=h1 c) (ho:h' ob=some ⟨Fa cm (aJ nn k (nn k+1)) (aJ bb k nx),none⟩) (hf:Fr J ⟨h',n'⟩):
  acX J g x cm ob i LB lb xb dv (aJ nn k (nn k+1)) m p' (aJ bb k nx) T' bs ⟨h',n'⟩:=by
 have hn:=H.n
 have hS:=H.S.push k hp hp2 (TP g x T') hQQ hG (Rx g x T' bs) hx (λb _ hb=>hh b hb) h2 h3 h4 hn hb hgn λc hc h5 h6=>hk c jb h5 h6
 have hs:=H.S.same k (λb _ hb=>hh b hb) h2 λc hc h5 h6=>hk c jb h5 h6
 exact⟨ho,(hs _ H.pl).trans H.l,(hs _ H.px).trans H.rx,hp _ H.pl,hp _ H.px,aZ.keep H.d hs hp,hS,hf,by show ob+1<=n';omega⟩
def acX.pushRow(H:acX J g x cm ob i LB lb xb dv nn m p bb T bs σ5)(hm:nn 3<=m){hi1 nx n' nb:Nat}{h1 h':Tr Bk}(hh:∀b,b<σ5.aj->h1 b=σ5.h b)(h2:σ5.aj<=hi1)(h3:hi1<=nx)(h4:nx<n'){y:List B}(hb:h' nx=some ⟨aY (nn 3) (sG g x T bs 3)++y,some (1,31)⟩)(hgn:y=[zD (kE g.e) (aJ bs m nb) (nn 3)])(hk:∀c,c≠ob->c<hi1->nn 3=0\/c≠bb 3->h' c=h1 c)(ho:h' ob=some ⟨Fa cm (aJ nn 3 (nn 3+1)) (aJ bb 3 nx),none⟩)(hf:Fr J ⟨h',n'⟩)
  (h6:σ5.aj<=nb) (h7:nb<hi1) (hr:h' nb=some ⟨aY (kE g.e m) λ_=>dP 0,none⟩):
  acX J g x cm ob i LB lb xb dv (aJ nn 3 (nn 3+1)) (m+1) p (aJ bb 3 nx) T (aJ bs m nb) ⟨h',n'⟩:=by
 have hn:=H.n
 have hS:=H.S.pushRow 3 (TP g x T) (λ_ _ _ _ _ h=>h) (λk j hj=>avx (m:=m) (nb:=nb) k λe=>by subst e;omega) (Rx g x T _) trivial (λb _ hb=>hh b hb) h2 h3 h4 hn hb hgn (λc hc h5 h6=>hk c jb h5 h6) h6 h7 hr
 have hs:=H.S.same 3 (λb _ hb=>hh b hb) h2 λc hc h5 h6=>hk c jb h5 h6
 exact⟨ho,(hs _ H.pl).trans H.l,(hs _ H.px).trans H.rx,H.pl,H.px,aZ.keep H.d hs λ_ h=>h,hS,hf,by show ob+1<=n';omega⟩
end
end Go.Proofs.Xe
