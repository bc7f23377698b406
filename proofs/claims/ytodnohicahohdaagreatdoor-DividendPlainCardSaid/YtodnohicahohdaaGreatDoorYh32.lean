import Derived.Test.YtodnohicahohdaaGreatDoorYh31
set_option linter.all false
set_option maxRecDepth 100000
set_option maxHeartbeats 8000000
attribute [-go_sem] Go.Proofs.Xe.azd Go.Proofs.Xe.aze Go.Proofs.Xe.azf
namespace Go.Proofs.Xe
open Go.RowKit Go.Proofs.Ins
def OL{a b:Rat}:0<=nC a b↔b<=a:=by rw[<-Int.not_lt,sN];grind
def Rn(p:Rat):wR p 0=uG p:=by
 unfold wR uG;by_cases h:0<=p
 .rw[ab h,ab (OL.mpr h)]
 .rw[ae h,ae λe=>h (OL.mp e)]
def LP{p:Rat}(h:0<=p):uG p=p:=ab h
def ahI(W:Rat)(q:Nat->Rat)(k:Nat):Rat:=uG (aF (k+1) q-W)-uG (aF k q-W)
def aau(J J':St)(r:V)(n:Nat)(f:Nat->Rat):Prop:=∃b,r=.c (.sl b 0 n (.ex n))/\J'.h b=some ⟨dh n f,none⟩/\J.aj<=b/\b<J'.aj
theorem Zk.Bf{D:Nat}{f:Nat->Rat}:∀{n:Nat},(∀i,i<n->Zk D 1 (f i))->Zk D n (aF n f)
 |0,_=>Zk.zero
 |n+1,h=>(Zk.Bf λi hi=>h i jb).add (h n jb)
def Zk.pq{D k:Nat}{q:Rat}(h:Zk D k q):Zk D k (uG q):=by
 unfold uG;split
 .exact h
 .exact Zk.zero.mono (aR _)
def XI:1000000<=256^uK:=ar (by decide:1000000<=256^3) (bN jj jj)
def ahJ{J:St}(hW:WF J){p:Nat->Prop}{wn:Bool}{ws wd:ByteArray}{W:Rat}(hw:rq wn ws wd=W)(hws:ws.size+wd.size<=130000000){v:B}{m:Nat}{q:Nat->Rat}(hv:kS p J.h v m q)(hm:m<=1000)(hq:∀k,k<m->0<=q k)(h0:0<=W){D:Nat}(hD:DW D)(hWz:Zk D 1 W)(hqz:∀k,k<m->Zk D 1 (q k)):
  aB EN 87 [.agg [.bool wn,.str ws,.str wd],.c v] J λr J'=>aau J J' r m (ahI W q)/\Fr J J':=by
 refine aI (qH.o _ _) qH.h ?_
 unfold qH
 dsimp only
 have hlen:=aZ.len hv
 have hFr:=Fr.refl hW
 have hu:=XI
 have hp:=λ(args:List V) (J:St) (K:V->St->Prop)=>lU (E:=EN) (K:=K) (iG.o args J) iG.h
 unfold iG at hp
 dsimp only at hp
 simp(disch:=try exact jz)only[go_sem,hlen]
 refine aG (λx tm J'=>∃k,x=m-k/\k<=m/\r8 tm 2=.c (.ptr J.aj 0)/\r8 tm 5=.c (.sl (J.aj+1) 0 m (.ex m))/\r8 tm 6=.c (.ptr (J.aj+1+1) 0)/\r8 tm 7=.c (.ptr (J.aj+1+1+1) 0)/\r8 tm 16=.c v/\r8 tm 17=jN m/\r8 tm 18=jN k
  /\J'.h J.aj=some ⟨[.bool wn,.str ws,.str wd],none⟩/\J'.h (J.aj+1)=some ⟨dh m (λi=>if i<k then ahI W q i else 0),none⟩/\J'.h (J.aj+1+1)=some ⟨(rK (aF k q)),none⟩/\J'.h (J.aj+1+1+1)=some ⟨(rK (uG (aF k q-W))),none⟩
  /\Fr J J'/\J.aj+1+1+1+1<=J'.aj) m ?_ ?_
 .refine⟨0,jb,jb,?_⟩
  have e0:uG (0-W)=0:=by grind[uG]
  refine WP ?_
  refine⟨?_,rfl,?_,fr,jb⟩
  .rw[zK]
  .show _=some (Bk.mk (rK (uG (0-W))) none)
   rw[e0]
 .rintro x tm J' ⟨k,rfl,hk,t2,t5,t6,t7,t16,t17,qV,q2,q5,q6,q7,hf,hnx⟩
  have hle:=hf.le
  simp(disch:=try exact jz)only[go_sem,t17,qV,aC]
  refine aH (λhlt=>?_) (λhlt=>?_)
  .obtain⟨b5,o5,c5,rfl,-,bD⟩:=aZ.at3 hv hlt
   have bD:=hf.ld hW bD
   have hqk:=hq k hlt
   have hzk:=hqz k hlt
   have hzs:Zk D k (aF k q):=Zk.Bf λi hi=>hqz i jb
   have z1:Sz (q k):=hzk.sz hD jb
   have z2:Sz (aF k q):=hzs.sz hD jb
   have z3':=(hzs.add hzk)
   have z4:Sz (aF k q+q k):=z3'.sz hD jb
   have z5:Sz W:=hWz.sz hD jb
   have z6:Sz (aF k q+q k-W):=(z3'.sub hWz).sz hD jb
   have z7:Sz (uG (aF k q+q k-W)):=(z3'.sub hWz).pq.sz hD jb
   have z8:Sz (uG (aF k q-W)):=(hzs.sub hWz).pq.sz hD jb
   have z9:=Sz.zero
   have z10:=Sz.zero.two
   have e1:uG (q k)=q k:=LP hqk
   have e2:uG W=W:=LP h0
   have lM:=Fr.refl hf.wf
   simp(disch:=try exact jz)only[go_sem,W4,qV,bD,ay q2,ay q6,ay q7,q5,q6,q7,Rn,e1,e2,hw,hp]
   refine⟨m-(k+1),jb,k+1,rfl,jb,rfl,q2,?_,rfl,rfl,fr,jb⟩
   exact br (λl=>some (Bk.mk l none)) (uO m k (ahI W q))
  .have:k=m:=jb
   subst this
   simp(disch:=try exact jz)only[go_sem,t5]
   exact⟨⟨_,rfl,by rw[q5,Ar],jb,jb⟩,hf⟩
def adg{J:St}(hW:WF J){p p':Nat->Prop}{w1 w2 w3 L lv:B}{fM:List Ins.Lg}{n:Nat}{kk:Nat->Nat}{f:Nat->Nat->Rat}(hL:yh p J.h L fM)(hR:dP p' J.h lv n kk f)(h1:w1.kn=true)(h2:w2.kn=true)(h3:w3.kn=true)(hl:fM.length<=1000)(JX:∀j,j<fM.length->∃e c:Nat,ix fM j=⟨.ofNat e,.ofNat c⟩/\e<n/\c<kk e):
  aB EN 88 [.agg [w1,w2,w3,L],.c lv] J λr J'=>aau J J' r fM.length (λj=>f (BP (ix fM j)).1 (BP (ix fM j)).2)/\Fr J J':=by
 refine aI (xI.o _ _) xI.h ?_
 unfold xI
 dsimp only
 have hlen:=aZ.len hL
 have hLk:=aZ.kn hL
 have hFr:=Fr.refl hW
 simp(disch:=try exact jz)only[go_sem,hlen,hLk]
 refine aG (λx tm J'=>∃j,x=fM.length-j/\j<=fM.length/\r8 tm 1=.c lv/\r8 tm 5=.c (.sl (J.aj+1) 0 fM.length (.ex fM.length))/\r8 tm 13=.c L/\r8 tm 14=jN fM.length/\r8 tm 15=jN j
  /\J'.h (J.aj+1)=some ⟨dh fM.length (λi=>if i<j then f (BP (ix fM i)).1 (BP (ix fM i)).2 else 0),none⟩/\Fr J J'/\J.aj+1+1<=J'.aj) fM.length ?_ ?_
 .refine⟨0,jb,jb,?_⟩
  refine WP ?_
  exact⟨by rw[zK],fr,jb⟩
 .rintro x tm J' ⟨j,rfl,hj,t1,t5,t13,t14,t15,q5,hf,hnx⟩
  have hle:=hf.le
  simp(disch:=try exact jz)only[go_sem,t14,t15,aC]
  refine aH (λhlt=>?_) (λhlt=>?_)
  .obtain⟨b5,o5,c5,rfl,-,bD⟩:=aZ.pos hL jb
   have bD:=hf.ld hW (bD j hlt)
   obtain⟨e,c,He,he,hc⟩:=JX j hlt
   obtain⟨b6,o6,c6,T,rfl,-,bV,hT⟩:=hR.at he
   obtain⟨b7,o7,c7,rfl,-,dB⟩:=aZ.at3 hT hc
   have bV:=hf.ld hW bV
   have dB:=hf.ld hW dB
   have hb6:=hf.wf.cZ bV
   have hb7:=hf.wf.cZ dB
   have lM:=Fr.refl hf.wf
   unfold Oh at bD
   have hst:=uO fM.length j λi=>f (BP (ix fM i)).1 (BP (ix fM i)).2
   rw[show f (BP (ix fM j)).1 (BP (ix fM j)).2=f e c by rw[He];rfl]at hst
   rw[He]at bD
   simp(disch:=try exact jz)only[go_sem,W4,bD,bV,dB,q5,hst]
   exact⟨fM.length-(j+1),jb,j+1,rfl,jb,rfl,rfl,fr,jb⟩
  .have:j=fM.length:=jb
   subst this
   simp(disch:=try exact jz)only[go_sem,t5]
   exact⟨⟨_,rfl,by rw[q5,Ar],jb,jb⟩,hf⟩
def as3{J:St}(hW:WF J){p:Nat->Prop}{v:B}{n:Nat}{f:Nat->Rat}(hv:kS p J.h v n f)(hn:n<=1000)(hz:∀i,i<n->Sz (f i))(hs:∀i,i<=n->Sz (aF i f)):
  aB EN 187 [.c v] J λr J'=>r=.agg (rK (aF n f))/\Fr J J':=by
 refine aI (yS.o _ _) yS.h ?_
 unfold yS
 dsimp only
 have hlen:=aZ.len hv
 have hFr:=Fr.refl hW
 simp(disch:=try exact jz)only[go_sem,hlen]
 refine aG (λx tm J'=>∃j,x=n-j/\j<=n/\r8 tm 2=.c (.ptr J.aj 0)/\r8 tm 3=.c (.ptr (J.aj+1) 0)/\r8 tm 7=.c v/\r8 tm 8=jN n/\r8 tm 9=jN j
  /\J'.h J.aj=some ⟨(rK 0),none⟩/\J'.h (J.aj+1)=some ⟨(rK (aF j f)),none⟩/\Fr J J'/\J.aj+1+1<=J'.aj) n ?_ ?_
 .refine⟨0,jb,jb,?_⟩
  refine WP ?_
  exact⟨rfl,fr,jb⟩
 .rintro x tm J' ⟨j,rfl,hj,t2,t3,t7,t8,t9,q2,q3,hf,hnx⟩
  have hle:=hf.le
  simp(disch:=try exact jz)only[go_sem,t8,t9,aC]
  refine aH (λhlt=>?_) (λhlt=>?_)
  .obtain⟨b5,o5,c5,rfl,-,bD⟩:=aZ.at3 hv hlt
   have bD:=hf.ld hW bD
   have z1:=hz j hlt
   have z2:=hs j jb
   have lM:=Fr.refl hf.wf
   simp(disch:=try exact jz)only[go_sem,W4,bD,ay q3,q3]
   exact⟨n-(j+1),jb,j+1,rfl,jb,rfl,q2,rfl,fr,jb⟩
  .have:j=n:=jb
   subst this
   simp(disch:=try exact jz)only[go_sem,t2,t3,ay q3,aJ q2]
   exact fr
structure Fam(p:Nat->Prop)(h:Tr Bk)(nn bb:Nat->Nat)(GG:Nat->Nat->List B)(ee tt:Nat->Nat)(QQ:Nat->(Nat->Prop)->Tr Bk->Nat->Prop)(lo hi:Nat):Prop where
 g:∀k,zW (nn k) h (bb k)=gF (nn k) (GG k) (ee k) (tt k)
 L:∀k,LG (GG k) (ee k)
 l1:∀k,lo<=bb k
 l2:∀k,nn k=0\/bb k<hi
 ne:∀k k',k≠k'->nn k=0\/nn k'=0\/bb k≠bb k'
 np:∀k,nn k=0\/¬p (bb k)
 q:∀k j,j<nn k->QQ k p h j
 pp:∀x,p x->lo<=x/\x<hi
section
variable {p p' : Nat→Prop} {h h' h1:Tr Bk} {nn bb:Nat→Nat} {GG GG' : Nat→Nat→List B} {ee tt:Nat→Nat} {QQ QQ' : Nat→(Nat→Prop)→Tr Bk→Nat→Prop} {lo hi:Nat}
theorem Fam.nil(hn:∀k,nn k=0)(hL:∀k,LG (GG k) (ee k)):Fam (λ_=>False) h nn (λ_=>lo) GG ee tt QQ lo hi:=
 ⟨λk=>by rw[hn k];rfl,hL,λ_=>jp,λk=>.inl (hn k),λk _ _=>.inl (hn k),λk=>.inl (hn k),λk j hj=>by grind,λ_ h=>h.elim⟩
def Fam.keep(ho:Fam p h nn bb GG ee tt QQ lo hi)(hQ:∀k j,QK (QQ k) j)(hh:∀b,lo<=b->b<hi->h' b=h b){hi':Nat}(h2:hi<=hi'):Fam p h' nn bb GG ee tt QQ lo hi':=by obtain⟨g,L,l1,l2,ne,np,q,pp⟩:=ho;refine⟨λk=>?_,L,l1,λk=>by grind,ne,np,λk j hj=>hQ k j _ _ _ _ (q k j hj) (λb hb=>hh b (pp b hb).1 (pp b hb).2) λ_ hb=>hb,λx hx=>by grind⟩;grind[Go.Proofs.Xe.yB]
def Fam.push(ho:Fam p h nn bb GG ee tt QQ lo hi)(k:Nat){hi1 nx n':Nat}(hp:∀x,p x->p' x)(hp2:∀x,p' x->p x\/hi<=x/\x<hi1)(hQ:∀k j,QK (QQ' k) j)(hQQ:∀k j,j<nn k->∀p h,QQ k p h j->QQ' k p h j)(hG:∀k j,j<nn k->GG' k j=GG k j)(hL:∀k,LG (GG' k) (ee k))
  (hx:QQ' k p' h1 (nn k)) (hh:∀x,lo<=x->x<hi->h1 x=h x) (h2:hi<=hi1) (h3:hi1<=nx) (h4:nx<n') (h5:lo<=hi){x:List B}(hb:h' nx=some ⟨bf (nn k) (GG k)++x,some (ee k,tt k)⟩) (hgn:x=GG' k (nn k)) (hk:∀c,lo<=c->c<hi1->nn k=0\/c≠bb k->h' c=h1 c):
  Fam p' h' (aO nn k (nn k+1)) (aO bb k nx) GG' ee tt QQ' lo n':=by
 obtain⟨g,L,l1,l2,ne,np,q,pp⟩:=ho
 have hp':∀b,p' b->lo<=b/\b<hi1/\(nn k=0\/b≠bb k):=λb hb=>by grind
 have hnp:∀k',nn k'=0\/¬p' (bb k'):=λk'=>by grind
 refine⟨λk'=>?_,hL,λk'=>?_,λk'=>?_,λa b hab=>?_,λk'=>?_,λk' j hj=>?_,λx hx=>by grind⟩
 .by_cases e:k'=k
  .subst e
   rw[aN,aN]
   show h' nx=some _
   grind[Go.Proofs.Xe.jA,Go.Proofs.Xe.bC,Go.Proofs.Xe.je]
  .rw[aS _ _ _ _ e,aS _ _ _ _ e]
   have h6:zW (nn k') h' (bb k')=zW (nn k') h (bb k'):=yB (by grind)
   rw[h6,g k']
   generalize hm:nn k'=m
   cases m with
   |zero=>rfl
   |succ m=>show some _=some _;grind[bC]
 .grind[aN,aS]
 .grind[aN,aS]
 .grind[aS,aN]
 .grind[aN,aS]
 .by_cases e:k'=k/\j=nn k
  .obtain⟨rfl,rfl⟩:=e
   exact hQ _ _ _ _ _ _ hx (λb hb=>hk b (hp' b hb).1 (hp' b hb).2.1 (hp' b hb).2.2) λ_ h=>h
  .have hj':j<nn k':=by
    by_cases e2:k'=k
    .subst e2;rw[aN]at hj;have:¬j=nn k':=λe3=>e ⟨rfl,e3⟩;omega
    .rwa[aS _ _ _ _ e2]at hj
   exact hQ _ _ _ _ _ _ (hQQ k' j hj' _ _ (q k' j hj')) (λb hb=>by have:=hp' b (hp b hb);rw[hk b this.1 this.2.1 this.2.2,hh b (pp b hb).1 (pp b hb).2]) hp
def Fam.hlp(ho:Fam p h nn bb GG ee tt QQ lo hi)(k:Nat)(he:0<ee k)(hk:∀j,j<nn k->(GG k j).all B.kn=true){q:Nat->Prop}(hq:∀b,lo<=b->b<hi->q b):aZ q h (ee k) (aX (nn k) (bb k)) (nn k) (GG k):=by
 have g:=ho.g k;have hl:=ho.l2 k;have hL:=ho.L k;have hlo:=ho.l1 k;generalize nn k=n at*;cases n with
 |zero=>exact .inl ⟨rfl,rfl⟩
 |succ n=>exact bK _ g (DI _ _ jb) (hq _ hlo jb) hL he hk
def Fam.keep'(ho:Fam p h nn bb GG ee tt QQ lo hi)(hQ:∀k j,QK (QQ k) j)(hp:∀b,p b->h' b=h b)(hh:∀k,nn k=0\/h' (bb k)=h (bb k)):Fam p h' nn bb GG ee tt QQ lo hi:=by obtain⟨g,L,l1,l2,ne,np,q,pp⟩:=ho;exact⟨λk=>(yB (hh k)).trans (g k),L,l1,l2,ne,np,λk j hj=>hQ k j _ _ _ _ (q k j hj) hp λ_ hb=>hb,pp⟩
structure wY(p:Nat->Prop)(h:Tr Bk)(nn bb:Nat->Nat)(GG:Nat->Nat->List B)(ee tt:Nat->Nat)(QQ:Nat->(Nat->Prop)->Tr Bk->Nat->Prop)(m:Nat)(kk:Nat->Nat)(C:Nat->Nat->List B)(bs:Nat->Nat)(lo hi:Nat):Prop where
 f:Fam p h nn bb GG ee tt QQ lo hi
 r:mV h m kk C bs lo hi
 w:∀j,j<m->¬p (bs j)
 n:∀j k,j<m->nn k=0\/bb k≠bs j
variable {m:Nat} {kk:Nat→Nat} {C:Nat→Nat→List B} {bs:Nat→Nat}
def wY.keep(ho:wY p h nn bb GG ee tt QQ m kk C bs lo hi)(hQ:∀k j,QK (QQ k) j)(hh:∀b,lo<=b->b<hi->h' b=h b){hi':Nat}(h2:hi<=hi'):wY p h' nn bb GG ee tt QQ m kk C bs lo hi':=
 ⟨ho.f.keep hQ hh h2,ho.r.mono hh jp h2,ho.w,ho.n⟩
def wY.push(ho:wY p h nn bb GG ee tt QQ m kk C bs lo hi)(k:Nat){hi1 nx n':Nat}(hp:∀x,p x->p' x)(hp2:∀x,p' x->p x\/hi<=x/\x<hi1)(hQ:∀k j,QK (QQ' k) j)(hQQ:∀k j,j<nn k->∀p h,QQ k p h j->QQ' k p h j)(hG:∀k j,j<nn k->GG' k j=GG k j)(hL:∀k,LG (GG' k) (ee k))
  (hx:QQ' k p' h1 (nn k)) (hh:∀x,lo<=x->x<hi->h1 x=h x) (h2:hi<=hi1) (h3:hi1<=nx) (h4:nx<n') (h5:lo<=hi){x:List B}(hb:h' nx=some ⟨bf (nn k) (GG k)++x,some (ee k,tt k)⟩) (hgn:x=GG' k (nn k)) (hk:∀c,lo<=c->c<hi1->nn k=0\/c≠bb k->h' c=h1 c):
  wY p' h' (aO nn k (nn k+1)) (aO bb k nx) GG' ee tt QQ' m kk C bs lo n':=by
 refine⟨ho.f.push k hp hp2 hQ hQQ hG hL hx hh h2 h3 h4 h5 hb hgn hk,ho.r.mono' (λj hj=>?_) jp jb,λj hj hb=>?_,λj i hj=>?_⟩
 .obtain⟨-,k2,k3⟩:=ho.r.r j hj
  have:=ho.n j k hj
  grind
 .obtain⟨-,k2,k3⟩:=ho.r.r j hj
  rcases hp2 _ hb with hb|hb
  .exact ho.w j hj hb
  .omega
 .obtain⟨-,k2,k3⟩:=ho.r.r j hj
  by_cases e:i=k
  .grind[aN]
  .rw[aS nn _ _ _ e,aS bb _ _ _ e];exact ho.n j i hj
def wY.pushRow(ho:wY p h nn bb GG ee tt QQ m kk C bs lo hi)(k:Nat){hi1 nx n' nb:Nat}(hQ:∀k j,QK (QQ' k) j)(hQQ:∀k j,j<nn k->∀p h,QQ k p h j->QQ' k p h j)(hG:∀k j,j<nn k->GG' k j=GG k j)(hL:∀k,LG (GG' k) (ee k))
  (hx:QQ' k p h1 (nn k)) (hh:∀x,lo<=x->x<hi->h1 x=h x) (h2:hi<=hi1) (h3:hi1<=nx) (h4:nx<n') (h5:lo<=hi){x:List B}(hb:h' nx=some ⟨bf (nn k) (GG k)++x,some (ee k,tt k)⟩) (hgn:x=GG' k (nn k)) (hk:∀c,lo<=c->c<hi1->nn k=0\/c≠bb k->h' c=h1 c)
  (h6:hi<=nb) (h7:nb<hi1) (hr:h' nb=some ⟨bf (kk m) (C m),none⟩):
  wY p h' (aO nn k (nn k+1)) (aO bb k nx) GG' ee tt QQ' (m+1) kk C (aO bs m nb) lo n':=by
 have hP:=ho.push k (p':=p) (λ_ h=>h) (λ_ h=>.inl h) hQ hQQ hG hL hx hh h2 h3 h4 h5 hb hgn hk
 refine⟨hP.f,ho.r.push hr rfl h6 jb jb λb h8 h9 ⟨i,hi,e⟩=>?_,λj hj=>?_,λj i hj=>?_⟩
 .have:=ho.n i k hi
  grind
 .by_cases e:j=m
  .subst e;rw[aN];exact λh=>by have:=ho.f.pp _ h;omega
  .rw[aS _ _ _ _ e];exact ho.w j jb
 .by_cases e:j=m
  .subst e
   rw[aN bs]
   by_cases e2:i=k
   .grind[aN]
   .rw[aS nn _ _ _ e2,aS bb _ _ _ e2]
    have:=ho.f.l2 i;omega
  .rw[aS bs _ _ _ e];exact hP.n j i jb
def wY.write(ho:wY p h nn bb GG ee tt QQ m kk C bs lo hi)(hQ:∀k j,QK (QQ k) j){j c:Nat}{x l:List B}(hj:j<m)(hl:l=bf (kk j) (je (C j) c x)):wY p (hset h (bs j) ⟨l,none⟩) nn bb GG ee tt QQ m kk (uI C j c x) bs lo hi:=by
 refine⟨ho.f.keep' hQ (λb hb=>au _ _ _ _ λe=>ho.w j hj (e▸hb)) (λk=>?_),ho.r.set hj hl,ho.w,ho.n⟩;rcases ho.n j k hj with e|e
 .omega
 grind[au]
theorem wY.grow(ho:wY p h nn bb GG ee tt QQ m kk C bs lo hi)(hQ:∀k j,QK (QQ k) j)(hh:∀b,lo<=b->b<hi->h' b=h b){hi':Nat}(h2:hi<=hi')(hp:∀x,p x->p' x)(hp2:∀x,p' x->p x\/hi<=x/\x<hi')(h3:lo<=hi):wY p' h' nn bb GG ee tt QQ m kk C bs lo hi':=by
 obtain⟨⟨g,L,l1,l2,ne,np,q,pp⟩,r,w,n⟩:=ho;refine⟨⟨λk=>?_,L,l1,λk=>by grind,ne,λk=>?_,λk j hj=>hQ k j _ _ _ _ (q k j hj) (λb hb=>hh b (pp b hb).1 (pp b hb).2) hp,λx hx=>?_⟩,r.mono hh jp h2,λj hj hb=>?_,n⟩
 .grind[Go.Proofs.Xe.yB]
 .grind
 .grind
 .obtain⟨-,k2,k3⟩:=r.r j hj;grind
def wY.same(ho:wY p h nn bb GG ee tt QQ m kk C bs lo hi)(k:Nat){hi1:Nat}(hh:∀x,lo<=x->x<hi->h1 x=h x)(h2:hi<=hi1)(hk:∀c,lo<=c->c<hi1->nn k=0\/c≠bb k->h' c=h1 c):∀x,p x->h' x=h x:=λx hx=>by
 have h3:=ho.f.pp x hx;rw[hk x h3.1 jb ?_,hh x h3.1 h3.2];rcases ho.f.np k with e|e
 .omega
 grind
end
def azW(p:Nat->Prop)(h:Tr Bk)(lv:B)(el:List yg):Prop:=∃R P:Nat->B,aZ p h 6 lv el.length (λi=>jU (ix el i).c.length (R i) (P i) (og (ix el i) (ix el i).c.length))/\∀i,i<el.length->Aq p h (R i) (P i) (bZ (ix el i))
def al0(p:Nat->Prop)(h:Tr Bk)(bv:B)(el:List yg)(L:List fZ):Prop:=∃T:Nat->B,aZ p h 1 bv el.length (λi=>[T i])/\∀i,i<el.length->aZ p h 1 (T i) (ix el i).c.length λc=>[.bool (L.contains (i,c))]
structure Hf(p:Nat->Prop)(h:Tr Bk)(sb:Nat)(g:dV):Prop where
 s:∃ev dv lv bv,h sb=some ⟨[ev,dv,lv,bv],none⟩/\jY p h ev dv g/\azW p h lv g.e/\al0 p h bv g.e (bH g).fM
 b:p sb
def Hf.keep{p q:Nat->Prop}{h h':Tr Bk}{sb:Nat}{g:dV}(hs:Hf p h sb g)(hk:∀b,p b->h' b=h b)(hp:∀b,p b->q b):Hf q h' sb g:=by obtain⟨⟨ev,dv,lv,bv,h1,h2,⟨R,P,h3,h4⟩,T,h5,h6⟩,hb⟩:=hs;exact⟨⟨ev,dv,lv,bv,by rw[hk _ hb];exact h1,h2.keep hk hp,⟨R,P,h3.keep hk hp,λi hi=>(h4 i hi).keep hk hp⟩,T,h5.keep hk hp,λi hi=>(h6 i hi).keep hk hp⟩,hp _ hb⟩
theorem Hf.fr{J J':St}(hf:Fr J J'){sb:Nat}{g:dV}(hs:Hf (Lt J.aj) J.h sb g):Hf (Lt J'.aj) J'.h sb g:=hs.keep (λb hb=>hf.old b hb) λb hb=>aE hb hf.le
def Dk(i:Nat):Nat->Nat:=λk=>if k=2\/k=3 then i else 0
def kE(el:List yg)(i:Nat):Nat:=(ix el i).c.length
def bG(el:List yg)(R P:Nat->B)(bs:Nat->Nat):Nat->Nat->List B
 |2=>λi=>jU (ix el i).c.length (R i) (P i) (og (ix el i) (ix el i).c.length)
 |3=>λi=>[zY (kE el) bs i]
 |_=>λ_=>[]
def bE:Nat->Nat
 |2=>6
 |3=>1
 |_=>0
def bT:Nat->Nat
 |2=>153
 |3=>32
 |_=>0
def bQ(el:List yg)(R P:Nat->B):Nat->(Nat->Prop)->Tr Bk->Nat->Prop
 |2=>λp h i=>Aq p h (R i) (P i) (bZ (ix el i))
 |_=>NoQ
def al1(el:List yg)(R P:Nat->B)(bs:Nat->Nat)(k:Nat):LG (bG el R P bs k) (bE k):=by intro j;unfold bG bE;split<;>rfl
def ahK(el:List yg)(R P:Nat->B)(k j:Nat):QK (bQ el R P k) j:=by
 unfold bQ;split
 .exact λ_ _ _ _ hp hk hq=>hp.keep hk hq
 .exact Nb j
def Ro(L:List fZ)(i c:Nat):List B:=[.bool (L.contains (i,c))]
abbrev adh(el:List yg)(p:Nat->Prop)(h:Tr Bk)(nn bb:Nat->Nat)(R P:Nat->B)(bs:Nat->Nat)(m:Nat)(L:List fZ)(lo hi:Nat):Prop:=wY p h nn bb (bG el R P bs) bE bT (bQ el R P) m (kE el) (Ro L) bs lo hi
def ahL(i:Nat):aO (aO (Dk i) 2 (Dk i 2+1)) 3 (aO (Dk i) 2 (Dk i 2+1) 3+1)=Dk (i+1):=by grind[aO,Dk]
theorem aav{kk bs:Nat->Nat}{m nb j:Nat}(h:j≠m):zY kk (aO bs m nb) j=zY kk bs j:=by grind[zY,aS]
def afn(i k:Nat):Dk i k<=i:=by grind[Dk]
def awr{el:List yg}{R P:Nat->B}{i j:Nat}(h:j<i)(rv pv:B)(k:Nat)(p:Nat->Prop)(H:Tr Bk)(hq:bQ el R P k p H j):bQ el (aO R i rv) (aO P i pv) k p H j:=by
 unfold bQ at hq⊢;split
 .grind[aS]
 .trivial
def awt{el:List yg}{R P:Nat->B}{bs:Nat->Nat}{i j:Nat}(h:j<i)(rv pv:B)(k:Nat):bG el (aO R i rv) (aO P i pv) bs k j=bG el R P bs k j:=by unfold bG;grind[aS]
def awu{el:List yg}{R P:Nat->B}{bs:Nat->Nat}{m nb j:Nat}(k:Nat)(h:k=3->j<m):bG el R P (aO bs m nb) k j=bG el R P bs k j:=by unfold bG;grind[aav]
def uP{n:Nat}(h:0<n)(b:Nat):aX n b=.sl b 0 n .opn:=by
 cases n with
 |zero=>omega
 |succ n=>rfl
def DR(dl:List oM)(j:Nat):List fZ:=(dl.take j).flatMap λd=>d.l.map BP
def adi{dl:List oM}{j:Nat}(h:j<dl.length):DR dl (j+1)=DR dl j++(ix dl j).l.map BP:=by grind[DR,bJ]
def ahM(g:dV):DR g.d g.d.length=(bH g).fM:=by grind[DR,GL.fM,bH,List.flatMap_map]
def ahN(L:List fZ)(e c:Nat):uI (Ro L) e c [.bool true]=Ro (L++[(e,c)]):=by grind[uI,Ro]
structure aaw(A:Nat)(g:dV):Prop where
 n:g.e.length<=1000
 d:g.d.length<=1000
 e:∀i,i<g.e.length->Rk A (ix g.e i)
 l:∀d,d<g.d.length->(ix g.d d).l.length<=1000
 lg:∀d,d<g.d.length->∀k,k<(ix g.d d).l.length->∃e c:Nat,ix (ix g.d d).l k=⟨.ofNat e,.ofNat c⟩/\e<g.e.length/\c<(ix g.e e).c.length
def aax(ev dv:B)(n:Nat)(bb:Nat->Nat):List B:=[ev,dv,aX n (bb 2),aX n (bb 3)]
def aqT{J:St}(hW:WF J){p:Nat->Prop}{ev dv:B}(g:dV)(hg:jY p J.h ev dv g){A:Nat}(hA:DW A)(hO:aaw A g):
  aB EN 37 [.agg [ev,dv]] J λr J'=>(∃sb,r=.c (.ptr sb 0)/\Hf (Lt J'.aj) J'.h sb g)/\Fr J J':=by
 refine aI (vI.o _ _) vI.h ?_
 unfold vI
 dsimp only
 have hek:=hg.e.kn
 have hdk:=hg.d.kn
 have hlenE:=hg.e.len
 have hlenD:=hg.d.len
 have hne:=hO.n
 have hnd:=hO.d
 have hFr:=Fr.refl hW
 simp(disch:=try exact jz)only[go_sem,hek,hdk,hlenE]
 refine bI.mono (Q:=λex tm J'=>ex=.exit 0/\∃p bb R P bs,r8 tm 1=.c (.ptr J.aj 0)/\r8 tm 3=.c (.ptr (J.aj+1) 0)/\J'.h J.aj=some ⟨[ev,dv],none⟩/\J'.h (J.aj+1)=some ⟨aax ev dv g.e.length bb,none⟩
   /\adh g.e p J'.h (Dk g.e.length) bb R P bs g.e.length [] (J.aj+1+1) J'.aj/\Fr J J'/\J.aj+1+1<=J'.aj)
  (aG (λq tm J'=>∃i p bb R P bs,q=g.e.length-i/\i<=g.e.length/\r8 tm 1=.c (.ptr J.aj 0)/\r8 tm 3=.c (.ptr (J.aj+1) 0)/\r8 tm 14=.c ev/\r8 tm 15=jN g.e.length/\r8 tm 16=jN i/\J'.h J.aj=some ⟨[ev,dv],none⟩/\J'.h (J.aj+1)=some ⟨aax ev dv i bb,none⟩
   /\adh g.e p J'.h (Dk i) bb R P bs i [] (J.aj+1+1) J'.aj/\Fr J J'/\J.aj+1+1<=J'.aj) g.e.length ?_ ?_) ?_
 .refine⟨0,λ_=>False,λ_=>J.aj+1+1,λ_=>.aQ,λ_=>.aQ,λ_=>0,jb,jb,?_⟩
  refine WP ?_
  refine⟨rfl,⟨Fam.nil (λk=>?_) (al1 _ _ _ _),mV.nil _ _ _ _ _ _,λj hj=>jb,λj k hj=>jb⟩,fr,jb⟩
  unfold Dk;split<;>rfl
 .rintro q tm J' ⟨i,p,bb,R,P,bs,rfl,hi,t1,t3,t14,t15,t16,q0,q1,hS,hf,hnx⟩
  have hle:=hf.le
  simp(disch:=try exact jz)only[go_sem,t15,t16,aC]
  refine aH (λhlt=>?_) (λhlt=>?_)
  .obtain⟨b5,o5,c5,rfl,C1,A1,bD,-,hC,hA1⟩:=hg.e.at hlt
   have bD:=hf.ld hW bD
   have Om:=aZ.kn hC
   have hAk:=hA1.kn
   have hlo2:=hS.f.l1 2
   have hlo3:=hS.f.l1 3
   have hhi2:i=0\/bb 2<J'.aj:=hS.f.l2 2
   have hhi3:i=0\/bb 3<J'.aj:=hS.f.l2 3
   have azX:i=0\/i=0\/bb 2≠bb 3:=hS.f.ne 2 3 jj
   unfold aax at q1
   refine JW (run_seq (Gf (Rl (λtm σ5=>∃p bb R P,r8 tm 1=.c (.ptr J.aj 0)/\r8 tm 3=.c (.ptr (J.aj+1) 0)/\r8 tm 5=.c (.ptr J'.aj 0)/\r8 tm 14=.c (.sl b5 o5 g.e.length c5)/\r8 tm 15=jN g.e.length/\r8 tm 16=jN i
     /\σ5.h J.aj=some ⟨[.sl b5 o5 g.e.length c5,dv],none⟩/\σ5.h (J.aj+1)=some ⟨[.sl b5 o5 g.e.length c5,dv,aX (i+1) (bb 2),aX i (bb 3)],none⟩/\σ5.h J'.aj=some ⟨[.bool (ix g.e i).m.n,.str (ix g.e i).m.s,.str (ix g.e i).m.d,C1,A1],none⟩/\adh g.e p σ5.h (aO (Dk i) 2 (Dk i 2+1)) bb R P bs i [] (J.aj+1+1) σ5.aj/\Fr J σ5/\J'.aj<σ5.aj) ?_ ?_)))
   .have lM:=Fr.refl hf.wf
    simp(disch:=try exact jz)only[go_sem,t3,t14,t16,bD,Om,hAk,ay q1]
    refine aB.st (Fr J') (fr) λeX=>?_
    have hf5:=hf.trans eX
    refine(azV eX.wf (aZ.fr hW hf5 hC) (hA1.fr hW hf5) rfl rfl rfl hA (hO.e i hlt)).mono ?_
    rintro _ σ6 ⟨⟨rv,pv,rfl,hL⟩,gX⟩
    have jO:=eX.trans gX
    have ade:=hf.trans jO
    have AZ:J'.aj+1<=σ6.aj:=gX.le
    have q06:=jO.get hf.wf q0
    have q16:=jO.get hf.wf q1
    have q56:σ6.h J'.aj=some ⟨[.bool (ix g.e i).m.n,.str (ix g.e i).m.s,.str (ix g.e i).m.d,C1,A1],none⟩:=gX.get eX.wf (aA _ _ _)
    have hrk:=hL.rk.kn
    have hpk:=hL.pkn
    have hS6:=hS.keep (ahK _ _ _) (λb _ hb=>jO.old b hb) jp
    have Yq:zW i σ6.h (bb 2)=gF i (bG g.e R P bs 2) 6 153:=hS6.f.g 2
    have hLG:LG (bG g.e R P bs 2) 6:=al1 _ _ _ _ 2
    unfold jU
    simp(disch:=try exact jz)only[go_sem,W4,hrk,hpk,ay q16,q16,Yq]
    refine⟨λb=>p b\/J'.aj<=b/\b<σ6.aj,aO bb 2 (σ6.aj+1),aO R i rv,aO P i pv,?_⟩
    and_intros<;>try(first|rfl|omega|exact q06|exact q56|exact fr)
    refine hS.push 2 (hi1:=σ6.aj) (h1:=σ6.h) (λx h=>.inl h) (λx h=>h) (ahK _ _ _) (λk j hj p h hq=>awr (aE hj (afn i k)) rv pv k p h hq) (λk j hj=>awt (aE hj (afn i k)) rv pv k) (al1 _ _ _ _) ?_ (λb _ hb=>jO.old b hb) jb jb jb hnx
     (x:=jU (ix g.e i).c.length rv pv (og (ix g.e i) (ix g.e i).c.length)) ?_ ?_ λc h1 h2 h3=>?_
    .show Aq _ _ (aO R i rv i) (aO P i pv i) _
     rw[aN,aN]
     exact hL.keep (λ_ _=>rfl) λb hb=>.inr ⟨ar (dp _) hb.1,hb.2⟩
    .rw[au _ _ _ _ jb,aA];rfl
    .show _=jU _ (aO R i rv i) (aO P i pv i) _
     rw[aN,aN];rfl
    .rw[au _ _ _ _ jb,au _ _ _ _ jb,iJ i _ _ _ h3,au _ _ _ _ jb]
   .rintro tm5 σ5 ⟨p5,nU,R5,P5,t1,t3,t5,t14,t15,t16,q0,q1,q5,hS5,hf5,hn5⟩
    have vS:=hf5.le
    have hlo2:=hS5.f.l1 2
    have hlo3:=hS5.f.l1 3
    have hhi2:i+1=0\/nU 2<σ5.aj:=hS5.f.l2 2
    have hhi3:i=0\/nU 3<σ5.aj:=hS5.f.l2 3
    have azX:i+1=0\/i=0\/nU 2≠nU 3:=hS5.f.ne 2 3 jj
    have hg5:zW i σ5.h (nU 3)=gF i (bG g.e R5 P5 bs 3) 1 32:=hS5.f.g 3
    have hLG:LG (bG g.e R5 P5 bs 3) 1:=al1 _ _ _ _ 3
    have hnc:=(hO.e i hlt).nc
    have ZL:=aZ.len hC
    have JY:=Fr.refl hf5.wf
    simp(disch:=try exact jz)only[go_sem,W4,ZL,Om,ay q1,ay q5,q1,hg5]
    refine⟨g.e.length-(i+1),jb,i+1,p5,aO nU 3 (σ5.aj+1+1),R5,P5,aO bs i σ5.aj,rfl,jb,rfl,q0,rfl,?_,fr,jb⟩
    rw[<-ahL]
    refine hS5.pushRow 3 (hi1:=σ5.aj+1) (nb:=σ5.aj) (h1:=hset σ5.h σ5.aj ⟨bf (kE g.e i) (Ro [] i),none⟩) (ahK _ _ _) (λk j hj p h hq=>hq) (λk j hj=>awu (m:=i) k λe=>by subst e;exact hj) (al1 _ _ _ _) trivial (λb _ hb=>au _ _ _ _ jb) jb jb jb jb (x:=[zY (kE g.e) (aO bs i σ5.aj) i]) ?_ rfl (λc h1 h2 h3=>?_) jb jb ?_
    .rw[au _ _ _ _ jb,aA]
     unfold zY
     rw[aN];rfl
    .rw[au _ _ _ _ jb,au _ _ _ _ jb,iJ i _ _ _ h3,au _ _ _ _ jb];rfl
    .rw[au _ _ _ _ jb,au _ _ _ _ jb,iJ _ _ _ _ jb,au _ _ _ _ jb,aA];rfl
  .have:i=g.e.length:=jb
   subst this
   simp(disch:=try exact jz)only[go_sem,am]
   exact⟨p,bb,R,P,bs,t1,t3,q0,q1,hS,hf,hnx⟩
 rintro _ tm σ2 ⟨rfl,p2,bb,R,P,bs,t1,t3,q0,q1,hS,hf,hnx⟩
 have hle:=hf.le
 have aDR:∀k,bb k<σ2.aj\/Dk g.e.length k=0:=λk=>(hS.f.l2 k).symm
 simp(disch:=try exact jz)only[go_sem,t1,ay q0,hdk,hlenD]
 refine bI.mono (Q:=λex tm J'=>ex=.exit 2/\r8 tm 3=.c (.ptr (J.aj+1) 0)/\J'.h (J.aj+1)=some ⟨aax ev dv g.e.length bb,none⟩/\adh g.e p2 J'.h (Dk g.e.length) bb R P bs g.e.length (DR g.d g.d.length) (J.aj+1+1) J'.aj/\Fr J J'/\J.aj+1+1<=J'.aj)
  (aG (λq tm J'=>∃j,q=g.d.length-j/\j<=g.d.length/\r8 tm 3=.c (.ptr (J.aj+1) 0)/\r8 tm 46=.c dv/\r8 tm 47=jN g.d.length/\r8 tm 48=jN j
   /\J'.h (J.aj+1)=some ⟨aax ev dv g.e.length bb,none⟩/\adh g.e p2 J'.h (Dk g.e.length) bb R P bs g.e.length (DR g.d j) (J.aj+1+1) J'.aj/\Fr J J'/\J.aj+1+1<=J'.aj) g.d.length ?_ ?_) ?_
 .refine⟨0,jb,jb,?_⟩
  simp(disch:=try exact jz)only[go_sem,t3,am]
  exact⟨q1,hS,hf,hnx⟩
 .rintro q tm J' ⟨j,rfl,hj,t3,t46,t47,t48,q1,hS,hf,hnx⟩
  have hle:=hf.le
  simp(disch:=try exact jz)only[go_sem,t47,t48,aC]
  refine aH (λhlt=>?_) (λhlt=>?_)
  .obtain⟨b5,o5,c5,rfl,T1,bD,hT⟩:=hg.d.el hlt
   have bD:=hf.ld hW bD
   have Ll:=aZ.kn hT
   have hlT:=aZ.len hT
   have hll:=hO.l j hlt
   have lM:=Fr.refl hf.wf
   simp(disch:=try exact jz)only[go_sem,t46,t48,bD,Ll,hlT]
   refine bI.st (Fr J') (fr) λhF3=>?_
   have hf3:=hf.trans hF3
   have hS3:=hS.keep (ahK _ _ _) (λb _ hb=>hF3.old b hb) hF3.le
   have q13:=hF3.get hf.wf q1
   have hle3:=hF3.le
   refine bI.mono (Q:=λex tm σ4=>ex=.exit 4/\r8 tm 3=.c (.ptr (J.aj+1) 0)/\r8 tm 46=.c (.sl b5 o5 g.d.length c5)/\r8 tm 47=jN g.d.length/\r8 tm 48=jN j/\σ4.h (J.aj+1)=some ⟨aax ev (.sl b5 o5 g.d.length c5) g.e.length bb,none⟩/\adh g.e p2 σ4.h (Dk g.e.length) bb R P bs g.e.length (DR g.d (j+1)) (J.aj+1+1) σ4.aj/\Fr J σ4/\J.aj+1+1<=σ4.aj)
    (aG (λq tm σ4=>∃t,q=(ix g.d j).l.length-t/\t<=(ix g.d j).l.length/\r8 tm 3=.c (.ptr (J.aj+1) 0)/\r8 tm 46=.c (.sl b5 o5 g.d.length c5)/\r8 tm 47=jN g.d.length/\r8 tm 48=jN j/\r8 tm 53=.c T1/\r8 tm 54=jN (ix g.d j).l.length/\r8 tm 55=jN t
     /\σ4.h (J.aj+1)=some ⟨aax ev (.sl b5 o5 g.d.length c5) g.e.length bb,none⟩/\adh g.e p2 σ4.h (Dk g.e.length) bb R P bs g.e.length (DR g.d j++((ix g.d j).l.take t).map BP) (J.aj+1+1) σ4.aj/\Fr J σ4/\J.aj+1+1<=σ4.aj) (ix g.d j).l.length ?_ ?_) ?_
   .refine⟨0,jb,jb,?_⟩
    simp(disch:=try exact jz)only[go_sem,W4,am,cA,List.map_nil,dc]
    exact⟨q1,hS3,hf3,jb⟩
   .rintro q tm σ4 ⟨t,rfl,ht,t3,t46,t47,t48,t53,t54,t55,q14,hS4,hf4,hn4⟩
    have qM:=hf4.le
    simp(disch:=try exact jz)only[go_sem,t54,t55,aC]
    refine aH (λhlt4=>?_) (λhlt4=>?_)
    .obtain⟨b6,o6,c6,rfl,-,bV⟩:=aZ.pos hT jb
     have bV:=hf4.ld hW (bV t hlt4)
     obtain⟨e,c,He,he,hc⟩:=hO.lg j hlt t hlt4
     unfold Oh at bV
     rw[He]at bV
     have hrow:ld σ4.h (bb 3) (0+e*1) 1 false=some (.c (zY (kE g.e) bs e)):=by obtain⟨b7,o7,c7,e7,-,dB⟩:=aZ.pos (hS4.f.hlp 3 (q:=λ_=>True) jj (λ_ _=>rfl) λ_ _ _=>trivial) (show 0<Dk g.e.length 3 by show 0<g.e.length;omega);have e8:aX g.e.length (bb 3)=.sl b7 o7 g.e.length c7:=e7;rw[uP jb]at e8;cases e8;exact(rW (dB e he)).1
     unfold zY kE at hrow
     rw[cx]at hrow
     obtain⟨hr1,hr2,hr3⟩:=hS4.r.r e he
     have hr1:σ4.h (bs e)=some ⟨ones (ix g.e e).c.length λc=>.bool ((DR g.d j++((ix g.d j).l.take t).map BP).contains (e,c)),none⟩:=hr1
     have hb3:=hS4.f.l1 3
     have aqJ:bb 3<σ4.aj:=by rcases hS4.f.l2 3 with h|h;exact absurd (show g.e.length=0 from h) jb;exact h
     have ET:=Fr.refl hf4.wf
     have hfp:=uP (show 0<g.e.length by omega) (bb 3)
     have awv:=q14
     unfold aax at awv
     rw[hfp]at awv
     simp(disch:=try exact jz)only[go_sem,W4,bV,ay awv,hrow,hr1]
     refine⟨(ix g.d j).l.length-(t+1),jb,t+1,rfl,jb,rfl,q14,?_,fr,jb⟩
     have e9:DR g.d j++((ix g.d j).l.take (t+1)).map BP=(DR g.d j++((ix g.d j).l.take t).map BP)++[(e,c)]:=by rw[bJ hlt4,List.map_append,gd,He];rfl
     rw[e9]
     show wY _ _ _ _ _ _ _ _ _ _ (Ro _) _ _ _
     rw[<-ahN]
     refine(hS4.keep (h':=hset (hset σ4.h σ4.aj ⟨[i0,i0],none⟩) σ4.aj ⟨[.int .i64 (.ofNat e),.int .i64 (.ofNat c)],none⟩) (ahK _ _ _) (λb _ hb=>by rw[au _ _ _ _ jb,au _ _ _ _ jb]) (dp _)).write (ahK _ _ _) he (bC λc' _=>?_)
     unfold je aO Ro
     split<;>rfl
    .have:t=(ix g.d j).l.length:=jb
     subst this
     refine WP ?_
     rw[cj,<-adi hlt]at hS4
     exact⟨t3,t46,t47,t48,q14,hS4,hf4,hn4⟩
   .rintro _ tm σ4 ⟨rfl,t3,t46,t47,t48,q14,hS4,hf4,hn4⟩
    refine W0 ?_
    exact⟨g.d.length-(j+1),jb,j+1,rfl,jb,rfl,q14,hS4,hf4,hn4⟩
  .have:j=g.d.length:=jb
   subst this
   simp(disch:=try exact jz)only[go_sem,am]
   exact⟨t3,q1,hS,hf,hnx⟩
 rintro _ tm σ3 ⟨rfl,t3,q1,hS,hf,hnx⟩
 have hle:=hf.le
 refine W0 ?_
 refine⟨⟨_,rfl,⟨_,_,_,_,q1,(hg.fr hW hf).keep (λ_ _=>rfl) λb hb=>aE hb hf.le,⟨R,P,?_,λi hi=>?_⟩,?_⟩,by show _<_;omega⟩,hf⟩
 .refine(hS.f.hlp 2 jj (λj hj=>?_) λb _ h2=>h2)
  have:=hS.f.q 2 j hj
  show List.all (jU _ _ _ _) B.kn=true
  unfold jU
  have h1:(R j).kn=true:=Aq.rk this|>.kn
  have h2:(P j).kn=true:=Aq.pkn this
  simp only[cw,cY,ake,wB,AP,h1,h2,cG]
 .exact Aq.keep (hS.f.q 2 i hi) (λ_ _=>rfl) λb hb=>(hS.f.pp b hb).2
 .refine⟨λi=>zY (kE g.e) bs i,hS.f.hlp 3 jj (λ_ _=>rfl) λb _ h2=>h2,λi hi=>?_⟩
  rw[<-ahM]
  exact hS.r.hlp (λb _ h2=>h2) jj (λ_ _=>rfl) (λ_ _ _ _=>rfl) hi
structure azY(D:Nat)(g:dV)(x:Nat->Rat):Prop where
 hD:DW D
 n:g.e.length<=1000
 d:g.d.length<=1000
 e:∀i,i<g.e.length->EOk D (kE g.e i) (bZ (ix g.e i))/\MOk D (bZ (ix g.e i)) (x i)/\Sz (og (ix g.e i) (kE g.e i))/\Sz (x i-og (ix g.e i) (kE g.e i))
 k:∀i,i<g.e.length->kE g.e i<=1000
 w:∀d,d<g.d.length->(ix g.d d).w.fits 1000000/\0<=(ix g.d d).w.q/\Zk D 1 (ix g.d d).w.q
 l:∀d,d<g.d.length->(ix g.d d).l.length<=1000/\∀k,k<(ix g.d d).l.length->∃e c:Nat,ix (ix g.d d).l k=⟨.ofNat e,.ofNat c⟩/\e<g.e.length/\c<kE g.e e
 q:∀i,i<g.e.length->∀c,c<kE g.e i->0<=gq (bH g) x (i,c)/\Zk D 1 (gq (bH g) x (i,c))
 r:∀i,i<g.e.length->∀c,c<kE g.e i->Sz (BQ (bH g) x (i,c))
 nd:(bH g).fM.Nodup
def XJ(g:dV)(x:Nat->Rat)(i c:Nat):Rat:=Cm (bZ (ix g.e i)) (x i) c
def NM(g:dV)(x:Nat->Rat)(i c:Nat):Rat:=uX (bZ (ix g.e i)) (x i) c
def suF(g:dV)(x:Nat->Rat)(i:Nat):Rat:=wR (x i-og (ix g.e i) (kE g.e i)) 0
def rsF(g:dV)(x:Nat->Rat)(i:Nat):Rat:=rsv (bZ (ix g.e i)) (x i)
def fuF(g:dV)(x:Nat->Rat)(i:Nat):Bool:=decide (0<=nC (x i) (og (ix g.e i) (kE g.e i)))
def sG(g:dV)(x:Nat->Rat)(T:Nat->Nat->B)(bs:Nat->Nat):Nat->Nat->List B
 |1=>λi=>[T 1 i]
 |2=>λi=>[T 2 i]
 |3=>λi=>[zY (kE g.e) bs i]
 |4=>λi=>[T 4 i]
 |5=>λi=>bY (suF g x i)
 |6=>λi=>bY (rsF g x i)
 |7=>λi=>[.bool (fuF g x i)]
 |_=>λ_=>[]
def sE:Nat->Nat
 |1=>1
 |2=>1
 |3=>1
 |4=>1
 |5=>3
 |6=>3
 |7=>1
 |_=>0
def sT:Nat->Nat
 |1=>30
 |2=>30
 |3=>30
 |4=>30
 |5=>69
 |6=>69
 |7=>4
 |_=>0
def sQ(g:dV)(x:Nat->Rat)(T:Nat->Nat->B):Nat->(Nat->Prop)->Tr Bk->Nat->Prop
 |1=>TM (T 1) (kE g.e) (XJ g x)
 |2=>TM (T 2) (kE g.e) (NM g x)
 |4=>TM (T 4) (kE g.e) λi c=>NK (bH g) x (i,c)
 |_=>NoQ
def Rq(g:dV)(x:Nat->Rat)(T:Nat->Nat->B)(bs:Nat->Nat)(k:Nat):LG (sG g x T bs k) (sE k):=by intro j;unfold sG sE;split<;>rfl
def TN(g:dV)(x:Nat->Rat)(T:Nat->Nat->B)(k j:Nat):QK (sQ g x T k) j:=by
 unfold sQ;split
 .exact FI _ _ _ j
 .exact FI _ _ _ j
 .exact FI _ _ _ j
 .exact Nb j
def uS(T:Nat->Nat->B)(k i:Nat)(v:B):Nat->Nat->B:=λk' j=>if k'=k/\j=i then v else T k' j
def OM{T:Nat->Nat->B}{k i k' j:Nat}(h:k'≠k\/j≠i)(v:B):uS T k i v k' j=T k' j:=ae jb
def oz(T:Nat->Nat->B)(k i:Nat)(v:B):uS T k i v k i=v:=ab ⟨rfl,rfl⟩
def adk{g:dV}{x:Nat->Rat}{T:Nat->Nat->B}{bs:Nat->Nat}{k i:Nat}{v:B}{k' j:Nat}(h:k'=k->j<i):sG g x (uS T k i v) bs k' j=sG g x T bs k' j:=by
 have hu:∀a,k'=a->uS T k i v a j=T a j:=λa e=>OM (by by_cases e2:a=k;exact .inr (by have:=h (e.trans e2);omega);exact .inl e2) v;unfold sG;split
 .show [uS T k i v 1 j]=_;rw[hu 1 rfl]
 .show [uS T k i v 2 j]=_;rw[hu 2 rfl]
 .rfl
 .show [uS T k i v 4 j]=_;rw[hu 4 rfl]
 .rfl
 .rfl
 .rfl
 .rfl
def adl{g:dV}{x:Nat->Rat}{T:Nat->Nat->B}{k i:Nat}{v:B}{k' j:Nat}(h:k'=k->j<i){p:Nat->Prop}{H:Tr Bk}(hq:sQ g x T k' p H j):sQ g x (uS T k i v) k' p H j:=by
 have hu:∀a,k'=a->uS T k i v a j=T a j:=λa e=>OM (by by_cases e2:a=k;exact .inr (by have:=h (e.trans e2);omega);exact .inl e2) v;unfold sQ at hq⊢;split
 .show aZ _ _ _ (uS T k i v 1 j) _ _;rw[hu 1 rfl];exact hq
 .show aZ _ _ _ (uS T k i v 2 j) _ _;rw[hu 2 rfl];exact hq
 .show aZ _ _ _ (uS T k i v 4 j) _ _;rw[hu 4 rfl];exact hq
 .trivial
def aww{g:dV}{x:Nat->Rat}{T:Nat->Nat->B}{bs:Nat->Nat}{m nb j:Nat}(k:Nat)(h:k=3->j<m):sG g x T (aO bs m nb) k j=sG g x T bs k j:=by
 unfold sG;split
 .rfl
 .rfl
 .show [zY _ _ j]=_;have:=h rfl;rw[aav jb]
 all_goals rfl
def FK(cm:B)(nn bb:Nat->Nat):List B:=[cm,aX (nn 1) (bb 1),aX (nn 2) (bb 2),aX (nn 3) (bb 3),aX (nn 4) (bb 4),aX (nn 5) (bb 5),aX (nn 6) (bb 6),aX (nn 7) (bb 7)]
def rC(R:Nat->Nat->Rat)(i c:Nat):List B:=bY (R i c)
abbrev Dl(g:dV)(x:Nat->Rat)(p:Nat->Prop)(h:Tr Bk)(nn bb:Nat->Nat)(T:Nat->Nat->B)(m:Nat)(R:Nat->Nat->Rat)(bs:Nat->Nat)(lo hi:Nat):Prop:=wY p h nn bb (sG g x T bs) sE sT (sQ g x T) m (kE g.e) (rC R) bs lo hi
def vk(i m:Nat):Nat->Nat
 |1=>i
 |2=>i
 |3=>i
 |4=>m
 |5=>i
 |6=>i
 |7=>i
 |_=>0
def adn(tm:Tr V)(rb sb mb n ob i lb xb:Nat)(lv dv:B):Prop:=r8 tm 0=.c (.ptr sb 0)/\r8 tm 1=.c (.sl mb 0 n (.ex n))/\r8 tm 4=.c (.ptr rb 0)/\r8 tm 5=.c (.ptr ob 0)/\r8 tm 6=jN i/\r8 tm 7=.c (.ptr lb 0)/\r8 tm 8=.c dv/\r8 tm 9=.c (.ptr xb 0)/\r8 tm 25=.c lv/\r8 tm 26=jN n/\r8 tm 27=jN i
structure ado(J:St)(g:dV)(x:Nat->Rat)(cm:B)(ob i:Nat)(LB:List B)(lb xb:Nat)(dv:B)(nn:Nat->Nat)(m:Nat)(p:Nat->Prop)(bb:Nat->Nat)(T:Nat->Nat->B)(bs:Nat->Nat)(σ5:St):Prop where
 o:σ5.h ob=some ⟨FK cm nn bb,none⟩
 l:σ5.h lb=some ⟨LB,none⟩
 rx:σ5.h xb=some ⟨bY (rsF g x i),none⟩
 pl:p lb
 px:p xb
 d:kS p σ5.h dv (kE g.e i) (NM g x i)
 S:Dl g x p σ5.h nn bb T m (λ_ _=>0) bs (ob+1) σ5.aj
 f:Fr J σ5
 n:ob+1<=σ5.aj
section
variable {J σ5:St} {g:dV} {x:Nat→Rat} {cm:B} {ob i:Nat} {LB:List B} {lb xb:Nat} {dv:B} {nn:Nat→Nat} {m:Nat} {p p' : Nat→Prop} {bb:Nat→Nat} {T T' : Nat→Nat→B} {bs:Nat→Nat}
def ado.push(H:ado J g x cm ob i LB lb xb dv nn m p bb T bs σ5)(k:Nat){hi1 nx n':Nat}{h1 h':Tr Bk}(hp:∀b,p b->p' b)(hp2:∀b,p' b->p b\/σ5.aj<=b/\b<hi1)(hQQ:∀k' j,j<nn k'->∀p h,sQ g x T k' p h j->sQ g x T' k' p h j)(hG:∀k' j,j<nn k'->sG g x T' bs k' j=sG g x T bs k' j)(hx:sQ g x T' k p' h1 (nn k))(hh:∀b,b<σ5.aj->h1 b=σ5.h b)
  (h2:σ5.aj<=hi1) (h3:hi1<=nx) (h4:nx<n'){y:List B}(hb:h' nx=some ⟨bf (nn k) (sG g x T bs k)++y,some (sE k,sT k)⟩) (hgn:y=sG g x T' bs k (nn k)) (hk:∀c,c≠ob->c<hi1->nn k=0\/c≠bb k->h' c=h1 c) (ho:h' ob=some ⟨FK cm (aO nn k (nn k+1)) (aO bb k nx),none⟩) (hf:Fr J ⟨h',n'⟩):
  ado J g x cm ob i LB lb xb dv (aO nn k (nn k+1)) m p' (aO bb k nx) T' bs ⟨h',n'⟩:=by
 have hn:=H.n
 have hS:=H.S.push k hp hp2 (TN g x T') hQQ hG (Rq g x T' bs) hx (λb _ hb=>hh b hb) h2 h3 h4 hn hb hgn λc hc h5 h6=>hk c jb h5 h6
 have hs:=H.S.same k (λb _ hb=>hh b hb) h2 λc hc h5 h6=>hk c jb h5 h6
 exact⟨ho,(hs _ H.pl).trans H.l,(hs _ H.px).trans H.rx,hp _ H.pl,hp _ H.px,aZ.keep H.d hs hp,hS,hf,by show ob+1<=n';omega⟩
def ado.pushRow(H:ado J g x cm ob i LB lb xb dv nn m p bb T bs σ5)(hm:nn 3<=m){hi1 nx n' nb:Nat}{h1 h':Tr Bk}(hh:∀b,b<σ5.aj->h1 b=σ5.h b)(h2:σ5.aj<=hi1)(h3:hi1<=nx)(h4:nx<n'){y:List B}(hb:h' nx=some ⟨bf (nn 3) (sG g x T bs 3)++y,some (1,30)⟩)(hgn:y=[zY (kE g.e) (aO bs m nb) (nn 3)])(hk:∀c,c≠ob->c<hi1->nn 3=0\/c≠bb 3->h' c=h1 c)(ho:h' ob=some ⟨FK cm (aO nn 3 (nn 3+1)) (aO bb 3 nx),none⟩)(hf:Fr J ⟨h',n'⟩)
  (h6:σ5.aj<=nb) (h7:nb<hi1) (hr:h' nb=some ⟨bf (kE g.e m) λ_=>bY 0,none⟩):
  ado J g x cm ob i LB lb xb dv (aO nn 3 (nn 3+1)) (m+1) p (aO bb 3 nx) T (aO bs m nb) ⟨h',n'⟩:=by
 have hn:=H.n
 have hS:=H.S.pushRow 3 (TN g x T) (λ_ _ _ _ _ h=>h) (λk j hj=>aww (m:=m) (nb:=nb) k λe=>by subst e;omega) (Rq g x T _) trivial (λb _ hb=>hh b hb) h2 h3 h4 hn hb hgn (λc hc h5 h6=>hk c jb h5 h6) h6 h7 hr
 have hs:=H.S.same 3 (λb _ hb=>hh b hb) h2 λc hc h5 h6=>hk c jb h5 h6
 exact⟨ho,(hs _ H.pl).trans H.l,(hs _ H.px).trans H.rx,H.pl,H.px,aZ.keep H.d hs λ_ h=>h,hS,hf,by show ob+1<=n';omega⟩
end
end Go.Proofs.Xe
