import Derived.Test.YtchhojplceoifaaGreatDoorYf30
set_option linter.all false
set_option maxRecDepth 100000
set_option maxHeartbeats 8000000
namespace Go.Proofs.Ins
def Kr(W:Rat)(q:fZ->Rat):Rat->List fZ->fZ->Rat
 |_,[],_=>0
 |Q,a::t,l=>(if a=l then tq (Q+q a-W)-tq (Q-W)else 0)+Kr W q (Q+q a) t l
def Kt(g:GL)(x:Nat->Rat)(l:fZ):Rat:=aJ g.ds λd=>Kr d.1 (gq g x) 0 d.2 l
def V7(g:GL)(x:Nat->Rat)(l:fZ):Rat:=gq g x l-Kt g x l
def af8(W:Rat)(q:fZ->Rat)(Q:Rat)(a:fZ)(t:List fZ)(l:fZ):Kr W q Q (a::t) l=(if a=l then tq (Q+q a-W)-tq (Q-W)else 0)+Kr W q (Q+q a) t l:=rfl
def V9{W:Rat}{q:fZ->Rat}{l:fZ}:∀{t:List fZ}{Q:Rat},l∉t->Kr W q Q t l=0
 |[],_,_=>rfl
 |a::t,Q,h=>by unfold Kr;rw[ab (λe=>h (by simp[e])),V9 (λhl=>h (by simp[hl]))];exact cY 0
def TW{W:Rat}{q:fZ->Rat}{l a:fZ}:∀{t:List fZ}{Q:Rat},Kr W q Q (t++[a]) l=Kr W q Q t l+if a=l then tq (Q+aJ t q+q a-W)-tq (Q+aJ t q-W)else 0
 |[],Q=>by show(if a=l then tq (Q+q a-W)-tq (Q-W)else 0)+0=0+if a=l then tq (Q+0+q a-W)-tq (Q+0-W)else 0;grind
 |b::t,Q=>by rw[fu];unfold Kr;rw[TW];show _=_+if a=l then tq (Q+(q b+aJ t q)+q a-W)-tq (Q+(q b+aJ t q)-W)else 0;rw[show Q+(q b+aJ t q)=Q+q b+aJ t q by grind];grind
section
variable {n:Nat} {g:GL}
end
end Go.Proofs.Ins
namespace Go.Proofs.Xe
open Go.RowKit Go.Proofs.Ins
def Nq{a b:Rat}:0<=pI a b↔b<=a:=by rw[<-Int.not_lt,rQ];grind
def Qe(p:Rat):vY p 0=tq p:=by
 unfold vY tq;by_cases h:0<=p
 .rw[ae h,ae (Nq.mpr h)]
 .rw[ab h,ab λe=>h (Nq.mp e)]
def Ku{p:Rat}(h:0<=p):tq p=p:=ae h
def af9(W:Rat)(q:Nat->Rat)(k:Nat):Rat:=tq (aB (k+1) q-W)-tq (aB k q-W)
def Y9(σ σ':St)(r:V)(n:Nat)(f:Nat->Rat):Prop:=∃b,r=.c (.sl b 0 n (.ex n))/\σ'.h b=some ⟨cZ n f,none⟩/\σ.aj<=b/\b<σ'.aj
theorem Zk.Am{D:Nat}{f:Nat->Rat}:∀{n:Nat},(∀i,i<n->Zk D 1 (f i))->Zk D n (aB n f)
 |0,_=>Zk.zero
 |n+1,h=>(Zk.Am λi hi=>h i jb).add (h n jb)
def Zk.pq{D k:Nat}{q:Rat}(h:Zk D k q):Zk D k (tq q):=by
 unfold tq;split
 .exact h
 .exact Zk.zero.mono (br _)
def akh:1000000<=256^uK:=ap (by decide:1000000<=256^3) (bB jj jj)
def aga{σ:St}(hW:WF σ){p:Nat->Prop}{wn:Bool}{ws wd:ByteArray}{W:Rat}(hw:rq wn ws wd=W)(hws:ws.size+wd.size<=130000000){v:B}{m:Nat}{q:Nat->Rat}(hv:kJ p σ.h v m q)(hm:m<=1000)(hq:∀k,k<m->0<=q k)(h0:0<=W){D:Nat}(hD:CY D)(hWz:Zk D 1 W)(hqz:∀k,k<m->Zk D 1 (q k)):
  aC EN 92 [.agg [.bool wn,.str ws,.str wd],.c v] σ λr σ'=>Y9 σ σ' r m (af9 W q)/\Fr σ σ':=by
 refine aO (pV.o _ _) pV.h ?_
 unfold pV
 dsimp only
 have hlen:=aX.len hv
 have hFr:=Fr.refl hW
 have hu:=akh
 have hp:=λ(args:List V) (σ:St) (K:V->St->Prop)=>lS (E:=EN) (K:=K) (gZ.o args σ) gZ.h
 unfold gZ at hp
 dsimp only at hp
 simp(disch:=try exact jz) only[go_sem,hlen]
 refine aF (λx tm σ'=>∃k,x=m-k/\k<=m/\Tr.ah tm 2=.c (.ptr σ.aj 0)/\Tr.ah tm 5=.c (.sl (σ.aj+1) 0 m (.ex m))/\Tr.ah tm 6=.c (.ptr (σ.aj+1+1) 0)/\Tr.ah tm 7=.c (.ptr (σ.aj+1+1+1) 0)/\Tr.ah tm 16=.c v/\Tr.ah tm 17=jN m/\Tr.ah tm 18=jN k
  /\σ'.h σ.aj=some ⟨[.bool wn,.str ws,.str wd],none⟩/\σ'.h (σ.aj+1)=some ⟨cZ m (λi=>if i<k then af9 W q i else 0),none⟩/\σ'.h (σ.aj+1+1)=some ⟨[.bool (rn (aB k q)),.str (rs (aB k q)),.str (rd (aB k q))],none⟩/\σ'.h (σ.aj+1+1+1)=some ⟨[.bool (rn (tq (aB k q-W))),.str (rs (tq (aB k q-W))),.str (rd (tq (aB k q-W)))],none⟩
  /\Fr σ σ'/\σ.aj+1+1+1+1<=σ'.aj) m ?_ ?_
 .refine⟨0,jb,jb,?_⟩
  have e0:tq (0-W)=0:=by grind[tq]
  simp(disch:=try exact jz) only[go_sem,am]
  refine⟨?_,rfl,?_,fr,jb⟩
  .rw[yP]
  .show _=some (Bk.mk [.bool (rn (tq (0-W))),.str (rs (tq (0-W))),.str (rd (tq (0-W)))] none)
   rw[e0]
 .rintro x tm σ' ⟨k,rfl,hk,t2,t5,t6,t7,t16,t17,nP,q2,q5,q6,q7,hf,hnx⟩
  have hle:=hf.le
  simp(disch:=try exact jz) only[go_sem,t2,t5,t6,t7,t16,t17,nP,aG]
  refine aH (λhlt=>?_) (λhlt=>?_)
  .obtain⟨b5,o5,c5,rfl,-,bf⟩:=aX.at3 hv hlt
   have bf:=hf.ld hW bf
   have hqk:=hq k hlt
   have hzk:=hqz k hlt
   have hzs:Zk D k (aB k q):=Zk.Am λi hi=>hqz i jb
   have z1:Sz (q k):=hzk.sz hD jb
   have z2:Sz (aB k q):=hzs.sz hD jb
   have z3':=(hzs.add hzk)
   have z4:Sz (aB k q+q k):=z3'.sz hD jb
   have z5:Sz W:=hWz.sz hD jb
   have z6:Sz (aB k q+q k-W):=(z3'.sub hWz).sz hD jb
   have z7:Sz (tq (aB k q+q k-W)):=(z3'.sub hWz).pq.sz hD jb
   have z8:Sz (tq (aB k q-W)):=(hzs.sub hWz).pq.sz hD jb
   have z9:=Sz.zero
   have z10:=Sz.zero.two
   have e1:tq (q k)=q k:=Ku hqk
   have e2:tq W=W:=Ku h0
   have mJ:=Fr.refl hf.wf
   simp(disch:=try exact jz) only[go_sem,t2,t5,t6,t7,t16,t17,nP,bf,au q2,au q6,aI q6,au q7,aI q7,aI q5,q5,q6,q7,Qe,e1,e2,hw,hp]
   refine⟨m-(k+1),jb,k+1,rfl,jb,rfl,q2,?_,rfl,rfl,fr,jb⟩
   exact bO (λl=>some (Bk.mk l none)) (tN m k (af9 W q))
  .have:k=m:=jb
   subst this
   simp(disch:=try exact jz) only[go_sem,t5]
   exact⟨⟨_,rfl,by rw[q5,zT],jb,jb⟩,hf⟩
def abQ{σ:St}(hW:WF σ){p p':Nat->Prop}{w1 w2 w3 L lv:B}{fJ:List Ins.Lg}{n:Nat}{kk:Nat->Nat}{f:Nat->Nat->Rat}(hL:AU p σ.h L fJ)(hR:dQ p' σ.h lv n kk f)(h1:w1.kn=true)(h2:w2.kn=true)(h3:w3.kn=true)(hl:fJ.length<=1000)(Jj:∀j,j<fJ.length->∃e c:Nat,ix fJ j=⟨.ofNat e,.ofNat c⟩/\e<n/\c<kk e):
  aC EN 93 [.agg [w1,w2,w3,L],.c lv] σ λr σ'=>Y9 σ σ' r fJ.length (λj=>f (Bj (ix fJ j)).1 (Bj (ix fJ j)).2)/\Fr σ σ':=by
 refine aO (wF.o _ _) wF.h ?_
 unfold wF
 dsimp only
 have hlen:=aX.len hL
 have hLk:=aX.kn hL
 have hFr:=Fr.refl hW
 simp(disch:=try exact jz) only[go_sem,hlen,hLk,h1,h2,h3]
 refine aF (λx tm σ'=>∃j,x=fJ.length-j/\j<=fJ.length/\Tr.ah tm 1=.c lv/\Tr.ah tm 5=.c (.sl (σ.aj+1) 0 fJ.length (.ex fJ.length))/\Tr.ah tm 13=.c L/\Tr.ah tm 14=jN fJ.length/\Tr.ah tm 15=jN j
  /\σ'.h (σ.aj+1)=some ⟨cZ fJ.length (λi=>if i<j then f (Bj (ix fJ i)).1 (Bj (ix fJ i)).2 else 0),none⟩/\Fr σ σ'/\σ.aj+1+1<=σ'.aj) fJ.length ?_ ?_
 .refine⟨0,jb,jb,?_⟩
  simp(disch:=try exact jz) only[go_sem,am]
  exact⟨by rw[yP],fr,jb⟩
 .rintro x tm σ' ⟨j,rfl,hj,t1,t5,t13,t14,t15,q5,hf,hnx⟩
  have hle:=hf.le
  simp(disch:=try exact jz) only[go_sem,t1,t5,t13,t14,t15,aG]
  refine aH (λhlt=>?_) (λhlt=>?_)
  .obtain⟨b5,o5,c5,rfl,-,bf⟩:=aX.pos hL jb
   have bf:=hf.ld hW (bf j hlt)
   obtain⟨e,c,FU,he,hc⟩:=Jj j hlt
   obtain⟨b6,o6,c6,T,rfl,-,bJ,hT⟩:=hR.at he
   obtain⟨b7,o7,c7,rfl,-,dB⟩:=aX.at3 hT hc
   have bJ:=hf.ld hW bJ
   have dB:=hf.ld hW dB
   have hb6:=hf.wf.dA bJ
   have hb7:=hf.wf.dA dB
   have mJ:=Fr.refl hf.wf
   unfold MH at bf
   have hst:=tN fJ.length j λi=>f (Bj (ix fJ i)).1 (Bj (ix fJ i)).2
   rw[show f (Bj (ix fJ j)).1 (Bj (ix fJ j)).2=f e c by rw[FU];rfl]at hst
   rw[FU]at bf
   simp(disch:=try exact jz) only[go_sem,t1,t5,t13,t14,t15,bf,bJ,dB,q5,aI q5,hst]
   exact⟨fJ.length-(j+1),jb,j+1,rfl,jb,rfl,rfl,fr,jb⟩
  .have:j=fJ.length:=jb
   subst this
   simp(disch:=try exact jz) only[go_sem,t5]
   exact⟨⟨_,rfl,by rw[q5,zT],jb,jb⟩,hf⟩
def aqF{σ:St}(hW:WF σ){p:Nat->Prop}{v:B}{n:Nat}{f:Nat->Rat}(hv:kJ p σ.h v n f)(hn:n<=1000)(hz:∀i,i<n->Sz (f i))(hs:∀i,i<=n->Sz (aB i f)):
  aC EN 109 [.c v] σ λr σ'=>r=.agg [.bool (rn (aB n f)),.str (rs (aB n f)),.str (rd (aB n f))]/\Fr σ σ':=by
 refine aO (yA.o _ _) yA.h ?_
 unfold yA
 dsimp only
 have hlen:=aX.len hv
 have hFr:=Fr.refl hW
 simp(disch:=try exact jz) only[go_sem,hlen]
 refine aF (λx tm σ'=>∃j,x=n-j/\j<=n/\Tr.ah tm 2=.c (.ptr σ.aj 0)/\Tr.ah tm 3=.c (.ptr (σ.aj+1) 0)/\Tr.ah tm 7=.c v/\Tr.ah tm 8=jN n/\Tr.ah tm 9=jN j
  /\σ'.h σ.aj=some ⟨[.bool (rn 0),.str (rs 0),.str (rd 0)],none⟩/\σ'.h (σ.aj+1)=some ⟨[.bool (rn (aB j f)),.str (rs (aB j f)),.str (rd (aB j f))],none⟩/\Fr σ σ'/\σ.aj+1+1<=σ'.aj) n ?_ ?_
 .refine⟨0,jb,jb,?_⟩
  simp(disch:=try exact jz) only[go_sem,am]
  exact⟨rfl,fr,jb⟩
 .rintro x tm σ' ⟨j,rfl,hj,t2,t3,t7,t8,t9,q2,q3,hf,hnx⟩
  have hle:=hf.le
  simp(disch:=try exact jz) only[go_sem,t2,t3,t7,t8,t9,aG]
  refine aH (λhlt=>?_) (λhlt=>?_)
  .obtain⟨b5,o5,c5,rfl,-,bf⟩:=aX.at3 hv hlt
   have bf:=hf.ld hW bf
   have z1:=hz j hlt
   have z2:=hs j jb
   have mJ:=Fr.refl hf.wf
   simp(disch:=try exact jz) only[go_sem,t2,t3,t7,t8,t9,bf,au q3,q3,aI q3]
   exact⟨n-(j+1),jb,j+1,rfl,jb,rfl,q2,rfl,fr,jb⟩
  .have:j=n:=jb
   subst this
   simp(disch:=try exact jz) only[go_sem,t2,t3,au q3,q2,aI q2]
   exact fr
structure Fam(p:Nat->Prop)(h:Tr Bk)(nn bb:Nat->Nat)(GG:Nat->Nat->List B)(ee tt:Nat->Nat)(QQ:Nat->(Nat->Prop)->Tr Bk->Nat->Prop)(lo hi:Nat):Prop where
 g:∀k,yV (nn k) h (bb k)=gF (nn k) (GG k) (ee k) (tt k)
 L:∀k,LG (GG k) (ee k)
 l1:∀k,lo<=bb k
 l2:∀k,nn k=0\/bb k<hi
 ne:∀k k',k≠k'->nn k=0\/nn k'=0\/bb k≠bb k'
 np:∀k,nn k=0\/¬p (bb k)
 q:∀k j,j<nn k->QQ k p h j
 pp:∀x,p x->lo<=x/\x<hi
section
variable {p p' : Nat→Prop} {h h' h1:Tr Bk} {nn bb:Nat→Nat} {GG GG' : Nat→Nat→List B} {ee tt:Nat→Nat} {QQ QQ' : Nat→(Nat→Prop)→Tr Bk→Nat→Prop} {lo hi:Nat}
theorem Fam.nil(hn:∀k,nn k=0)(hL:∀k,LG (GG k) (ee k)):Fam (λ_=>False) h nn (λ_=>lo) GG ee tt QQ lo hi:=
 ⟨λk=>by rw[hn k];rfl,hL,λ_=>jp,λk=>.inl (hn k),λk _ _=>.inl (hn k),λk=>.inl (hn k),λk j hj=>by grind,λ_ h=>h.elim⟩
def Fam.keep(ho:Fam p h nn bb GG ee tt QQ lo hi)(hQ:∀k j,QK (QQ k) j)(hh:∀b,lo<=b->b<hi->h' b=h b){hi':Nat}(h2:hi<=hi'):Fam p h' nn bb GG ee tt QQ lo hi':=by obtain⟨g,L,l1,l2,ne,np,q,pp⟩:=ho;refine⟨λk=>?_,L,l1,λk=>by grind,ne,np,λk j hj=>hQ k j _ _ _ _ (q k j hj) (λb hb=>hh b (pp b hb).1 (pp b hb).2) λ_ hb=>hb,λx hx=>by grind⟩;grind[Go.Proofs.Xe.xw]
def Fam.push(ho:Fam p h nn bb GG ee tt QQ lo hi)(k:Nat){hi1 nx n':Nat}(hp:∀x,p x->p' x)(hp2:∀x,p' x->p x\/hi<=x/\x<hi1)(hQ:∀k j,QK (QQ' k) j)(hQQ:∀k j,j<nn k->∀p h,QQ k p h j->QQ' k p h j)(hG:∀k j,j<nn k->GG' k j=GG k j)(hL:∀k,LG (GG' k) (ee k))
  (hx:QQ' k p' h1 (nn k)) (hh:∀x,lo<=x->x<hi->h1 x=h x) (h2:hi<=hi1) (h3:hi1<=nx) (h4:nx<n') (h5:lo<=hi){x:List B}(hb:h' nx=some ⟨bC (nn k) (GG k)++x,some (ee k,tt k)⟩) (hgn:x=GG' k (nn k)) (hk:∀c,lo<=c->c<hi1->nn k=0\/c≠bb k->h' c=h1 c):
  Fam p' h' (aN nn k (nn k+1)) (aN bb k nx) GG' ee tt QQ' lo n':=by
 obtain⟨g,L,l1,l2,ne,np,q,pp⟩:=ho
 have hp':∀b,p' b->lo<=b/\b<hi1/\(nn k=0\/b≠bb k):=λb hb=>by grind
 have hnp:∀k',nn k'=0\/¬p' (bb k'):=λk'=>by grind
 refine⟨λk'=>?_,hL,λk'=>?_,λk'=>?_,λa b hab=>?_,λk'=>?_,λk' j hj=>?_,λx hx=>by grind⟩
 .by_cases e:k'=k
  .subst e
   rw[aK,aK]
   show h' nx=some _
   grind[Go.Proofs.Xe.jw,Go.Proofs.Xe.bH,Go.Proofs.Xe.iR]
  .rw[aS _ _ _ _ e,aS _ _ _ _ e]
   have h6:yV (nn k') h' (bb k')=yV (nn k') h (bb k'):=xw (by grind)
   rw[h6,g k']
   generalize hm:nn k'=m
   cases m with
   |zero=>rfl
   |succ m=>show some _=some _;grind[bH]
 .grind[aK,aS]
 .grind[aK,aS]
 .grind[aS,aK]
 .grind[aK,aS]
 .by_cases e:k'=k/\j=nn k
  .obtain⟨rfl,rfl⟩:=e
   exact hQ _ _ _ _ _ _ hx (λb hb=>hk b (hp' b hb).1 (hp' b hb).2.1 (hp' b hb).2.2) λ_ h=>h
  .have hj':j<nn k':=by
    by_cases e2:k'=k
    .subst e2;rw[aK]at hj;have:¬j=nn k':=λe3=>e ⟨rfl,e3⟩;omega
    .rwa[aS _ _ _ _ e2]at hj
   exact hQ _ _ _ _ _ _ (hQQ k' j hj' _ _ (q k' j hj')) (λb hb=>by have:=hp' b (hp b hb);rw[hk b this.1 this.2.1 this.2.2,hh b (pp b hb).1 (pp b hb).2]) hp
def Fam.hlp(ho:Fam p h nn bb GG ee tt QQ lo hi)(k:Nat)(he:0<ee k)(hk:∀j,j<nn k->(GG k j).all B.kn=true){q:Nat->Prop}(hq:∀b,lo<=b->b<hi->q b):aX q h (ee k) (aV (nn k) (bb k)) (nn k) (GG k):=by
 have g:=ho.g k;have hl:=ho.l2 k;have hL:=ho.L k;have hlo:=ho.l1 k;generalize nn k=n at*;cases n with
 |zero=>exact .inl ⟨rfl,rfl⟩
 |succ n=>exact bD _ g (CQ _ _ jb) (hq _ hlo jb) hL he hk
def Fam.keep'(ho:Fam p h nn bb GG ee tt QQ lo hi)(hQ:∀k j,QK (QQ k) j)(hp:∀b,p b->h' b=h b)(hh:∀k,nn k=0\/h' (bb k)=h (bb k)):Fam p h' nn bb GG ee tt QQ lo hi:=by obtain⟨g,L,l1,l2,ne,np,q,pp⟩:=ho;exact⟨λk=>(xw (hh k)).trans (g k),L,l1,l2,ne,np,λk j hj=>hQ k j _ _ _ _ (q k j hj) hp λ_ hb=>hb,pp⟩
structure vV(p:Nat->Prop)(h:Tr Bk)(nn bb:Nat->Nat)(GG:Nat->Nat->List B)(ee tt:Nat->Nat)(QQ:Nat->(Nat->Prop)->Tr Bk->Nat->Prop)(m:Nat)(kk:Nat->Nat)(C:Nat->Nat->List B)(bs:Nat->Nat)(lo hi:Nat):Prop where
 f:Fam p h nn bb GG ee tt QQ lo hi
 r:mM h m kk C bs lo hi
 w:∀j,j<m->¬p (bs j)
 n:∀j k,j<m->nn k=0\/bb k≠bs j
variable {m:Nat} {kk:Nat→Nat} {C:Nat→Nat→List B} {bs:Nat→Nat}
def vV.keep(ho:vV p h nn bb GG ee tt QQ m kk C bs lo hi)(hQ:∀k j,QK (QQ k) j)(hh:∀b,lo<=b->b<hi->h' b=h b){hi':Nat}(h2:hi<=hi'):vV p h' nn bb GG ee tt QQ m kk C bs lo hi':=
 ⟨ho.f.keep hQ hh h2,ho.r.mono hh jp h2,ho.w,ho.n⟩
def vV.push(ho:vV p h nn bb GG ee tt QQ m kk C bs lo hi)(k:Nat){hi1 nx n':Nat}(hp:∀x,p x->p' x)(hp2:∀x,p' x->p x\/hi<=x/\x<hi1)(hQ:∀k j,QK (QQ' k) j)(hQQ:∀k j,j<nn k->∀p h,QQ k p h j->QQ' k p h j)(hG:∀k j,j<nn k->GG' k j=GG k j)(hL:∀k,LG (GG' k) (ee k))
  (hx:QQ' k p' h1 (nn k)) (hh:∀x,lo<=x->x<hi->h1 x=h x) (h2:hi<=hi1) (h3:hi1<=nx) (h4:nx<n') (h5:lo<=hi){x:List B}(hb:h' nx=some ⟨bC (nn k) (GG k)++x,some (ee k,tt k)⟩) (hgn:x=GG' k (nn k)) (hk:∀c,lo<=c->c<hi1->nn k=0\/c≠bb k->h' c=h1 c):
  vV p' h' (aN nn k (nn k+1)) (aN bb k nx) GG' ee tt QQ' m kk C bs lo n':=by
 refine⟨ho.f.push k hp hp2 hQ hQQ hG hL hx hh h2 h3 h4 h5 hb hgn hk,ho.r.mono' (λj hj=>?_) jp jb,λj hj hb=>?_,λj i hj=>?_⟩
 .obtain⟨-,k2,k3⟩:=ho.r.r j hj
  have:=ho.n j k hj
  grind
 .obtain⟨-,k2,k3⟩:=ho.r.r j hj
  rcases hp2 _ hb with hb|hb
  .exact ho.w j hj hb
  .omega
 .obtain⟨-,k2,k3⟩:=ho.r.r j hj
  by_cases e:i=k
  .grind[aK]
  .rw[aS nn _ _ _ e,aS bb _ _ _ e];exact ho.n j i hj
def vV.pushRow(ho:vV p h nn bb GG ee tt QQ m kk C bs lo hi)(k:Nat){hi1 nx n' nb:Nat}(hQ:∀k j,QK (QQ' k) j)(hQQ:∀k j,j<nn k->∀p h,QQ k p h j->QQ' k p h j)(hG:∀k j,j<nn k->GG' k j=GG k j)(hL:∀k,LG (GG' k) (ee k))
  (hx:QQ' k p h1 (nn k)) (hh:∀x,lo<=x->x<hi->h1 x=h x) (h2:hi<=hi1) (h3:hi1<=nx) (h4:nx<n') (h5:lo<=hi){x:List B}(hb:h' nx=some ⟨bC (nn k) (GG k)++x,some (ee k,tt k)⟩) (hgn:x=GG' k (nn k)) (hk:∀c,lo<=c->c<hi1->nn k=0\/c≠bb k->h' c=h1 c)
  (h6:hi<=nb) (h7:nb<hi1) (hr:h' nb=some ⟨bC (kk m) (C m),none⟩):
  vV p h' (aN nn k (nn k+1)) (aN bb k nx) GG' ee tt QQ' (m+1) kk C (aN bs m nb) lo n':=by
 have hP:=ho.push k (p':=p) (λ_ h=>h) (λ_ h=>.inl h) hQ hQQ hG hL hx hh h2 h3 h4 h5 hb hgn hk
 refine⟨hP.f,ho.r.push hr rfl h6 jb jb λb h8 h9 ⟨i,hi,e⟩=>?_,λj hj=>?_,λj i hj=>?_⟩
 .have:=ho.n i k hi
  grind
 .by_cases e:j=m
  .subst e;rw[aK];exact λh=>by have:=ho.f.pp _ h;omega
  .rw[aS _ _ _ _ e];exact ho.w j jb
 .by_cases e:j=m
  .subst e
   rw[aK bs]
   by_cases e2:i=k
   .grind[aK]
   .rw[aS nn _ _ _ e2,aS bb _ _ _ e2]
    have:=ho.f.l2 i;omega
  .rw[aS bs _ _ _ e];exact hP.n j i jb
def vV.write(ho:vV p h nn bb GG ee tt QQ m kk C bs lo hi)(hQ:∀k j,QK (QQ k) j){j c:Nat}{x l:List B}(hj:j<m)(hl:l=bC (kk j) (iR (C j) c x)):vV p (hset h (bs j) ⟨l,none⟩) nn bb GG ee tt QQ m kk (tH C j c x) bs lo hi:=by
 refine⟨ho.f.keep' hQ (λb hb=>ak _ _ _ _ λe=>ho.w j hj (e▸hb)) (λk=>?_),ho.r.set hj hl,ho.w,ho.n⟩;rcases ho.n j k hj with e|e
 .omega
 grind[ak]
theorem vV.grow(ho:vV p h nn bb GG ee tt QQ m kk C bs lo hi)(hQ:∀k j,QK (QQ k) j)(hh:∀b,lo<=b->b<hi->h' b=h b){hi':Nat}(h2:hi<=hi')(hp:∀x,p x->p' x)(hp2:∀x,p' x->p x\/hi<=x/\x<hi')(h3:lo<=hi):vV p' h' nn bb GG ee tt QQ m kk C bs lo hi':=by
 obtain⟨⟨g,L,l1,l2,ne,np,q,pp⟩,r,w,n⟩:=ho;refine⟨⟨λk=>?_,L,l1,λk=>by grind,ne,λk=>?_,λk j hj=>hQ k j _ _ _ _ (q k j hj) (λb hb=>hh b (pp b hb).1 (pp b hb).2) hp,λx hx=>?_⟩,r.mono hh jp h2,λj hj hb=>?_,n⟩
 .grind[Go.Proofs.Xe.xw]
 .grind
 .grind
 .obtain⟨-,k2,k3⟩:=r.r j hj;grind
def vV.same(ho:vV p h nn bb GG ee tt QQ m kk C bs lo hi)(k:Nat){hi1:Nat}(hh:∀x,lo<=x->x<hi->h1 x=h x)(h2:hi<=hi1)(hk:∀c,lo<=c->c<hi1->nn k=0\/c≠bb k->h' c=h1 c):∀x,p x->h' x=h x:=λx hx=>by
 have h3:=ho.f.pp x hx;rw[hk x h3.1 jb ?_,hh x h3.1 h3.2];rcases ho.f.np k with e|e
 .omega
 grind
end
def axE(p:Nat->Prop)(h:Tr Bk)(lv:B)(el:List vP):Prop:=∃R P:Nat->B,aX p h 6 lv el.length (λi=>jI (ix el i).c.length (R i) (P i) (oK (ix el i) (ix el i).c.length))/\∀i,i<el.length->zQ p h (R i) (P i) (bY (ix el i))
def aki(p:Nat->Prop)(h:Tr Bk)(bv:B)(el:List vP)(L:List fZ):Prop:=∃T:Nat->B,aX p h 1 bv el.length (λi=>[T i])/\∀i,i<el.length->aX p h 1 (T i) (ix el i).c.length λc=>[.bool (L.contains (i,c))]
structure FV(p:Nat->Prop)(h:Tr Bk)(sb:Nat)(g:fC):Prop where
 s:∃ev dv lv bv,h sb=some ⟨[ev,dv,lv,bv],none⟩/\qy p h ev dv g/\axE p h lv g.e/\aki p h bv g.e (bI g).fJ
 b:p sb
def FV.keep{p q:Nat->Prop}{h h':Tr Bk}{sb:Nat}{g:fC}(hs:FV p h sb g)(hk:∀b,p b->h' b=h b)(hp:∀b,p b->q b):FV q h' sb g:=by obtain⟨⟨ev,dv,lv,bv,h1,h2,⟨R,P,h3,h4⟩,T,h5,h6⟩,hb⟩:=hs;exact⟨⟨ev,dv,lv,bv,by rw[hk _ hb];exact h1,h2.keep hk hp,⟨R,P,h3.keep hk hp,λi hi=>(h4 i hi).keep hk hp⟩,T,h5.keep hk hp,λi hi=>(h6 i hi).keep hk hp⟩,hp _ hb⟩
theorem FV.fr{σ σ':St}(hf:Fr σ σ'){sb:Nat}{g:fC}(hs:FV (Lt σ.aj) σ.h sb g):FV (Lt σ'.aj) σ'.h sb g:=hs.keep (λb hb=>hf.old b hb) λb hb=>aM hb hf.le
def Ci(i:Nat):Nat->Nat:=λk=>if k=2\/k=3 then i else 0
def kE(el:List vP)(i:Nat):Nat:=(ix el i).c.length
def bG(el:List vP)(R P:Nat->B)(bs:Nat->Nat):Nat->Nat->List B
 |2=>λi=>jI (ix el i).c.length (R i) (P i) (oK (ix el i) (ix el i).c.length)
 |3=>λi=>[y7 (kE el) bs i]
 |_=>λ_=>[]
def bE:Nat->Nat
 |2=>6
 |3=>1
 |_=>0
def bT:Nat->Nat
 |2=>148
 |3=>38
 |_=>0
def bQ(el:List vP)(R P:Nat->B):Nat->(Nat->Prop)->Tr Bk->Nat->Prop
 |2=>λp h i=>zQ p h (R i) (P i) (bY (ix el i))
 |_=>NoQ
def akj(el:List vP)(R P:Nat->B)(bs:Nat->Nat)(k:Nat):LG (bG el R P bs k) (bE k):=by intro j;unfold bG bE;split<;>rfl
def agb(el:List vP)(R P:Nat->B)(k j:Nat):QK (bQ el R P k) j:=by
 unfold bQ;split
 .exact λ_ _ _ _ hp hk hq=>hp.keep hk hq
 .exact Ld j
def Qg(L:List fZ)(i c:Nat):List B:=[.bool (L.contains (i,c))]
abbrev abR(el:List vP)(p:Nat->Prop)(h:Tr Bk)(nn bb:Nat->Nat)(R P:Nat->B)(bs:Nat->Nat)(m:Nat)(L:List fZ)(lo hi:Nat):Prop:=vV p h nn bb (bG el R P bs) bE bT (bQ el R P) m (kE el) (Qg L) bs lo hi
def agc(i:Nat):aN (aN (Ci i) 2 (Ci i 2+1)) 3 (aN (Ci i) 2 (Ci i 2+1) 3+1)=Ci (i+1):=by grind[aN,Ci]
theorem Za{kk bs:Nat->Nat}{m nb j:Nat}(h:j≠m):y7 kk (aN bs m nb) j=y7 kk bs j:=by grind[y7,aS]
def adS(i k:Nat):Ci i k<=i:=by grind[Ci]
def at7{el:List vP}{R P:Nat->B}{i j:Nat}(h:j<i)(rv pv:B)(k:Nat)(p:Nat->Prop)(H:Tr Bk)(hq:bQ el R P k p H j):bQ el (aN R i rv) (aN P i pv) k p H j:=by
 unfold bQ at hq⊢;split
 .grind[aS]
 .trivial
def aua{el:List vP}{R P:Nat->B}{bs:Nat->Nat}{i j:Nat}(h:j<i)(rv pv:B)(k:Nat):bG el (aN R i rv) (aN P i pv) bs k j=bG el R P bs k j:=by unfold bG;grind[aS]
def aub{el:List vP}{R P:Nat->B}{bs:Nat->Nat}{m nb j:Nat}(k:Nat)(h:k=3->j<m):bG el R P (aN bs m nb) k j=bG el R P bs k j:=by unfold bG;grind[Za]
def tX{n:Nat}(h:0<n)(b:Nat):aV n b=.sl b 0 n .opn:=by
 cases n with
 |zero=>omega
 |succ n=>rfl
def CV(dl:List qx)(j:Nat):List fZ:=(dl.take j).flatMap λd=>d.l.map Bj
def abS{dl:List qx}{j:Nat}(h:j<dl.length):CV dl (j+1)=CV dl j++(ix dl j).l.map Bj:=by grind[CV,bU]
def agd(g:fC):CV g.d g.d.length=(bI g).fJ:=by grind[CV,GL.fJ,bI,List.flatMap_map]
def agf(L:List fZ)(e c:Nat):tH (Qg L) e c [.bool true]=Qg (L++[(e,c)]):=by grind[tH,Qg]
structure Zb(A:Nat)(g:fC):Prop where
 n:g.e.length<=1000
 d:g.d.length<=1000
 e:∀i,i<g.e.length->Qc A (ix g.e i)
 l:∀d,d<g.d.length->(ix g.d d).l.length<=1000
 lg:∀d,d<g.d.length->∀k,k<(ix g.d d).l.length->∃e c:Nat,ix (ix g.d d).l k=⟨.ofNat e,.ofNat c⟩/\e<g.e.length/\c<(ix g.e e).c.length
def Zc(ev dv:B)(n:Nat)(bb:Nat->Nat):List B:=[ev,dv,aV n (bb 2),aV n (bb 3)]
def aoK{σ:St}(hW:WF σ){p:Nat->Prop}{ev dv:B}(g:fC)(hg:qy p σ.h ev dv g){A:Nat}(hA:CY A)(hO:Zb A g):
  aC EN 43 [.agg [ev,dv]] σ λr σ'=>(∃sb,r=.c (.ptr sb 0)/\FV (Lt σ'.aj) σ'.h sb g)/\Fr σ σ':=by
 refine aO (uJ.o _ _) uJ.h ?_
 unfold uJ
 dsimp only
 have hek:=hg.e.kn
 have hdk:=hg.d.kn
 have hlenE:=hg.e.len
 have hlenD:=hg.d.len
 have hne:=hO.n
 have hnd:=hO.d
 have hFr:=Fr.refl hW
 simp(disch:=try exact jz) only[go_sem,hek,hdk,hlenE]
 refine bM.mono (Q:=λex tm σ'=>ex=.exit 0/\∃p bb R P bs,Tr.ah tm 1=.c (.ptr σ.aj 0)/\Tr.ah tm 3=.c (.ptr (σ.aj+1) 0)/\σ'.h σ.aj=some ⟨[ev,dv],none⟩/\σ'.h (σ.aj+1)=some ⟨Zc ev dv g.e.length bb,none⟩
   /\abR g.e p σ'.h (Ci g.e.length) bb R P bs g.e.length [] (σ.aj+1+1) σ'.aj/\Fr σ σ'/\σ.aj+1+1<=σ'.aj)
  (aF (λq tm σ'=>∃i p bb R P bs,q=g.e.length-i/\i<=g.e.length/\Tr.ah tm 1=.c (.ptr σ.aj 0)/\Tr.ah tm 3=.c (.ptr (σ.aj+1) 0)/\Tr.ah tm 14=.c ev/\Tr.ah tm 15=jN g.e.length/\Tr.ah tm 16=jN i/\σ'.h σ.aj=some ⟨[ev,dv],none⟩/\σ'.h (σ.aj+1)=some ⟨Zc ev dv i bb,none⟩
   /\abR g.e p σ'.h (Ci i) bb R P bs i [] (σ.aj+1+1) σ'.aj/\Fr σ σ'/\σ.aj+1+1<=σ'.aj) g.e.length ?_ ?_) ?_
 .refine⟨0,λ_=>False,λ_=>σ.aj+1+1,λ_=>.aP,λ_=>.aP,λ_=>0,jb,jb,?_⟩
  simp(disch:=try exact jz) only[go_sem,am]
  refine⟨rfl,⟨Fam.nil (λk=>?_) (akj _ _ _ _),mM.nil _ _ _ _ _ _,λj hj=>jb,λj k hj=>jb⟩,fr,jb⟩
  unfold Ci;split<;>rfl
 .rintro q tm σ' ⟨i,p,bb,R,P,bs,rfl,hi,t1,t3,t14,t15,t16,q0,q1,hS,hf,hnx⟩
  have hle:=hf.le
  simp(disch:=try exact jz) only[go_sem,t1,t3,t14,t15,t16,aG]
  refine aH (λhlt=>?_) (λhlt=>?_)
  .obtain⟨b5,o5,c5,rfl,C1,A1,bf,-,hC,hA1⟩:=hg.e.at hlt
   have bf:=hf.ld hW bf
   have LM:=aX.kn hC
   have hAk:=hA1.kn
   have hlo2:=hS.f.l1 2
   have hlo3:=hS.f.l1 3
   have hhi2:i=0\/bb 2<σ'.aj:=hS.f.l2 2
   have hhi3:i=0\/bb 3<σ'.aj:=hS.f.l2 3
   have axF:i=0\/i=0\/bb 2≠bb 3:=hS.f.ne 2 3 jj
   unfold Zc at q1
   refine Ji (run_seq (EU (Qd (λtm σ5=>∃p bb R P,Tr.ah tm 1=.c (.ptr σ.aj 0)/\Tr.ah tm 3=.c (.ptr (σ.aj+1) 0)/\Tr.ah tm 5=.c (.ptr σ'.aj 0)/\Tr.ah tm 14=.c (.sl b5 o5 g.e.length c5)/\Tr.ah tm 15=jN g.e.length/\Tr.ah tm 16=jN i
     /\σ5.h σ.aj=some ⟨[.sl b5 o5 g.e.length c5,dv],none⟩/\σ5.h (σ.aj+1)=some ⟨[.sl b5 o5 g.e.length c5,dv,aV (i+1) (bb 2),aV i (bb 3)],none⟩/\σ5.h σ'.aj=some ⟨[.bool (ix g.e i).m.n,.str (ix g.e i).m.s,.str (ix g.e i).m.d,C1,A1],none⟩/\abR g.e p σ5.h (aN (Ci i) 2 (Ci i 2+1)) bb R P bs i [] (σ.aj+1+1) σ5.aj/\Fr σ σ5/\σ'.aj<σ5.aj) ?_ ?_)))
   .have mJ:=Fr.refl hf.wf
    simp(disch:=try exact jz) only[go_sem,t1,t3,t14,t15,t16,bf,LM,hAk,au q1]
    refine aC.st (Fr σ') (fr) λgy=>?_
    have hf5:=hf.trans gy
    refine(axD gy.wf (aX.fr hW hf5 hC) (hA1.fr hW hf5) rfl rfl rfl hA (hO.e i hlt)).mono ?_
    rintro _ σ6 ⟨⟨rv,pv,rfl,hL⟩,gV⟩
    have kL:=gy.trans gV
    have abO:=hf.trans kL
    have yZ:σ'.aj+1<=σ6.aj:=gV.le
    have q06:=kL.get hf.wf q0
    have q16:=kL.get hf.wf q1
    have q56:σ6.h σ'.aj=some ⟨[.bool (ix g.e i).m.n,.str (ix g.e i).m.s,.str (ix g.e i).m.d,C1,A1],none⟩:=gV.get gy.wf (aA _ _ _)
    have hrk:=hL.rk.kn
    have hpk:=hL.Xd
    have hS6:=hS.keep (agb _ _ _) (λb _ hb=>kL.old b hb) jp
    have hg6:yV i σ6.h (bb 2)=gF i (bG g.e R P bs 2) 6 148:=hS6.f.g 2
    have hLG:LG (bG g.e R P bs 2) 6:=akj _ _ _ _ 2
    unfold jI
    simp(disch:=try exact jz) only[go_sem,t1,t3,t14,t15,t16,hrk,hpk,au q16,q16,hg6]
    refine⟨λb=>p b\/σ'.aj<=b/\b<σ6.aj,aN bb 2 (σ6.aj+1),aN R i rv,aN P i pv,?_⟩
    and_intros<;>try(first|rfl|omega|exact q06|exact q56|exact fr)
    refine hS.push 2 (hi1:=σ6.aj) (h1:=σ6.h) (λx h=>.inl h) (λx h=>h) (agb _ _ _) (λk j hj p h hq=>at7 (aM hj (adS i k)) rv pv k p h hq) (λk j hj=>aua (aM hj (adS i k)) rv pv k) (akj _ _ _ _) ?_ (λb _ hb=>kL.old b hb) jb jb jb hnx
     (x:=jI (ix g.e i).c.length rv pv (oK (ix g.e i) (ix g.e i).c.length)) ?_ ?_ λc h1 h2 h3=>?_
    .show zQ _ _ (aN R i rv i) (aN P i pv i) _
     rw[aK,aK]
     exact hL.keep (λ_ _=>rfl) λb hb=>.inr ⟨ap (eh _) hb.1,hb.2⟩
    .rw[ak _ _ _ _ jb,aA];rfl
    .show _=jI _ (aN R i rv i) (aN P i pv i) _
     rw[aK,aK];rfl
    .rw[ak _ _ _ _ jb,ak _ _ _ _ jb,iq i _ _ _ h3,ak _ _ _ _ jb]
   .rintro tm5 σ5 ⟨p5,nM,R5,P5,t1,t3,t5,t14,t15,t16,q0,q1,q5,hS5,hf5,hn5⟩
    have uU:=hf5.le
    have hlo2:=hS5.f.l1 2
    have hlo3:=hS5.f.l1 3
    have hhi2:i+1=0\/nM 2<σ5.aj:=hS5.f.l2 2
    have hhi3:i=0\/nM 3<σ5.aj:=hS5.f.l2 3
    have axF:i+1=0\/i=0\/nM 2≠nM 3:=hS5.f.ne 2 3 jj
    have hg5:yV i σ5.h (nM 3)=gF i (bG g.e R5 P5 bs 3) 1 38:=hS5.f.g 3
    have hLG:LG (bG g.e R5 P5 bs 3) 1:=akj _ _ _ _ 3
    have hnc:=(hO.e i hlt).nc
    have Yv:=aX.len hC
    have Hl:=Fr.refl hf5.wf
    simp(disch:=try exact jz) only[go_sem,t1,t3,t5,t14,t15,t16,Yv,LM,hAk,au q1,au q5,q1,hg5]
    refine⟨g.e.length-(i+1),jb,i+1,p5,aN nM 3 (σ5.aj+1+1),R5,P5,aN bs i σ5.aj,rfl,jb,rfl,q0,rfl,?_,fr,jb⟩
    rw[<-agc]
    refine hS5.pushRow 3 (hi1:=σ5.aj+1) (nb:=σ5.aj) (h1:=hset σ5.h σ5.aj ⟨bC (kE g.e i) (Qg [] i),none⟩) (agb _ _ _) (λk j hj p h hq=>hq) (λk j hj=>aub (m:=i) k λe=>by subst e;exact hj) (akj _ _ _ _) trivial (λb _ hb=>ak _ _ _ _ jb) jb jb jb jb (x:=[y7 (kE g.e) (aN bs i σ5.aj) i]) ?_ rfl (λc h1 h2 h3=>?_) jb jb ?_
    .rw[ak _ _ _ _ jb,aA]
     unfold y7
     rw[aK];rfl
    .rw[ak _ _ _ _ jb,ak _ _ _ _ jb,iq i _ _ _ h3,ak _ _ _ _ jb];rfl
    .rw[ak _ _ _ _ jb,ak _ _ _ _ jb,iq _ _ _ _ jb,ak _ _ _ _ jb,aA];rfl
  .have:i=g.e.length:=jb
   subst this
   simp(disch:=try exact jz) only[go_sem,am]
   exact⟨p,bb,R,P,bs,t1,t3,q0,q1,hS,hf,hnx⟩
 rintro _ tm σ2 ⟨rfl,p2,bb,R,P,bs,t1,t3,q0,q1,hS,hf,hnx⟩
 have hle:=hf.le
 have aw6:∀k,bb k<σ2.aj\/Ci g.e.length k=0:=λk=>(hS.f.l2 k).symm
 simp(disch:=try exact jz) only[go_sem,t1,t3,au q0,hdk,hlenD]
 refine bM.mono (Q:=λex tm σ'=>ex=.exit 2/\Tr.ah tm 3=.c (.ptr (σ.aj+1) 0)/\σ'.h (σ.aj+1)=some ⟨Zc ev dv g.e.length bb,none⟩/\abR g.e p2 σ'.h (Ci g.e.length) bb R P bs g.e.length (CV g.d g.d.length) (σ.aj+1+1) σ'.aj/\Fr σ σ'/\σ.aj+1+1<=σ'.aj)
  (aF (λq tm σ'=>∃j,q=g.d.length-j/\j<=g.d.length/\Tr.ah tm 3=.c (.ptr (σ.aj+1) 0)/\Tr.ah tm 46=.c dv/\Tr.ah tm 47=jN g.d.length/\Tr.ah tm 48=jN j
   /\σ'.h (σ.aj+1)=some ⟨Zc ev dv g.e.length bb,none⟩/\abR g.e p2 σ'.h (Ci g.e.length) bb R P bs g.e.length (CV g.d j) (σ.aj+1+1) σ'.aj/\Fr σ σ'/\σ.aj+1+1<=σ'.aj) g.d.length ?_ ?_) ?_
 .refine⟨0,jb,jb,?_⟩
  simp(disch:=try exact jz) only[go_sem,t3,am]
  exact⟨q1,hS,hf,hnx⟩
 .rintro q tm σ' ⟨j,rfl,hj,t3,t46,t47,t48,q1,hS,hf,hnx⟩
  have hle:=hf.le
  simp(disch:=try exact jz) only[go_sem,t3,t46,t47,t48,aG]
  refine aH (λhlt=>?_) (λhlt=>?_)
  .obtain⟨b5,o5,c5,rfl,T1,bf,hT⟩:=hg.d.el hlt
   have bf:=hf.ld hW bf
   have Rl:=aX.kn hT
   have hlT:=aX.len hT
   have hll:=hO.l j hlt
   have mJ:=Fr.refl hf.wf
   simp(disch:=try exact jz) only[go_sem,t3,t46,t47,t48,bf,Rl,hlT]
   refine bM.st (Fr σ') (fr) λhF3=>?_
   have hf3:=hf.trans hF3
   have hS3:=hS.keep (agb _ _ _) (λb _ hb=>hF3.old b hb) hF3.le
   have q13:=hF3.get hf.wf q1
   have hle3:=hF3.le
   refine bM.mono (Q:=λex tm σ4=>ex=.exit 4/\Tr.ah tm 3=.c (.ptr (σ.aj+1) 0)/\Tr.ah tm 46=.c (.sl b5 o5 g.d.length c5)/\Tr.ah tm 47=jN g.d.length/\Tr.ah tm 48=jN j/\σ4.h (σ.aj+1)=some ⟨Zc ev (.sl b5 o5 g.d.length c5) g.e.length bb,none⟩/\abR g.e p2 σ4.h (Ci g.e.length) bb R P bs g.e.length (CV g.d (j+1)) (σ.aj+1+1) σ4.aj/\Fr σ σ4/\σ.aj+1+1<=σ4.aj)
    (aF (λq tm σ4=>∃t,q=(ix g.d j).l.length-t/\t<=(ix g.d j).l.length/\Tr.ah tm 3=.c (.ptr (σ.aj+1) 0)/\Tr.ah tm 46=.c (.sl b5 o5 g.d.length c5)/\Tr.ah tm 47=jN g.d.length/\Tr.ah tm 48=jN j/\Tr.ah tm 53=.c T1/\Tr.ah tm 54=jN (ix g.d j).l.length/\Tr.ah tm 55=jN t
     /\σ4.h (σ.aj+1)=some ⟨Zc ev (.sl b5 o5 g.d.length c5) g.e.length bb,none⟩/\abR g.e p2 σ4.h (Ci g.e.length) bb R P bs g.e.length (CV g.d j++((ix g.d j).l.take t).map Bj) (σ.aj+1+1) σ4.aj/\Fr σ σ4/\σ.aj+1+1<=σ4.aj) (ix g.d j).l.length ?_ ?_) ?_
   .refine⟨0,jb,jb,?_⟩
    simp(disch:=try exact jz) only[go_sem,t3,t46,t47,t48,am,cI,List.map_nil,dx]
    exact⟨q1,hS3,hf3,jb⟩
   .rintro q tm σ4 ⟨t,rfl,ht,t3,t46,t47,t48,t53,t54,t55,Zd,hS4,hf4,hn4⟩
    have pY:=hf4.le
    simp(disch:=try exact jz) only[go_sem,t3,t46,t47,t48,t53,t54,t55,aG]
    refine aH (λhlt4=>?_) (λhlt4=>?_)
    .obtain⟨b6,o6,c6,rfl,-,bJ⟩:=aX.pos hT jb
     have bJ:=hf4.ld hW (bJ t hlt4)
     obtain⟨e,c,FU,he,hc⟩:=hO.lg j hlt t hlt4
     unfold MH at bJ
     rw[FU]at bJ
     have hrow:ld σ4.h (bb 3) (0+e*1) 1 false=some (.c (y7 (kE g.e) bs e)):=by obtain⟨b7,o7,c7,e7,-,dB⟩:=aX.pos (hS4.f.hlp 3 (q:=λ_=>True) jj (λ_ _=>rfl) λ_ _ _=>trivial) (show 0<Ci g.e.length 3 by show 0<g.e.length;omega);have e8:aV g.e.length (bb 3)=.sl b7 o7 g.e.length c7:=e7;rw[tX jb]at e8;cases e8;exact(sU (dB e he)).1
     unfold y7 kE at hrow
     rw[cL]at hrow
     obtain⟨hr1,hr2,hr3⟩:=hS4.r.r e he
     have hr1:σ4.h (bs e)=some ⟨ones (ix g.e e).c.length λc=>.bool ((CV g.d j++((ix g.d j).l.take t).map Bj).contains (e,c)),none⟩:=hr1
     have hb3:=hS4.f.l1 3
     have aoA:bb 3<σ4.aj:=by rcases hS4.f.l2 3 with h|h;exact absurd (show g.e.length=0 from h) jb;exact h
     have FQ:=Fr.refl hf4.wf
     have hfp:=tX (show 0<g.e.length by omega) (bb 3)
     have auc:=Zd
     unfold Zc at auc
     rw[hfp]at auc
     simp(disch:=try exact jz) only[go_sem,t3,t46,t47,t48,t53,t54,t55,bJ,au auc,hrow,aI hr1,hr1]
     refine⟨(ix g.d j).l.length-(t+1),jb,t+1,rfl,jb,rfl,Zd,?_,fr,jb⟩
     have e9:CV g.d j++((ix g.d j).l.take (t+1)).map Bj=(CV g.d j++((ix g.d j).l.take t).map Bj)++[(e,c)]:=by rw[bU hlt4,List.map_append,ij,FU];rfl
     rw[e9]
     show vV _ _ _ _ _ _ _ _ _ _ (Qg _) _ _ _
     rw[<-agf]
     refine(hS4.keep (h':=hset (hset σ4.h σ4.aj ⟨[i0,i0],none⟩) σ4.aj ⟨[.int .i64 (.ofNat e),.int .i64 (.ofNat c)],none⟩) (agb _ _ _) (λb _ hb=>by rw[ak _ _ _ _ jb,ak _ _ _ _ jb]) (eh _)).write (agb _ _ _) he (bH λc' _=>?_)
     unfold iR aN Qg
     split<;>rfl
    .have:t=(ix g.d j).l.length:=jb
     subst this
     simp(disch:=try exact jz) only[go_sem,am]
     rw[cC,<-abS hlt]at hS4
     exact⟨t3,t46,t47,t48,Zd,hS4,hf4,hn4⟩
   .rintro _ tm σ4 ⟨rfl,t3,t46,t47,t48,Zd,hS4,hf4,hn4⟩
    simp(disch:=try exact jz) only[go_sem,t3,t46,t47,t48]
    exact⟨g.d.length-(j+1),jb,j+1,rfl,jb,rfl,Zd,hS4,hf4,hn4⟩
  .have:j=g.d.length:=jb
   subst this
   simp(disch:=try exact jz) only[go_sem,am]
   exact⟨t3,q1,hS,hf,hnx⟩
 rintro _ tm σ3 ⟨rfl,t3,q1,hS,hf,hnx⟩
 have hle:=hf.le
 simp(disch:=try exact jz) only[go_sem,t3]
 refine⟨⟨_,rfl,⟨_,_,_,_,q1,(hg.fr hW hf).keep (λ_ _=>rfl) λb hb=>aM hb hf.le,⟨R,P,?_,λi hi=>?_⟩,?_⟩,by show _<_;omega⟩,hf⟩
 .refine(hS.f.hlp 2 jj (λj hj=>?_) λb _ h2=>h2)
  have:=hS.f.q 2 j hj
  show List.all (jI _ _ _ _) B.kn=true
  unfold jI
  have h1:(R j).kn=true:=zQ.rk this|>.kn
  have h2:(P j).kn=true:=zQ.Xd this
  simp only[cD,dj,ait,vk,Ac,h1,h2,cU]
 .exact zQ.keep (hS.f.q 2 i hi) (λ_ _=>rfl) λb hb=>(hS.f.pp b hb).2
 .refine⟨λi=>y7 (kE g.e) bs i,hS.f.hlp 3 jj (λ_ _=>rfl) λb _ h2=>h2,λi hi=>?_⟩
  rw[<-agd]
  exact hS.r.hlp (λb _ h2=>h2) jj (λ_ _=>rfl) (λ_ _ _ _=>rfl) hi
structure axG(D:Nat)(g:fC)(x:Nat->Rat):Prop where
 hD:CY D
 n:g.e.length<=1000
 d:g.d.length<=1000
 e:∀i,i<g.e.length->EOk D (kE g.e i) (bY (ix g.e i))/\MOk D (bY (ix g.e i)) (x i)/\Sz (oK (ix g.e i) (kE g.e i))/\Sz (x i-oK (ix g.e i) (kE g.e i))
 k:∀i,i<g.e.length->kE g.e i<=1000
 w:∀d,d<g.d.length->(ix g.d d).w.fits 1000000/\0<=(ix g.d d).w.q/\Zk D 1 (ix g.d d).w.q
 l:∀d,d<g.d.length->(ix g.d d).l.length<=1000/\∀k,k<(ix g.d d).l.length->∃e c:Nat,ix (ix g.d d).l k=⟨.ofNat e,.ofNat c⟩/\e<g.e.length/\c<kE g.e e
 q:∀i,i<g.e.length->∀c,c<kE g.e i->0<=gq (bI g) x (i,c)/\Zk D 1 (gq (bI g) x (i,c))
 r:∀i,i<g.e.length->∀c,c<kE g.e i->Sz (Kt (bI g) x (i,c))
 nd:(bI g).fJ.Nodup
def Nr(g:fC)(x:Nat->Rat)(i c:Nat):Rat:=Ag (bY (ix g.e i)) (x i) c
def Ns(g:fC)(x:Nat->Rat)(i c:Nat):Rat:=uy (bY (ix g.e i)) (x i) c
def suF(g:fC)(x:Nat->Rat)(i:Nat):Rat:=vY (x i-oK (ix g.e i) (kE g.e i)) 0
def rsF(g:fC)(x:Nat->Rat)(i:Nat):Rat:=rsv (bY (ix g.e i)) (x i)
def fuF(g:fC)(x:Nat->Rat)(i:Nat):Bool:=decide (0<=pI (x i) (oK (ix g.e i) (kE g.e i)))
def sG(g:fC)(x:Nat->Rat)(T:Nat->Nat->B)(bs:Nat->Nat):Nat->Nat->List B
 |1=>λi=>[T 1 i]
 |2=>λi=>[T 2 i]
 |3=>λi=>[y7 (kE g.e) bs i]
 |4=>λi=>[T 4 i]
 |5=>λi=>dO (suF g x i)
 |6=>λi=>dO (rsF g x i)
 |7=>λi=>[.bool (fuF g x i)]
 |_=>λ_=>[]
def sE:Nat->Nat
 |1=>1
 |2=>1
 |3=>1
 |4=>1
 |5=>3
 |6=>3
 |7=>1
 |_=>0
def sT:Nat->Nat
 |1=>30
 |2=>30
 |3=>30
 |4=>30
 |5=>50
 |6=>50
 |7=>4
 |_=>0
def sQ(g:fC)(x:Nat->Rat)(T:Nat->Nat->B):Nat->(Nat->Prop)->Tr Bk->Nat->Prop
 |1=>Ru (T 1) (kE g.e) (Nr g x)
 |2=>Ru (T 2) (kE g.e) (Ns g x)
 |4=>Ru (T 4) (kE g.e) λi c=>V7 (bI g) x (i,c)
 |_=>NoQ
def Qh(g:fC)(x:Nat->Rat)(T:Nat->Nat->B)(bs:Nat->Nat)(k:Nat):LG (sG g x T bs k) (sE k):=by intro j;unfold sG sE;split<;>rfl
def Rw(g:fC)(x:Nat->Rat)(T:Nat->Nat->B)(k j:Nat):QK (sQ g x T k) j:=by
 unfold sQ;split
 .exact Et _ _ _ j
 .exact Et _ _ _ j
 .exact Et _ _ _ j
 .exact Ld j
def tY(T:Nat->Nat->B)(k i:Nat)(v:B):Nat->Nat->B:=λk' j=>if k'=k/\j=i then v else T k' j
def Nu{T:Nat->Nat->B}{k i k' j:Nat}(h:k'≠k\/j≠i)(v:B):tY T k i v k' j=T k' j:=ab jb
def nS(T:Nat->Nat->B)(k i:Nat)(v:B):tY T k i v k i=v:=ae ⟨rfl,rfl⟩
def abT{g:fC}{x:Nat->Rat}{T:Nat->Nat->B}{bs:Nat->Nat}{k i:Nat}{v:B}{k' j:Nat}(h:k'=k->j<i):sG g x (tY T k i v) bs k' j=sG g x T bs k' j:=by
 have hu:∀a,k'=a->tY T k i v a j=T a j:=λa e=>Nu (by by_cases e2:a=k;exact .inr (by have:=h (e.trans e2);omega);exact .inl e2) v;unfold sG;split
 .show [tY T k i v 1 j]=_;rw[hu 1 rfl]
 .show [tY T k i v 2 j]=_;rw[hu 2 rfl]
 .rfl
 .show [tY T k i v 4 j]=_;rw[hu 4 rfl]
 .rfl
 .rfl
 .rfl
 .rfl
def abU{g:fC}{x:Nat->Rat}{T:Nat->Nat->B}{k i:Nat}{v:B}{k' j:Nat}(h:k'=k->j<i){p:Nat->Prop}{H:Tr Bk}(hq:sQ g x T k' p H j):sQ g x (tY T k i v) k' p H j:=by
 have hu:∀a,k'=a->tY T k i v a j=T a j:=λa e=>Nu (by by_cases e2:a=k;exact .inr (by have:=h (e.trans e2);omega);exact .inl e2) v;unfold sQ at hq⊢;split
 .show aX _ _ _ (tY T k i v 1 j) _ _;rw[hu 1 rfl];exact hq
 .show aX _ _ _ (tY T k i v 2 j) _ _;rw[hu 2 rfl];exact hq
 .show aX _ _ _ (tY T k i v 4 j) _ _;rw[hu 4 rfl];exact hq
 .trivial
def aud{g:fC}{x:Nat->Rat}{T:Nat->Nat->B}{bs:Nat->Nat}{m nb j:Nat}(k:Nat)(h:k=3->j<m):sG g x T (aN bs m nb) k j=sG g x T bs k j:=by
 unfold sG;split
 .rfl
 .rfl
 .show [y7 _ _ j]=_;have:=h rfl;rw[Za jb]
 all_goals rfl
def Eu(cm:B)(nn bb:Nat->Nat):List B:=[cm,aV (nn 1) (bb 1),aV (nn 2) (bb 2),aV (nn 3) (bb 3),aV (nn 4) (bb 4),aV (nn 5) (bb 5),aV (nn 6) (bb 6),aV (nn 7) (bb 7)]
def rC(R:Nat->Nat->Rat)(i c:Nat):List B:=dO (R i c)
abbrev Cj(g:fC)(x:Nat->Rat)(p:Nat->Prop)(h:Tr Bk)(nn bb:Nat->Nat)(T:Nat->Nat->B)(m:Nat)(R:Nat->Nat->Rat)(bs:Nat->Nat)(lo hi:Nat):Prop:=vV p h nn bb (sG g x T bs) sE sT (sQ g x T) m (kE g.e) (rC R) bs lo hi
def uo(i m:Nat):Nat->Nat
 |1=>i
 |2=>i
 |3=>i
 |4=>m
 |5=>i
 |6=>i
 |7=>i
 |_=>0
def abV(tm:Tr V)(rb sb mb n ob i lb xb:Nat)(lv dv:B):Prop:=Tr.ah tm 0=.c (.ptr sb 0)/\Tr.ah tm 1=.c (.sl mb 0 n (.ex n))/\Tr.ah tm 4=.c (.ptr rb 0)/\Tr.ah tm 5=.c (.ptr ob 0)/\Tr.ah tm 6=jN i/\Tr.ah tm 7=.c (.ptr lb 0)/\Tr.ah tm 8=.c dv/\Tr.ah tm 9=.c (.ptr xb 0)/\Tr.ah tm 25=.c lv/\Tr.ah tm 26=jN n/\Tr.ah tm 27=jN i
structure abW(σ:St)(g:fC)(x:Nat->Rat)(cm:B)(ob i:Nat)(LB:List B)(lb xb:Nat)(dv:B)(nn:Nat->Nat)(m:Nat)(p:Nat->Prop)(bb:Nat->Nat)(T:Nat->Nat->B)(bs:Nat->Nat)(σ5:St):Prop where
 o:σ5.h ob=some ⟨Eu cm nn bb,none⟩
 l:σ5.h lb=some ⟨LB,none⟩
 rx:σ5.h xb=some ⟨dO (rsF g x i),none⟩
 pl:p lb
 px:p xb
 d:kJ p σ5.h dv (kE g.e i) (Ns g x i)
 S:Cj g x p σ5.h nn bb T m (λ_ _=>0) bs (ob+1) σ5.aj
 f:Fr σ σ5
 n:ob+1<=σ5.aj
section
variable {σ σ5:St} {g:fC} {x:Nat→Rat} {cm:B} {ob i:Nat} {LB:List B} {lb xb:Nat} {dv:B} {nn:Nat→Nat} {m:Nat} {p p' : Nat→Prop} {bb:Nat→Nat} {T T' : Nat→Nat→B} {bs:Nat→Nat}
def abW.push(H:abW σ g x cm ob i LB lb xb dv nn m p bb T bs σ5)(k:Nat){hi1 nx n':Nat}{h1 h':Tr Bk}(hp:∀b,p b->p' b)(hp2:∀b,p' b->p b\/σ5.aj<=b/\b<hi1)(hQQ:∀k' j,j<nn k'->∀p h,sQ g x T k' p h j->sQ g x T' k' p h j)(hG:∀k' j,j<nn k'->sG g x T' bs k' j=sG g x T bs k' j)(hx:sQ g x T' k p' h1 (nn k))(hh:∀b,b<σ5.aj->h1 b=σ5.h b)
  (h2:σ5.aj<=hi1) (h3:hi1<=nx) (h4:nx<n'){y:List B}(hb:h' nx=some ⟨bC (nn k) (sG g x T bs k)++y,some (sE k,sT k)⟩) (hgn:y=sG g x T' bs k (nn k)) (hk:∀c,c≠ob->c<hi1->nn k=0\/c≠bb k->h' c=h1 c) (ho:h' ob=some ⟨Eu cm (aN nn k (nn k+1)) (aN bb k nx),none⟩) (hf:Fr σ ⟨h',n'⟩):
  abW σ g x cm ob i LB lb xb dv (aN nn k (nn k+1)) m p' (aN bb k nx) T' bs ⟨h',n'⟩:=by
 have hn:=H.n
 have hS:=H.S.push k hp hp2 (Rw g x T') hQQ hG (Qh g x T' bs) hx (λb _ hb=>hh b hb) h2 h3 h4 hn hb hgn λc hc h5 h6=>hk c jb h5 h6
 have hs:=H.S.same k (λb _ hb=>hh b hb) h2 λc hc h5 h6=>hk c jb h5 h6
 exact⟨ho,(hs _ H.pl).trans H.l,(hs _ H.px).trans H.rx,hp _ H.pl,hp _ H.px,aX.keep H.d hs hp,hS,hf,by show ob+1<=n';omega⟩
def abW.pushRow(H:abW σ g x cm ob i LB lb xb dv nn m p bb T bs σ5)(hm:nn 3<=m){hi1 nx n' nb:Nat}{h1 h':Tr Bk}(hh:∀b,b<σ5.aj->h1 b=σ5.h b)(h2:σ5.aj<=hi1)(h3:hi1<=nx)(h4:nx<n'){y:List B}(hb:h' nx=some ⟨bC (nn 3) (sG g x T bs 3)++y,some (1,30)⟩)(hgn:y=[y7 (kE g.e) (aN bs m nb) (nn 3)])(hk:∀c,c≠ob->c<hi1->nn 3=0\/c≠bb 3->h' c=h1 c)(ho:h' ob=some ⟨Eu cm (aN nn 3 (nn 3+1)) (aN bb 3 nx),none⟩)(hf:Fr σ ⟨h',n'⟩)
  (h6:σ5.aj<=nb) (h7:nb<hi1) (hr:h' nb=some ⟨bC (kE g.e m) λ_=>dO 0,none⟩):
  abW σ g x cm ob i LB lb xb dv (aN nn 3 (nn 3+1)) (m+1) p (aN bb 3 nx) T (aN bs m nb) ⟨h',n'⟩:=by
 have hn:=H.n
 have hS:=H.S.pushRow 3 (Rw g x T) (λ_ _ _ _ _ h=>h) (λk j hj=>aud (m:=m) (nb:=nb) k λe=>by subst e;omega) (Qh g x T _) trivial (λb _ hb=>hh b hb) h2 h3 h4 hn hb hgn (λc hc h5 h6=>hk c jb h5 h6) h6 h7 hr
 have hs:=H.S.same 3 (λb _ hb=>hh b hb) h2 λc hc h5 h6=>hk c jb h5 h6
 exact⟨ho,(hs _ H.pl).trans H.l,(hs _ H.px).trans H.rx,H.pl,H.px,aX.keep H.d hs λ_ h=>h,hS,hf,by show ob+1<=n';omega⟩
end
end Go.Proofs.Xe
