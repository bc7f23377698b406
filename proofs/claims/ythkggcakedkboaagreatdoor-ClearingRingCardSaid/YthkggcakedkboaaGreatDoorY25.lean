import Derived.Test.YthkggcakedkboaaGreatDoorY24
set_option linter.all false
set_option maxRecDepth 100000
set_option maxHeartbeats 8000000
namespace Go.Proofs.Ins
def Ih(W:Rat)(q:fD->Rat):Rat->List fD->fD->Rat
 |_,[],_=>0
 |Q,a::t,l=>(if a=l then qF (Q+q a-W)-qF (Q-W)else 0)+Ih W q (Q+q a) t l
def Ii(g:GL)(x:Nat->Rat)(l:fD):Rat:=aG g.ds λd=>Ih d.1 (gq g x) 0 d.2 l
def Y1(g:GL)(x:Nat->Rat)(l:fD):Rat:=gq g x l-Ii g x l
def ac4(W:Rat)(q:fD->Rat)(Q:Rat)(a:fD)(t:List fD)(l:fD):Ih W q Q (a::t) l=(if a=l then qF (Q+q a-W)-qF (Q-W)else 0)+Ih W q (Q+q a) t l:=rfl
def SS{W:Rat}{q:fD->Rat}{l:fD}:∀{t:List fD}{Q:Rat},l∉t->Ih W q Q t l=0
 |[],_,_=>rfl
 |a::t,Q,h=>by unfold Ih;rw[ab (λe=>h (by simp[e])),SS (λhl=>h (by simp[hl]))];exact cF 0
def PS{W:Rat}{q:fD->Rat}{l a:fD}:∀{t:List fD}{Q:Rat},Ih W q Q (t++[a]) l=Ih W q Q t l+if a=l then qF (Q+aG t q+q a-W)-qF (Q+aG t q-W)else 0
 |[],Q=>by show(if a=l then qF (Q+q a-W)-qF (Q-W)else 0)+0=0+if a=l then qF (Q+0+q a-W)-qF (Q+0-W)else 0;grind
 |b::t,Q=>by rw[gi];unfold Ih;rw[PS];show _=_+if a=l then qF (Q+(q b+aG t q)+q a-W)-qF (Q+(q b+aG t q)-W)else 0;rw[show Q+(q b+aG t q)=Q+q b+aG t q by grind];grind
section
variable {n:Nat} {g:GL}
end
end Go.Proofs.Ins
namespace Go.Proofs.Xe
open Go.RowKit Go.Proofs.Ins
def JQ{a b:Rat}:0<=oJ a b↔b<=a:=by rw[<-Int.not_lt,oP];grind
def Y2(p:Rat):FD p 0=qF p:=by
 unfold FD qF;by_cases h:0<=p
 .rw[ae h,ae (JQ.mpr h)]
 .rw[ab h,ab λe=>h (JQ.mp e)]
def Ij{p:Rat}(h:0<=p):qF p=p:=ae h
def ac5(W:Rat)(q:Nat->Rat)(k:Nat):Rat:=qF (aA (k+1) q-W)-qF (aA k q-W)
def SV(σ σ':St)(r:V)(n:Nat)(f:Nat->Rat):Prop:=∃b,r=.c (.sl b 0 n (.ex n))/\σ'.h b=some ⟨bU n f,none⟩/\σ.aj<=b/\b<σ'.aj
theorem Zk.yK{D:Nat}{f:Nat->Rat}:∀{n:Nat},(∀i,i<n->Zk D 1 (f i))->Zk D n (aA n f)
 |0,_=>Zk.zero
 |n+1,h=>(Zk.yK λi hi=>h i jb).add (h n jb)
def Zk.pq{D k:Nat}{q:Rat}(h:Zk D k q):Zk D k (qF q):=by
 unfold qF;split
 .exact h
 .exact Zk.zero.mono (bz _)
def ag3:1000000<=256^uK:=ag (by decide:1000000<=256^3) (bw jj jj)
def ac6{σ:St}(hW:WF σ){p:Nat->Prop}{wn:Bool}{ws wd:ByteArray}{W:Rat}(hw:rq wn ws wd=W)(hws:ws.size+wd.size<=130000000){v:B}{m:Nat}{q:Nat->Rat}(hv:jB p σ.h v m q)(hm:m<=1000)(hq:∀k,k<m->0<=q k)(h0:0<=W){D:Nat}(hD:Ah D)(hWz:Zk D 1 W)(hqz:∀k,k<m->Zk D 1 (q k)):
  aC EN 61 [.agg [.bool wn,.str ws,.str wd],.c v] σ λr σ'=>SV σ σ' r m (ac5 W q)/\Fr σ σ':=by
 refine aN (nH.o _ _) nH.h ?_
 unfold nH
 dsimp only
 have hlen:=aZ.len hv
 have hFr:=Fr.refl hW
 have hu:=ag3
 have hp:=λ(args:List V) (σ:St) (K:V->St->Prop)=>jS (E:=EN) (K:=K) (gy.o args σ) gy.h
 unfold gy at hp
 dsimp only at hp
 simp(disch:=try exact jz) only[go_sem,z3,hlen]
 refine aF (λx tm σ'=>∃k,x=m-k/\k<=m/\Tr.ah tm 2=.c (.ptr σ.aj 0)/\Tr.ah tm 5=.c (.sl (σ.aj+1) 0 m (.ex m))/\Tr.ah tm 6=.c (.ptr (σ.aj+1+1) 0)/\Tr.ah tm 7=.c (.ptr (σ.aj+1+1+1) 0)/\Tr.ah tm 16=.c v/\Tr.ah tm 17=.c (.int .i64 (.ofNat m))/\Tr.ah tm 18=.c (.int .i64 (.ofNat k))
  /\σ'.h σ.aj=some ⟨[.bool wn,.str ws,.str wd],none⟩/\σ'.h (σ.aj+1)=some ⟨bU m (λi=>if i<k then ac5 W q i else 0),none⟩/\σ'.h (σ.aj+1+1)=some ⟨[.bool (rn (aA k q)),.str (rs (aA k q)),.str (rd (aA k q))],none⟩/\σ'.h (σ.aj+1+1+1)=some ⟨[.bool (rn (qF (aA k q-W))),.str (rs (qF (aA k q-W))),.str (rd (qF (aA k q-W)))],none⟩
  /\Fr σ σ'/\σ.aj+1+1+1+1<=σ'.aj) m ?_ ?_
 .refine⟨0,jb,jb,?_⟩
  have e0:qF (0-W)=0:=by grind[qF]
  simp(disch:=try exact jz) only[go_sem,z3,ap]
  refine⟨?_,rfl,?_,fr,jb⟩
  .rw[sF]
  .show _=some (Bk.mk [.bool (rn (qF (0-W))),.str (rs (qF (0-W))),.str (rd (qF (0-W)))] none)
   rw[e0]
 .rintro x tm σ' ⟨k,rfl,hk,t2,t5,t6,t7,t16,t17,rP,q2,q5,q6,q7,hf,hnx⟩
  have hle:=hf.le
  simp(disch:=try exact jz) only[go_sem,z3,t2,t5,t6,t7,t16,t17,rP,aH]
  refine aJ (λhlt=>?_) (λhlt=>?_)
  .obtain⟨b5,o5,c5,rfl,-,bP⟩:=aZ.at3 hv hlt
   have bP:=hf.ld hW bP
   have hqk:=hq k hlt
   have hzk:=hqz k hlt
   have hzs:Zk D k (aA k q):=Zk.yK λi hi=>hqz i jb
   have z1:Sz (q k):=hzk.sz hD jb
   have z2:Sz (aA k q):=hzs.sz hD jb
   have z3':=(hzs.add hzk)
   have z4:Sz (aA k q+q k):=z3'.sz hD jb
   have z5:Sz W:=hWz.sz hD jb
   have z6:Sz (aA k q+q k-W):=(z3'.sub hWz).sz hD jb
   have z7:Sz (qF (aA k q+q k-W)):=(z3'.sub hWz).pq.sz hD jb
   have z8:Sz (qF (aA k q-W)):=(hzs.sub hWz).pq.sz hD jb
   have z9:=Sz.zero
   have z10:=Sz.zero.two
   have e1:qF (q k)=q k:=Ij hqk
   have e2:qF W=W:=Ij h0
   have jQ:=Fr.refl hf.wf
   simp(disch:=try exact jz) only[go_sem,z3,t2,t5,t6,t7,t16,t17,rP,bP,ak q2,ak q6,aI q6,ak q7,aI q7,aI q5,q5,q6,q7,Y2,e1,e2,hw,hp]
   refine⟨m-(k+1),jb,k+1,rfl,jb,rfl,q2,?_,rfl,rfl,fr,jb⟩
   exact bM (λl=>some (Bk.mk l none)) (nR m k (ac5 W q))
  .have:k=m:=jb
   subst this
   simp(disch:=try exact jz) only[go_sem,z3,t5]
   exact⟨⟨_,rfl,by rw[q5,uO],jb,jb⟩,hf⟩
def Y3{σ:St}(hW:WF σ){p p':Nat->Prop}{w1 w2 w3 L lv:B}{eH:List Ins.Lg}{n:Nat}{kk:Nat->Nat}{f:Nat->Nat->Rat}(hL:LJ p σ.h L eH)(hR:dN p' σ.h lv n kk f)(h1:w1.kn=true)(h2:w2.kn=true)(h3:w3.kn=true)(hl:eH.length<=1000)(Gp:∀j,j<eH.length->∃e c:Nat,ix eH j=⟨.ofNat e,.ofNat c⟩/\e<n/\c<kk e):
  aC EN 62 [.agg [w1,w2,w3,L],.c lv] σ λr σ'=>SV σ σ' r eH.length (λj=>f (yG (ix eH j)).1 (yG (ix eH j)).2)/\Fr σ σ':=by
 refine aN (sU.o _ _) sU.h ?_
 unfold sU
 dsimp only
 have hlen:=aZ.len hL
 have hLk:=aZ.kn hL
 have hFr:=Fr.refl hW
 simp(disch:=try exact jz) only[go_sem,z3,hlen,hLk,h1,h2,h3]
 refine aF (λx tm σ'=>∃j,x=eH.length-j/\j<=eH.length/\Tr.ah tm 1=.c lv/\Tr.ah tm 5=.c (.sl (σ.aj+1) 0 eH.length (.ex eH.length))/\Tr.ah tm 13=.c L/\Tr.ah tm 14=.c (.int .i64 (.ofNat eH.length))/\Tr.ah tm 15=.c (.int .i64 (.ofNat j))
  /\σ'.h (σ.aj+1)=some ⟨bU eH.length (λi=>if i<j then f (yG (ix eH i)).1 (yG (ix eH i)).2 else 0),none⟩/\Fr σ σ'/\σ.aj+1+1<=σ'.aj) eH.length ?_ ?_
 .refine⟨0,jb,jb,?_⟩
  simp(disch:=try exact jz) only[go_sem,z3,ap]
  exact⟨by rw[sF],fr,jb⟩
 .rintro x tm σ' ⟨j,rfl,hj,t1,t5,t13,t14,t15,q5,hf,hnx⟩
  have hle:=hf.le
  simp(disch:=try exact jz) only[go_sem,z3,t1,t5,t13,t14,t15,aH]
  refine aJ (λhlt=>?_) (λhlt=>?_)
  .obtain⟨b5,o5,c5,rfl,-,bP⟩:=aZ.pos hL jb
   have bP:=hf.ld hW (bP j hlt)
   obtain⟨e,c,Dz,he,hc⟩:=Gp j hlt
   obtain⟨b6,o6,c6,T,rfl,-,bJ,hT⟩:=hR.at he
   obtain⟨b7,o7,c7,rfl,-,dh⟩:=aZ.at3 hT hc
   have bJ:=hf.ld hW bJ
   have dh:=hf.ld hW dh
   have hb6:=hf.wf.dw bJ
   have hb7:=hf.wf.dw dh
   have jQ:=Fr.refl hf.wf
   unfold lgB at bP
   have hst:=nR eH.length j λi=>f (yG (ix eH i)).1 (yG (ix eH i)).2
   rw[show f (yG (ix eH j)).1 (yG (ix eH j)).2=f e c by rw[Dz];rfl]at hst
   rw[Dz]at bP
   simp(disch:=try exact jz) only[go_sem,z3,t1,t5,t13,t14,t15,bP,bJ,dh,q5,aI q5,hst]
   exact⟨eH.length-(j+1),jb,j+1,rfl,jb,rfl,rfl,fr,jb⟩
  .have:j=eH.length:=jb
   subst this
   simp(disch:=try exact jz) only[go_sem,z3,t5]
   exact⟨⟨_,rfl,by rw[q5,uO],jb,jb⟩,hf⟩
def amP{σ:St}(hW:WF σ){p:Nat->Prop}{v:B}{n:Nat}{f:Nat->Rat}(hv:jB p σ.h v n f)(hn:n<=1000)(hz:∀i,i<n->Sz (f i))(hs:∀i,i<=n->Sz (aA i f)):
  aC EN 24 [.c v] σ λr σ'=>r=.agg [.bool (rn (aA n f)),.str (rs (aA n f)),.str (rd (aA n f))]/\Fr σ σ':=by
 refine aN (vO.o _ _) vO.h ?_
 unfold vO
 dsimp only
 have hlen:=aZ.len hv
 have hFr:=Fr.refl hW
 simp(disch:=try exact jz) only[go_sem,z3,hlen]
 refine aF (λx tm σ'=>∃j,x=n-j/\j<=n/\Tr.ah tm 2=.c (.ptr σ.aj 0)/\Tr.ah tm 3=.c (.ptr (σ.aj+1) 0)/\Tr.ah tm 7=.c v/\Tr.ah tm 8=.c (.int .i64 (.ofNat n))/\Tr.ah tm 9=.c (.int .i64 (.ofNat j))
  /\σ'.h σ.aj=some ⟨[.bool (rn 0),.str (rs 0),.str (rd 0)],none⟩/\σ'.h (σ.aj+1)=some ⟨[.bool (rn (aA j f)),.str (rs (aA j f)),.str (rd (aA j f))],none⟩/\Fr σ σ'/\σ.aj+1+1<=σ'.aj) n ?_ ?_
 .refine⟨0,jb,jb,?_⟩
  simp(disch:=try exact jz) only[go_sem,z3,ap]
  exact⟨rfl,fr,jb⟩
 .rintro x tm σ' ⟨j,rfl,hj,t2,t3,t7,t8,t9,q2,q3,hf,hnx⟩
  have hle:=hf.le
  simp(disch:=try exact jz) only[go_sem,z3,t2,t3,t7,t8,t9,aH]
  refine aJ (λhlt=>?_) (λhlt=>?_)
  .obtain⟨b5,o5,c5,rfl,-,bP⟩:=aZ.at3 hv hlt
   have bP:=hf.ld hW bP
   have z1:=hz j hlt
   have z2:=hs j jb
   have jQ:=Fr.refl hf.wf
   simp(disch:=try exact jz) only[go_sem,z3,t2,t3,t7,t8,t9,bP,ak q3,q3,aI q3]
   exact⟨n-(j+1),jb,j+1,rfl,jb,rfl,q2,rfl,fr,jb⟩
  .have:j=n:=jb
   subst this
   simp(disch:=try exact jz) only[go_sem,z3,t2,t3,ak q3,q2,aI q2]
   exact fr
structure Fam(p:Nat->Prop)(h:Tr Bk)(nn bb:Nat->Nat)(GG:Nat->Nat->List B)(ee tt:Nat->Nat)(QQ:Nat->(Nat->Prop)->Tr Bk->Nat->Prop)(lo hi:Nat):Prop where
 g:∀k,wJ (nn k) h (bb k)=gF (nn k) (GG k) (ee k) (tt k)
 L:∀k,LG (GG k) (ee k)
 l1:∀k,lo<=bb k
 l2:∀k,nn k=0\/bb k<hi
 ne:∀k k',k≠k'->nn k=0\/nn k'=0\/bb k≠bb k'
 np:∀k,nn k=0\/¬p (bb k)
 q:∀k j,j<nn k->QQ k p h j
 pp:∀x,p x->lo<=x/\x<hi
section
variable {p p' : Nat→Prop} {h h' h1:Tr Bk} {nn bb:Nat→Nat} {GG GG' : Nat→Nat→List B} {ee tt:Nat→Nat} {QQ QQ' : Nat→(Nat→Prop)→Tr Bk→Nat→Prop} {lo hi:Nat}
theorem Fam.nil(hn:∀k,nn k=0)(hL:∀k,LG (GG k) (ee k)):Fam (λ_=>False) h nn (λ_=>lo) GG ee tt QQ lo hi:=
 ⟨λk=>by rw[hn k];rfl,hL,λ_=>jp,λk=>.inl (hn k),λk _ _=>.inl (hn k),λk=>.inl (hn k),λk j hj=>by grind,λ_ h=>h.elim⟩
def Fam.keep(ho:Fam p h nn bb GG ee tt QQ lo hi)(hQ:∀k j,QK (QQ k) j)(hh:∀b,lo<=b->b<hi->h' b=h b){hi':Nat}(h2:hi<=hi'):Fam p h' nn bb GG ee tt QQ lo hi':=by obtain⟨g,L,l1,l2,ne,np,q,pp⟩:=ho;refine⟨λk=>?_,L,l1,λk=>by grind,ne,np,λk j hj=>hQ k j _ _ _ _ (q k j hj) (λb hb=>hh b (pp b hb).1 (pp b hb).2) λ_ hb=>hb,λx hx=>by grind⟩;grind[Go.Proofs.Xe.uH]
def Fam.push(ho:Fam p h nn bb GG ee tt QQ lo hi)(k:Nat){hi1 nx n':Nat}(hp:∀x,p x->p' x)(hp2:∀x,p' x->p x\/hi<=x/\x<hi1)(hQ:∀k j,QK (QQ' k) j)(hQQ:∀k j,j<nn k->∀p h,QQ k p h j->QQ' k p h j)(hG:∀k j,j<nn k->GG' k j=GG k j)(hL:∀k,LG (GG' k) (ee k))
  (hx:QQ' k p' h1 (nn k)) (hh:∀x,lo<=x->x<hi->h1 x=h x) (h2:hi<=hi1) (h3:hi1<=nx) (h4:nx<n') (h5:lo<=hi){x:List B}(hb:h' nx=some ⟨dF (nn k) (GG k)++x,some (ee k,tt k)⟩) (hgn:x=GG' k (nn k)) (hk:∀c,lo<=c->c<hi1->nn k=0\/c≠bb k->h' c=h1 c):
  Fam p' h' (aT nn k (nn k+1)) (aT bb k nx) GG' ee tt QQ' lo n':=by
 obtain⟨g,L,l1,l2,ne,np,q,pp⟩:=ho
 have hp':∀b,p' b->lo<=b/\b<hi1/\(nn k=0\/b≠bb k):=λb hb=>by grind
 have hnp:∀k',nn k'=0\/¬p' (bb k'):=λk'=>by grind
 refine⟨λk'=>?_,hL,λk'=>?_,λk'=>?_,λa b hab=>?_,λk'=>?_,λk' j hj=>?_,λx hx=>by grind⟩
 .by_cases e:k'=k
  .subst e
   rw[aS,aS]
   show h' nx=some _
   grind[Go.Proofs.Xe.vM,Go.Proofs.Xe.dO,Go.Proofs.Xe.kJ]
  .rw[aW _ _ _ _ e,aW _ _ _ _ e]
   have h6:wJ (nn k') h' (bb k')=wJ (nn k') h (bb k'):=uH (by grind)
   rw[h6,g k']
   generalize hm:nn k'=m
   cases m with
   |zero=>rfl
   |succ m=>show some _=some _;grind[dO]
 .grind[aS,aW]
 .grind[aS,aW]
 .grind[aW,aS]
 .grind[aS,aW]
 .by_cases e:k'=k/\j=nn k
  .obtain⟨rfl,rfl⟩:=e
   exact hQ _ _ _ _ _ _ hx (λb hb=>hk b (hp' b hb).1 (hp' b hb).2.1 (hp' b hb).2.2) λ_ h=>h
  .have hj':j<nn k':=by
    by_cases e2:k'=k
    .subst e2;rw[aS]at hj;have:¬j=nn k':=λe3=>e ⟨rfl,e3⟩;omega
    .rwa[aW _ _ _ _ e2]at hj
   exact hQ _ _ _ _ _ _ (hQQ k' j hj' _ _ (q k' j hj')) (λb hb=>by have:=hp' b (hp b hb);rw[hk b this.1 this.2.1 this.2.2,hh b (pp b hb).1 (pp b hb).2]) hp
def Fam.hlp(ho:Fam p h nn bb GG ee tt QQ lo hi)(k:Nat)(he:0<ee k)(hk:∀j,j<nn k->(GG k j).all B.kn=true){q:Nat->Prop}(hq:∀b,lo<=b->b<hi->q b):aZ q h (ee k) (aQ (nn k) (bb k)) (nn k) (GG k):=by
 have g:=ho.g k;have hl:=ho.l2 k;have hL:=ho.L k;have hlo:=ho.l1 k;generalize nn k=n at*;cases n with
 |zero=>exact .inl ⟨rfl,rfl⟩
 |succ n=>exact bf _ g (DZ _ _ jb) (hq _ hlo jb) hL he hk
def Fam.keep'(ho:Fam p h nn bb GG ee tt QQ lo hi)(hQ:∀k j,QK (QQ k) j)(hp:∀b,p b->h' b=h b)(hh:∀k,nn k=0\/h' (bb k)=h (bb k)):Fam p h' nn bb GG ee tt QQ lo hi:=by obtain⟨g,L,l1,l2,ne,np,q,pp⟩:=ho;exact⟨λk=>(uH (hh k)).trans (g k),L,l1,l2,ne,np,λk j hj=>hQ k j _ _ _ _ (q k j hj) hp λ_ hb=>hb,pp⟩
structure sH(p:Nat->Prop)(h:Tr Bk)(nn bb:Nat->Nat)(GG:Nat->Nat->List B)(ee tt:Nat->Nat)(QQ:Nat->(Nat->Prop)->Tr Bk->Nat->Prop)(m:Nat)(kk:Nat->Nat)(C:Nat->Nat->List B)(bs:Nat->Nat)(lo hi:Nat):Prop where
 f:Fam p h nn bb GG ee tt QQ lo hi
 r:kD h m kk C bs lo hi
 w:∀j,j<m->¬p (bs j)
 n:∀j k,j<m->nn k=0\/bb k≠bs j
variable {m:Nat} {kk:Nat→Nat} {C:Nat→Nat→List B} {bs:Nat→Nat}
def sH.keep(ho:sH p h nn bb GG ee tt QQ m kk C bs lo hi)(hQ:∀k j,QK (QQ k) j)(hh:∀b,lo<=b->b<hi->h' b=h b){hi':Nat}(h2:hi<=hi'):sH p h' nn bb GG ee tt QQ m kk C bs lo hi':=
 ⟨ho.f.keep hQ hh h2,ho.r.mono hh jp h2,ho.w,ho.n⟩
def sH.push(ho:sH p h nn bb GG ee tt QQ m kk C bs lo hi)(k:Nat){hi1 nx n':Nat}(hp:∀x,p x->p' x)(hp2:∀x,p' x->p x\/hi<=x/\x<hi1)(hQ:∀k j,QK (QQ' k) j)(hQQ:∀k j,j<nn k->∀p h,QQ k p h j->QQ' k p h j)(hG:∀k j,j<nn k->GG' k j=GG k j)(hL:∀k,LG (GG' k) (ee k))
  (hx:QQ' k p' h1 (nn k)) (hh:∀x,lo<=x->x<hi->h1 x=h x) (h2:hi<=hi1) (h3:hi1<=nx) (h4:nx<n') (h5:lo<=hi){x:List B}(hb:h' nx=some ⟨dF (nn k) (GG k)++x,some (ee k,tt k)⟩) (hgn:x=GG' k (nn k)) (hk:∀c,lo<=c->c<hi1->nn k=0\/c≠bb k->h' c=h1 c):
  sH p' h' (aT nn k (nn k+1)) (aT bb k nx) GG' ee tt QQ' m kk C bs lo n':=by
 refine⟨ho.f.push k hp hp2 hQ hQQ hG hL hx hh h2 h3 h4 h5 hb hgn hk,ho.r.mono' (λj hj=>?_) jp jb,λj hj hb=>?_,λj i hj=>?_⟩
 .obtain⟨-,k2,k3⟩:=ho.r.r j hj
  have:=ho.n j k hj
  grind
 .obtain⟨-,k2,k3⟩:=ho.r.r j hj
  rcases hp2 _ hb with hb|hb
  .exact ho.w j hj hb
  .omega
 .obtain⟨-,k2,k3⟩:=ho.r.r j hj
  by_cases e:i=k
  .grind[aS]
  .rw[aW nn _ _ _ e,aW bb _ _ _ e];exact ho.n j i hj
def sH.pushRow(ho:sH p h nn bb GG ee tt QQ m kk C bs lo hi)(k:Nat){hi1 nx n' nb:Nat}(hQ:∀k j,QK (QQ' k) j)(hQQ:∀k j,j<nn k->∀p h,QQ k p h j->QQ' k p h j)(hG:∀k j,j<nn k->GG' k j=GG k j)(hL:∀k,LG (GG' k) (ee k))
  (hx:QQ' k p h1 (nn k)) (hh:∀x,lo<=x->x<hi->h1 x=h x) (h2:hi<=hi1) (h3:hi1<=nx) (h4:nx<n') (h5:lo<=hi){x:List B}(hb:h' nx=some ⟨dF (nn k) (GG k)++x,some (ee k,tt k)⟩) (hgn:x=GG' k (nn k)) (hk:∀c,lo<=c->c<hi1->nn k=0\/c≠bb k->h' c=h1 c)
  (h6:hi<=nb) (h7:nb<hi1) (hr:h' nb=some ⟨dF (kk m) (C m),none⟩):
  sH p h' (aT nn k (nn k+1)) (aT bb k nx) GG' ee tt QQ' (m+1) kk C (aT bs m nb) lo n':=by
 have hP:=ho.push k (p':=p) (λ_ h=>h) (λ_ h=>.inl h) hQ hQQ hG hL hx hh h2 h3 h4 h5 hb hgn hk
 refine⟨hP.f,ho.r.push hr rfl h6 jb jb λb h8 h9 ⟨i,hi,e⟩=>?_,λj hj=>?_,λj i hj=>?_⟩
 .have:=ho.n i k hi
  grind
 .by_cases e:j=m
  .subst e;rw[aS];exact λh=>by have:=ho.f.pp _ h;omega
  .rw[aW _ _ _ _ e];exact ho.w j jb
 .by_cases e:j=m
  .subst e
   rw[aS bs]
   by_cases e2:i=k
   .grind[aS]
   .rw[aW nn _ _ _ e2,aW bb _ _ _ e2]
    have:=ho.f.l2 i;omega
  .rw[aW bs _ _ _ e];exact hP.n j i jb
def sH.write(ho:sH p h nn bb GG ee tt QQ m kk C bs lo hi)(hQ:∀k j,QK (QQ k) j){j c:Nat}{x l:List B}(hj:j<m)(hl:l=dF (kk j) (kJ (C j) c x)):sH p (hset h (bs j) ⟨l,none⟩) nn bb GG ee tt QQ m kk (qg C j c x) bs lo hi:=by
 refine⟨ho.f.keep' hQ (λb hb=>au _ _ _ _ λe=>ho.w j hj (e▸hb)) (λk=>?_),ho.r.set hj hl,ho.w,ho.n⟩;rcases ho.n j k hj with e|e
 .omega
 grind[au]
theorem sH.grow(ho:sH p h nn bb GG ee tt QQ m kk C bs lo hi)(hQ:∀k j,QK (QQ k) j)(hh:∀b,lo<=b->b<hi->h' b=h b){hi':Nat}(h2:hi<=hi')(hp:∀x,p x->p' x)(hp2:∀x,p' x->p x\/hi<=x/\x<hi')(h3:lo<=hi):sH p' h' nn bb GG ee tt QQ m kk C bs lo hi':=by
 obtain⟨⟨g,L,l1,l2,ne,np,q,pp⟩,r,w,n⟩:=ho;refine⟨⟨λk=>?_,L,l1,λk=>by grind,ne,λk=>?_,λk j hj=>hQ k j _ _ _ _ (q k j hj) (λb hb=>hh b (pp b hb).1 (pp b hb).2) hp,λx hx=>?_⟩,r.mono hh jp h2,λj hj hb=>?_,n⟩
 .grind[Go.Proofs.Xe.uH]
 .grind
 .grind
 .obtain⟨-,k2,k3⟩:=r.r j hj;grind
def sH.same(ho:sH p h nn bb GG ee tt QQ m kk C bs lo hi)(k:Nat){hi1:Nat}(hh:∀x,lo<=x->x<hi->h1 x=h x)(h2:hi<=hi1)(hk:∀c,lo<=c->c<hi1->nn k=0\/c≠bb k->h' c=h1 c):∀x,p x->h' x=h x:=λx hx=>by
 have h3:=ho.f.pp x hx;rw[hk x h3.1 jb ?_,hh x h3.1 h3.2];rcases ho.f.np k with e|e
 .omega
 grind
end
def asV(p:Nat->Prop)(h:Tr Bk)(lv:B)(el:List Bc):Prop:=∃R P:Nat->B,aZ p h 6 lv el.length (λi=>je (ix el i).c.length (R i) (P i) (qp (ix el i) (ix el i).c.length))/\∀i,i<el.length->xA p h (R i) (P i) (dB (ix el i))
def ag4(p:Nat->Prop)(h:Tr Bk)(bv:B)(el:List Bc)(L:List fD):Prop:=∃T:Nat->B,aZ p h 1 bv el.length (λi=>[T i])/\∀i,i<el.length->aZ p h 1 (T i) (ix el i).c.length λc=>[.bool (L.contains (i,c))]
structure DC(p:Nat->Prop)(h:Tr Bk)(sb:Nat)(g:iD):Prop where
 s:∃ev dv lv bv,h sb=some ⟨[ev,dv,lv,bv],none⟩/\xK p h ev dv g/\asV p h lv g.e/\ag4 p h bv g.e (aY g).eH
 b:p sb
def DC.keep{p q:Nat->Prop}{h h':Tr Bk}{sb:Nat}{g:iD}(hs:DC p h sb g)(hk:∀b,p b->h' b=h b)(hp:∀b,p b->q b):DC q h' sb g:=by obtain⟨⟨ev,dv,lv,bv,h1,h2,⟨R,P,h3,h4⟩,T,h5,h6⟩,hb⟩:=hs;exact⟨⟨ev,dv,lv,bv,by rw[hk _ hb];exact h1,h2.keep hk hp,⟨R,P,h3.keep hk hp,λi hi=>(h4 i hi).keep hk hp⟩,T,h5.keep hk hp,λi hi=>(h6 i hi).keep hk hp⟩,hp _ hb⟩
theorem DC.fr{σ σ':St}(hf:Fr σ σ'){sb:Nat}{g:iD}(hs:DC (Lt σ.aj) σ.h sb g):DC (Lt σ'.aj) σ'.h sb g:=hs.keep (λb hb=>hf.old b hb) λb hb=>aD hb hf.le
def zN(i:Nat):Nat->Nat:=λk=>if k=2\/k=3 then i else 0
def kE(el:List Bc)(i:Nat):Nat:=(ix el i).c.length
def bG(el:List Bc)(R P:Nat->B)(bs:Nat->Nat):Nat->Nat->List B
 |2=>λi=>je (ix el i).c.length (R i) (P i) (qp (ix el i) (ix el i).c.length)
 |3=>λi=>[wL (kE el) bs i]
 |_=>λ_=>[]
def bE:Nat->Nat
 |2=>6
 |3=>1
 |_=>0
def bT:Nat->Nat
 |2=>113
 |3=>32
 |_=>0
def bQ(el:List Bc)(R P:Nat->B):Nat->(Nat->Prop)->Tr Bk->Nat->Prop
 |2=>λp h i=>xA p h (R i) (P i) (dB (ix el i))
 |_=>NoQ
def ag5(el:List Bc)(R P:Nat->B)(bs:Nat->Nat)(k:Nat):LG (bG el R P bs k) (bE k):=by intro j;unfold bG bE;split<;>rfl
def ac7(el:List Bc)(R P:Nat->B)(k j:Nat):QK (bQ el R P k) j:=by
 unfold bQ;split
 .exact λ_ _ _ _ hp hk hq=>hp.keep hk hq
 .exact IX j
def Nh(L:List fD)(i c:Nat):List B:=[.bool (L.contains (i,c))]
abbrev Y4(el:List Bc)(p:Nat->Prop)(h:Tr Bk)(nn bb:Nat->Nat)(R P:Nat->B)(bs:Nat->Nat)(m:Nat)(L:List fD)(lo hi:Nat):Prop:=sH p h nn bb (bG el R P bs) bE bT (bQ el R P) m (kE el) (Nh L) bs lo hi
def ac8(i:Nat):aT (aT (zN i) 2 (zN i 2+1)) 3 (aT (zN i) 2 (zN i 2+1) 3+1)=zN (i+1):=by grind[aT,zN]
theorem V4{kk bs:Nat->Nat}{m nb j:Nat}(h:j≠m):wL kk (aT bs m nb) j=wL kk bs j:=by grind[wL,aW]
def aaU(i k:Nat):zN i k<=i:=by grind[zN]
def apG{el:List Bc}{R P:Nat->B}{i j:Nat}(h:j<i)(rv pv:B)(k:Nat)(p:Nat->Prop)(H:Tr Bk)(hq:bQ el R P k p H j):bQ el (aT R i rv) (aT P i pv) k p H j:=by
 unfold bQ at hq⊢;split
 .grind[aW]
 .trivial
def apI{el:List Bc}{R P:Nat->B}{bs:Nat->Nat}{i j:Nat}(h:j<i)(rv pv:B)(k:Nat):bG el (aT R i rv) (aT P i pv) bs k j=bG el R P bs k j:=by unfold bG;grind[aW]
def apJ{el:List Bc}{R P:Nat->B}{bs:Nat->Nat}{m nb j:Nat}(k:Nat)(h:k=3->j<m):bG el R P (aT bs m nb) k j=bG el R P bs k j:=by unfold bG;grind[V4]
def qw{n:Nat}(h:0<n)(b:Nat):aQ n b=.sl b 0 n .opn:=by
 cases n with
 |zero=>omega
 |succ n=>rfl
def Aa(dl:List D5)(j:Nat):List fD:=(dl.take j).flatMap λd=>d.l.map yG
def Y5{dl:List D5}{j:Nat}(h:j<dl.length):Aa dl (j+1)=Aa dl j++(ix dl j).l.map yG:=by grind[Aa,bD]
def ac9(g:iD):Aa g.d g.d.length=(aY g).eH:=by grind[Aa,GL.eH,aY,List.flatMap_map]
def ada(L:List fD)(e c:Nat):qg (Nh L) e c [.bool true]=Nh (L++[(e,c)]):=by grind[qg,Nh]
def amQ(nc:Nat)(al:List iK)(x:Eh):Prop:=((x.k=-1/\x.b=true)\/∃i:Nat,i<nc/\x.k=(i:Int)/\amI al x.k)/\∃w:Nat,w<=16/\x.a=Dt ((Int.ofNat w:Int):Rat)
def amR(nc:Nat)(al:List iK)(t:List Eh):Prop:=∀k,k<t.length->amQ nc al (ix t k)
structure TI(σ σ':St)(tb i nc:Nat)(al:List iK)(ts:Nat->List Eh)(bs:Nat->Nat):Prop where
 b:σ'.h tb=some ⟨ones 3 (λt=>apr (ts t) (bs t)),none⟩
 f:auV σ'.h 3 Jb 5 97 ts bs (tb+1) σ'.aj
 g:∀t,t<3->amR nc al (ts t)
 l:∀t,t<3->(ts t).length<=i
 n:tb+1<=σ'.aj
 fr:Fr σ σ'
section
variable {σ σ' : St} {tb i nc:Nat} {al:List iK} {ts:Nat→List Eh} {bs:Nat→Nat}
end
def auY(dl:List D5)(i c:Int):Prop:=∀j,j<dl.length->∀t,t<(ix dl j).l.length->¬((ix (ix dl j).l t).e=i/\(ix (ix dl j).l t).k=c)
structure LI(σ σ':St)(ev dv:B)(d0 d1 d2:Nat)(w:Rat)(l:List Ins.Lg)(bl:Nat):Prop where
 q1:σ'.h σ.aj=some ⟨[ev,dv],none⟩
 q2:σ'.h (σ.aj+1)=some ⟨[.int .u16 (.ofNat d0),.int .u16 (.ofNat d1),.int .u16 (.ofNat d2)],none⟩
 b:σ'.h (σ.aj+1+1)=some ⟨[.bool (rn w),.str (rs w),.str (rd w),apr l bl],none⟩
 lb:0<l.length->σ'.h bl=some ⟨dF l.length (λk=>lgB (ix l k)),some (2,68)⟩/\σ.aj+1+1+1<=bl/\bl<σ'.aj
 n:l.length<=4
 nx:σ.aj+1+1+1<=σ'.aj
 fr:Fr σ σ'
structure LgO(el:List Bc)(dl:List D5)(i j:Nat)(hv:Int)(l:List Ins.Lg):Prop where
 r:∀x∈l,∃e k:Nat,x=⟨.ofNat e,.ofNat k⟩/\e<el.length/\k<(ix el e).c.length/\auY dl (.ofNat e) (.ofNat k)/\holdL el x=hv/\(e<i\/e=i/\k<j)
 nd:l.Nodup
def LGf(el:List Bc)(dl:List D5)(l:List Ins.Lg):Prop:=∃hv,LgO el dl el.length 0 hv l
section
variable {el:List Bc} {dl:List D5} {i j:Nat} {hv hv' : Int} {l:List Ins.Lg}
end
section
variable {σ σ' : St} {ev dv:B} {d0 d1 d2:Nat} {w:Rat} {l:List Ins.Lg} {bl:Nat}
end
def D6.at{p:Nat->Prop}{h:Tr Bk}{v:B}{el:List Bc}(hE:D6 p h v el){i:Nat}(hi:i<el.length):∃b o c,v=.sl b o el.length c/\∃C A:B,ld h b (o+i*5) 5 true=some (.agg [.bool (ix el i).m.n,.str (ix el i).m.s,.str (ix el i).m.d,C,A])/\ld h b (o+i*5+3) 1 false=some (.c C)/\FQ p h C (ix el i).c/\mJ p h A (ix el i).a:=by obtain⟨C,A,h1,h2⟩:=hE;obtain⟨b,o,c,e,-,hld⟩:=h1.pos jb;refine⟨b,o,c,e,C i,A i,hld i hi,?_,h2 i hi⟩;rw[Ba (hld i hi) 3 1 false jj jj];unfold Au;have:=(h2 i hi).1.kn;simp[this]
def D6.len{p:Nat->Prop}{h:Tr Bk}{v:B}{l:List Bc}(hl:D6 p h v l):lenV (.c v)=some (.c (.int .i64 (.ofNat l.length))):=hl.choose_spec.choose_spec.1.len
def wW.el{p:Nat->Prop}{h:Tr Bk}{v:B}{dl:List D5}(hD:wW p h v dl){i:Nat}(hi:i<dl.length):∃b o c,v=.sl b o dl.length c/\∃T:B,ld h b (o+i*4) 4 true=some (.agg [.bool (ix dl i).w.n,.str (ix dl i).w.s,.str (ix dl i).w.d,T])/\LJ p h T (ix dl i).l:=by obtain⟨L,h1,h2⟩:=hD;obtain⟨b,o,c,e,-,hld⟩:=h1.pos jb;exact⟨b,o,c,e,L i,hld i hi,h2 i hi⟩
def wW.len{p:Nat->Prop}{h:Tr Bk}{v:B}{dl:List D5}(hD:wW p h v dl):lenV (.c v)=some (.c (.int .i64 (.ofNat dl.length))):=hD.choose_spec.1.len
structure V5(A:Nat)(g:iD):Prop where
 n:g.e.length<=1000
 d:g.d.length<=1000
 e:∀i,i<g.e.length->agZ A (ix g.e i)
 l:∀d,d<g.d.length->(ix g.d d).l.length<=1000
 lg:∀d,d<g.d.length->∀k,k<(ix g.d d).l.length->∃e c:Nat,ix (ix g.d d).l k=⟨.ofNat e,.ofNat c⟩/\e<g.e.length/\c<(ix g.e e).c.length
def V6(ev dv:B)(n:Nat)(bb:Nat->Nat):List B:=[ev,dv,aQ n (bb 2),aQ n (bb 3)]
def aaV{σ:St}(hW:WF σ){p:Nat->Prop}{ev dv:B}(g:iD)(hg:xK p σ.h ev dv g){A:Nat}(hA:Ah A)(hO:V5 A g):
  aC EN 31 [.agg [ev,dv]] σ λr σ'=>(∃sb,r=.c (.ptr sb 0)/\DC (Lt σ'.aj) σ'.h sb g)/\Fr σ σ':=by
 refine aN (qU.o _ _) qU.h ?_
 unfold qU
 dsimp only
 have hek:=hg.e.kn
 have hdk:=hg.d.kn
 have hlenE:=hg.e.len
 have hlenD:=hg.d.len
 have hne:=hO.n
 have hnd:=hO.d
 have hFr:=Fr.refl hW
 simp(disch:=try exact jz) only[go_sem,z3,hek,hdk,hlenE]
 refine bK.mono (Q:=λex tm σ'=>ex=.exit 0/\∃p bb R P bs,Tr.ah tm 1=.c (.ptr σ.aj 0)/\Tr.ah tm 3=.c (.ptr (σ.aj+1) 0)/\σ'.h σ.aj=some ⟨[ev,dv],none⟩/\σ'.h (σ.aj+1)=some ⟨V6 ev dv g.e.length bb,none⟩
   /\Y4 g.e p σ'.h (zN g.e.length) bb R P bs g.e.length [] (σ.aj+1+1) σ'.aj/\Fr σ σ'/\σ.aj+1+1<=σ'.aj)
  (aF (λq tm σ'=>∃i p bb R P bs,q=g.e.length-i/\i<=g.e.length/\Tr.ah tm 1=.c (.ptr σ.aj 0)/\Tr.ah tm 3=.c (.ptr (σ.aj+1) 0)/\Tr.ah tm 14=.c ev/\Tr.ah tm 15=.c (.int .i64 (.ofNat g.e.length))/\Tr.ah tm 16=.c (.int .i64 (.ofNat i))/\σ'.h σ.aj=some ⟨[ev,dv],none⟩/\σ'.h (σ.aj+1)=some ⟨V6 ev dv i bb,none⟩
   /\Y4 g.e p σ'.h (zN i) bb R P bs i [] (σ.aj+1+1) σ'.aj/\Fr σ σ'/\σ.aj+1+1<=σ'.aj) g.e.length ?_ ?_) ?_
 .refine⟨0,λ_=>False,λ_=>σ.aj+1+1,λ_=>.bg,λ_=>.bg,λ_=>0,jb,jb,?_⟩
  simp(disch:=try exact jz) only[go_sem,z3,ap]
  refine⟨rfl,⟨Fam.nil (λk=>?_) (ag5 _ _ _ _),kD.nil _ _ _ _ _ _,λj hj=>jb,λj k hj=>jb⟩,fr,jb⟩
  unfold zN;split<;>rfl
 .rintro q tm σ' ⟨i,p,bb,R,P,bs,rfl,hi,t1,t3,t14,t15,t16,q0,q1,hS,hf,hnx⟩
  have hle:=hf.le
  simp(disch:=try exact jz) only[go_sem,z3,t1,t3,t14,t15,t16,aH]
  refine aJ (λhlt=>?_) (λhlt=>?_)
  .obtain⟨b5,o5,c5,rfl,C1,A1,bP,-,hC,hA1⟩:=hg.e.at hlt
   have bP:=hf.ld hW bP
   have V3:=aZ.kn hC
   have hAk:=hA1.kn
   have hlo2:=hS.f.l1 2
   have hlo3:=hS.f.l1 3
   have hhi2:i=0\/bb 2<σ'.aj:=hS.f.l2 2
   have hhi3:i=0\/bb 3<σ'.aj:=hS.f.l2 3
   have asW:i=0\/i=0\/bb 2≠bb 3:=hS.f.ne 2 3 jj
   unfold V6 at q1
   refine Gn (run_seq (CP (Nc (λtm σ5=>∃p bb R P,Tr.ah tm 1=.c (.ptr σ.aj 0)/\Tr.ah tm 3=.c (.ptr (σ.aj+1) 0)/\Tr.ah tm 5=.c (.ptr σ'.aj 0)/\Tr.ah tm 14=.c (.sl b5 o5 g.e.length c5)/\Tr.ah tm 15=.c (.int .i64 (.ofNat g.e.length))/\Tr.ah tm 16=.c (.int .i64 (.ofNat i))
     /\σ5.h σ.aj=some ⟨[.sl b5 o5 g.e.length c5,dv],none⟩/\σ5.h (σ.aj+1)=some ⟨[.sl b5 o5 g.e.length c5,dv,aQ (i+1) (bb 2),aQ i (bb 3)],none⟩/\σ5.h σ'.aj=some ⟨[.bool (ix g.e i).m.n,.str (ix g.e i).m.s,.str (ix g.e i).m.d,C1,A1],none⟩/\Y4 g.e p σ5.h (aT (zN i) 2 (zN i 2+1)) bb R P bs i [] (σ.aj+1+1) σ5.aj/\Fr σ σ5/\σ'.aj<σ5.aj) ?_ ?_)))
   .have jQ:=Fr.refl hf.wf
    simp(disch:=try exact jz) only[go_sem,z3,t1,t3,t14,t15,t16,bP,V3,hAk,ak q1]
    refine aC.st (Fr σ') (fr) λgZ=>?_
    have hf5:=hf.trans gZ
    refine(asT gZ.wf (aZ.fr hW hf5 hC) (hA1.fr hW hf5) rfl rfl rfl hA (hO.e i hlt)).mono ?_
    rintro _ σ6 ⟨⟨rv,pv,rfl,hL⟩,gX⟩
    have kH:=gZ.trans gX
    have YZ:=hf.trans kH
    have yI:σ'.aj+1<=σ6.aj:=gX.le
    have q06:=kH.get hf.wf q0
    have q16:=kH.get hf.wf q1
    have q56:σ6.h σ'.aj=some ⟨[.bool (ix g.e i).m.n,.str (ix g.e i).m.s,.str (ix g.e i).m.d,C1,A1],none⟩:=gX.get gZ.wf (aB _ _ _)
    have hrk:=hL.rk.kn
    have hpk:=hL.Ua
    have hS6:=hS.keep (ac7 _ _ _) (λb _ hb=>kH.old b hb) jp
    have hg6:wJ i σ6.h (bb 2)=gF i (bG g.e R P bs 2) 6 113:=hS6.f.g 2
    have hLG:LG (bG g.e R P bs 2) 6:=ag5 _ _ _ _ 2
    unfold je
    simp(disch:=try exact jz) only[go_sem,z3,t1,t3,t14,t15,t16,hrk,hpk,ak q16,q16,hg6]
    refine⟨λb=>p b\/σ'.aj<=b/\b<σ6.aj,aT bb 2 (σ6.aj+1),aT R i rv,aT P i pv,?_⟩
    and_intros<;>try(first|rfl|omega|exact q06|exact q56|exact fr)
    refine hS.push 2 (hi1:=σ6.aj) (h1:=σ6.h) (λx h=>.inl h) (λx h=>h) (ac7 _ _ _) (λk j hj p h hq=>apG (aD hj (aaU i k)) rv pv k p h hq) (λk j hj=>apI (aD hj (aaU i k)) rv pv k) (ag5 _ _ _ _) ?_ (λb _ hb=>kH.old b hb) jb jb jb hnx
     (x:=je (ix g.e i).c.length rv pv (qp (ix g.e i) (ix g.e i).c.length)) ?_ ?_ λc h1 h2 h3=>?_
    .show xA _ _ (aT R i rv i) (aT P i pv i) _
     rw[aS,aS]
     exact hL.keep (λ_ _=>rfl) λb hb=>.inr ⟨ag (ec _) hb.1,hb.2⟩
    .rw[au _ _ _ _ jb,aB];rfl
    .show _=je _ (aT R i rv i) (aT P i pv i) _
     rw[aS,aS];rfl
    .rw[au _ _ _ _ jb,au _ _ _ _ jb,gI i _ _ _ h3,au _ _ _ _ jb]
   .rintro tm5 σ5 ⟨p5,lI,R5,P5,t1,t3,t5,t14,t15,t16,q0,q1,q5,hS5,hf5,hn5⟩
    have yJ:=hf5.le
    have hlo2:=hS5.f.l1 2
    have hlo3:=hS5.f.l1 3
    have hhi2:i+1=0\/lI 2<σ5.aj:=hS5.f.l2 2
    have hhi3:i=0\/lI 3<σ5.aj:=hS5.f.l2 3
    have asW:i+1=0\/i=0\/lI 2≠lI 3:=hS5.f.ne 2 3 jj
    have hg5:wJ i σ5.h (lI 3)=gF i (bG g.e R5 P5 bs 3) 1 32:=hS5.f.g 3
    have hLG:LG (bG g.e R5 P5 bs 3) 1:=ag5 _ _ _ _ 3
    have hnc:=(hO.e i hlt).nc
    have hlC:=aZ.len hC
    have En:=Fr.refl hf5.wf
    simp(disch:=try exact jz) only[go_sem,z3,t1,t3,t5,t14,t15,t16,hlC,V3,hAk,ak q1,ak q5,q1,hg5]
    refine⟨g.e.length-(i+1),jb,i+1,p5,aT lI 3 (σ5.aj+1+1),R5,P5,aT bs i σ5.aj,rfl,jb,rfl,q0,rfl,?_,fr,jb⟩
    rw[<-ac8]
    refine hS5.pushRow 3 (hi1:=σ5.aj+1) (nb:=σ5.aj) (h1:=hset σ5.h σ5.aj ⟨dF (kE g.e i) (Nh [] i),none⟩) (ac7 _ _ _) (λk j hj p h hq=>hq) (λk j hj=>apJ (m:=i) k λe=>by subst e;exact hj) (ag5 _ _ _ _) trivial (λb _ hb=>au _ _ _ _ jb) jb jb jb jb (x:=[wL (kE g.e) (aT bs i σ5.aj) i]) ?_ rfl (λc h1 h2 h3=>?_) jb jb ?_
    .rw[au _ _ _ _ jb,aB]
     unfold wL
     rw[aS];rfl
    .rw[au _ _ _ _ jb,au _ _ _ _ jb,gI i _ _ _ h3,au _ _ _ _ jb];rfl
    .rw[au _ _ _ _ jb,au _ _ _ _ jb,gI _ _ _ _ jb,au _ _ _ _ jb,aB];rfl
  .have:i=g.e.length:=jb
   subst this
   simp(disch:=try exact jz) only[go_sem,z3,ap]
   exact⟨p,bb,R,P,bs,t1,t3,q0,q1,hS,hf,hnx⟩
 rintro _ tm σ2 ⟨rfl,p2,bb,R,P,bs,t1,t3,q0,q1,hS,hf,hnx⟩
 have hle:=hf.le
 have awj:∀k,bb k<σ2.aj\/zN g.e.length k=0:=λk=>(hS.f.l2 k).symm
 simp(disch:=try exact jz) only[go_sem,z3,t1,t3,ak q0,hdk,hlenD]
 refine bK.mono (Q:=λex tm σ'=>ex=.exit 2/\Tr.ah tm 3=.c (.ptr (σ.aj+1) 0)/\σ'.h (σ.aj+1)=some ⟨V6 ev dv g.e.length bb,none⟩/\Y4 g.e p2 σ'.h (zN g.e.length) bb R P bs g.e.length (Aa g.d g.d.length) (σ.aj+1+1) σ'.aj/\Fr σ σ'/\σ.aj+1+1<=σ'.aj)
  (aF (λq tm σ'=>∃j,q=g.d.length-j/\j<=g.d.length/\Tr.ah tm 3=.c (.ptr (σ.aj+1) 0)/\Tr.ah tm 46=.c dv/\Tr.ah tm 47=.c (.int .i64 (.ofNat g.d.length))/\Tr.ah tm 48=.c (.int .i64 (.ofNat j))
   /\σ'.h (σ.aj+1)=some ⟨V6 ev dv g.e.length bb,none⟩/\Y4 g.e p2 σ'.h (zN g.e.length) bb R P bs g.e.length (Aa g.d j) (σ.aj+1+1) σ'.aj/\Fr σ σ'/\σ.aj+1+1<=σ'.aj) g.d.length ?_ ?_) ?_
 .refine⟨0,jb,jb,?_⟩
  simp(disch:=try exact jz) only[go_sem,z3,t3,ap]
  exact⟨q1,hS,hf,hnx⟩
 .rintro q tm σ' ⟨j,rfl,hj,t3,t46,t47,t48,q1,hS,hf,hnx⟩
  have hle:=hf.le
  simp(disch:=try exact jz) only[go_sem,z3,t3,t46,t47,t48,aH]
  refine aJ (λhlt=>?_) (λhlt=>?_)
  .obtain⟨b5,o5,c5,rfl,T1,bP,hT⟩:=hg.d.el hlt
   have bP:=hf.ld hW bP
   have hTk:=aZ.kn hT
   have hlT:=aZ.len hT
   have hll:=hO.l j hlt
   have jQ:=Fr.refl hf.wf
   simp(disch:=try exact jz) only[go_sem,z3,t3,t46,t47,t48,bP,hTk,hlT]
   refine bK.st (Fr σ') (fr) λhF3=>?_
   have hf3:=hf.trans hF3
   have hS3:=hS.keep (ac7 _ _ _) (λb _ hb=>hF3.old b hb) hF3.le
   have q13:=hF3.get hf.wf q1
   have hle3:=hF3.le
   refine bK.mono (Q:=λex tm σ4=>ex=.exit 4/\Tr.ah tm 3=.c (.ptr (σ.aj+1) 0)/\Tr.ah tm 46=.c (.sl b5 o5 g.d.length c5)/\Tr.ah tm 47=.c (.int .i64 (.ofNat g.d.length))/\Tr.ah tm 48=.c (.int .i64 (.ofNat j))/\σ4.h (σ.aj+1)=some ⟨V6 ev (.sl b5 o5 g.d.length c5) g.e.length bb,none⟩/\Y4 g.e p2 σ4.h (zN g.e.length) bb R P bs g.e.length (Aa g.d (j+1)) (σ.aj+1+1) σ4.aj/\Fr σ σ4/\σ.aj+1+1<=σ4.aj)
    (aF (λq tm σ4=>∃t,q=(ix g.d j).l.length-t/\t<=(ix g.d j).l.length/\Tr.ah tm 3=.c (.ptr (σ.aj+1) 0)/\Tr.ah tm 46=.c (.sl b5 o5 g.d.length c5)/\Tr.ah tm 47=.c (.int .i64 (.ofNat g.d.length))/\Tr.ah tm 48=.c (.int .i64 (.ofNat j))/\Tr.ah tm 53=.c T1/\Tr.ah tm 54=.c (.int .i64 (.ofNat (ix g.d j).l.length))/\Tr.ah tm 55=.c (.int .i64 (.ofNat t))
     /\σ4.h (σ.aj+1)=some ⟨V6 ev (.sl b5 o5 g.d.length c5) g.e.length bb,none⟩/\Y4 g.e p2 σ4.h (zN g.e.length) bb R P bs g.e.length (Aa g.d j++((ix g.d j).l.take t).map yG) (σ.aj+1+1) σ4.aj/\Fr σ σ4/\σ.aj+1+1<=σ4.aj) (ix g.d j).l.length ?_ ?_) ?_
   .refine⟨0,jb,jb,?_⟩
    simp(disch:=try exact jz) only[go_sem,z3,t3,t46,t47,t48,ap,cE,List.map_nil,dc]
    exact⟨q1,hS3,hf3,jb⟩
   .rintro q tm σ4 ⟨t,rfl,ht,t3,t46,t47,t48,t53,t54,t55,V7,hS4,hf4,hn4⟩
    have yH:=hf4.le
    simp(disch:=try exact jz) only[go_sem,z3,t3,t46,t47,t48,t53,t54,t55,aH]
    refine aJ (λhlt4=>?_) (λhlt4=>?_)
    .obtain⟨b6,o6,c6,rfl,-,bJ⟩:=aZ.pos hT jb
     have bJ:=hf4.ld hW (bJ t hlt4)
     obtain⟨e,c,Dz,he,hc⟩:=hO.lg j hlt t hlt4
     unfold lgB at bJ
     rw[Dz]at bJ
     have hrow:ld σ4.h (bb 3) (0+e*1) 1 false=some (.c (wL (kE g.e) bs e)):=by obtain⟨b7,o7,c7,e7,-,dh⟩:=aZ.pos (hS4.f.hlp 3 (q:=λ_=>True) jj (λ_ _=>rfl) λ_ _ _=>trivial) (show 0<zN g.e.length 3 by show 0<g.e.length;omega);have e8:aQ g.e.length (bb 3)=.sl b7 o7 g.e.length c7:=e7;rw[qw jb]at e8;cases e8;exact(zG (dh e he)).1
     unfold wL kE at hrow
     rw[cK]at hrow
     obtain⟨hr1,hr2,hr3⟩:=hS4.r.r e he
     have hr1:σ4.h (bs e)=some ⟨ones (ix g.e e).c.length λc=>.bool ((Aa g.d j++((ix g.d j).l.take t).map yG).contains (e,c)),none⟩:=hr1
     have hb3:=hS4.f.l1 3
     have akW:bb 3<σ4.aj:=by rcases hS4.f.l2 3 with h|h;exact absurd (show g.e.length=0 from h) jb;exact h
     have Em:=Fr.refl hf4.wf
     have hfp:=qw (show 0<g.e.length by omega) (bb 3)
     have apL:=V7
     unfold V6 at apL
     rw[hfp]at apL
     simp(disch:=try exact jz) only[go_sem,z3,t3,t46,t47,t48,t53,t54,t55,bJ,ak apL,hrow,aI hr1,hr1]
     refine⟨(ix g.d j).l.length-(t+1),jb,t+1,rfl,jb,rfl,V7,?_,fr,jb⟩
     have e9:Aa g.d j++((ix g.d j).l.take (t+1)).map yG=(Aa g.d j++((ix g.d j).l.take t).map yG)++[(e,c)]:=by rw[bD hlt4,List.map_append,gN,Dz];rfl
     rw[e9]
     show sH _ _ _ _ _ _ _ _ _ _ (Nh _) _ _ _
     rw[<-ada]
     refine(hS4.keep (h':=hset (hset σ4.h σ4.aj ⟨[i0,i0],none⟩) σ4.aj ⟨[.int .i64 (.ofNat e),.int .i64 (.ofNat c)],none⟩) (ac7 _ _ _) (λb _ hb=>by rw[au _ _ _ _ jb,au _ _ _ _ jb]) (ec _)).write (ac7 _ _ _) he (dO λc' _=>?_)
     unfold kJ aT Nh
     split<;>rfl
    .have:t=(ix g.d j).l.length:=jb
     subst this
     simp(disch:=try exact jz) only[go_sem,z3,ap]
     rw[bX,<-Y5 hlt]at hS4
     exact⟨t3,t46,t47,t48,V7,hS4,hf4,hn4⟩
   .rintro _ tm σ4 ⟨rfl,t3,t46,t47,t48,V7,hS4,hf4,hn4⟩
    simp(disch:=try exact jz) only[go_sem,z3,t3,t46,t47,t48]
    exact⟨g.d.length-(j+1),jb,j+1,rfl,jb,rfl,V7,hS4,hf4,hn4⟩
  .have:j=g.d.length:=jb
   subst this
   simp(disch:=try exact jz) only[go_sem,z3,ap]
   exact⟨t3,q1,hS,hf,hnx⟩
 rintro _ tm σ3 ⟨rfl,t3,q1,hS,hf,hnx⟩
 have hle:=hf.le
 simp(disch:=try exact jz) only[go_sem,z3,t3]
 refine⟨⟨_,rfl,⟨_,_,_,_,q1,(hg.fr hW hf).keep (λ_ _=>rfl) λb hb=>aD hb hf.le,⟨R,P,?_,λi hi=>?_⟩,?_⟩,by show _<_;omega⟩,hf⟩
 .refine(hS.f.hlp 2 jj (λj hj=>?_) λb _ h2=>h2)
  have:=hS.f.q 2 j hj
  show List.all (je _ _ _ _) B.kn=true
  unfold je
  have h1:(R j).kn=true:=xA.rk this|>.kn
  have h2:(P j).kn=true:=xA.Ua this
  simp only[dp,fv,afm,Jt,QT,h1,h2,eY]
 .exact xA.keep (hS.f.q 2 i hi) (λ_ _=>rfl) λb hb=>(hS.f.pp b hb).2
 .refine⟨λi=>wL (kE g.e) bs i,hS.f.hlp 3 jj (λ_ _=>rfl) λb _ h2=>h2,λi hi=>?_⟩
  rw[<-ac9]
  exact hS.r.hlp (λb _ h2=>h2) jj (λ_ _=>rfl) (λ_ _ _ _=>rfl) hi
end Go.Proofs.Xe
