import Derived.Test.YthkggcakedkboaaGreatDoorYd25
set_option linter.all false
set_option maxRecDepth 100000
set_option maxHeartbeats 8000000
namespace Go.Proofs.Ins
def Jp(W:Rat)(q:fA->Rat):Rat->List fA->fA->Rat
 |_,[],_=>0
 |Q,a::t,l=>(if a=l then rU (Q+q a-W)-rU (Q-W)else 0)+Jp W q (Q+q a) t l
def Jq(g:GL)(x:Nat->Rat)(l:fA):Rat:=aJ g.ds λd=>Jp d.1 (gq g x) 0 d.2 l
def aao(g:GL)(x:Nat->Rat)(l:fA):Rat:=gq g x l-Jq g x l
def aey(W:Rat)(q:fA->Rat)(Q:Rat)(a:fA)(t:List fA)(l:fA):Jp W q Q (a::t) l=(if a=l then rU (Q+q a-W)-rU (Q-W)else 0)+Jp W q (Q+q a) t l:=rfl
def UM{W:Rat}{q:fA->Rat}{l:fA}:∀{t:List fA}{Q:Rat},l∉t->Jp W q Q t l=0
 |[],_,_=>rfl
 |a::t,Q,h=>by unfold Jp;rw[ae (λe=>h (by simp[e])),UM (λhl=>h (by simp[hl]))];exact eh 0
def Q7{W:Rat}{q:fA->Rat}{l a:fA}:∀{t:List fA}{Q:Rat},Jp W q Q (t++[a]) l=Jp W q Q t l+if a=l then rU (Q+aJ t q+q a-W)-rU (Q+aJ t q-W)else 0
 |[],Q=>by show(if a=l then rU (Q+q a-W)-rU (Q-W)else 0)+0=0+if a=l then rU (Q+0+q a-W)-rU (Q+0-W)else 0;grind
 |b::t,Q=>by rw[gx];unfold Jp;rw[Q7];show _=_+if a=l then rU (Q+(q b+aJ t q)+q a-W)-rU (Q+(q b+aJ t q)-W)else 0;rw[show Q+(q b+aJ t q)=Q+q b+aJ t q by grind];grind
section
variable {n:Nat} {g:GL}
end
end Go.Proofs.Ins
namespace Go.Proofs.Xe
open Go.RowKit Go.Proofs.Ins
def Ll{a b:Rat}:0<=pV a b↔b<=a:=by rw[<-Int.not_lt,qg];grind
def aap(p:Rat):He p 0=rU p:=by
 unfold He rU;by_cases h:0<=p
 .rw[ab h,ab (Ll.mpr h)]
 .rw[ae h,ae λe=>h (Ll.mp e)]
def Jr{p:Rat}(h:0<=p):rU p=p:=ab h
def aez(W:Rat)(q:Nat->Rat)(k:Nat):Rat:=rU (aB (k+1) q-W)-rU (aB k q-W)
def XC(σ σ':St)(r:V)(n:Nat)(f:Nat->Rat):Prop:=∃b,r=.c (.sl b 0 n (.ex n))/\σ'.h b=some ⟨bZ n f,none⟩/\σ.aj<=b/\b<σ'.aj
theorem Zk.zW{D:Nat}{f:Nat->Rat}:∀{n:Nat},(∀i,i<n->Zk D 1 (f i))->Zk D n (aB n f)
 |0,_=>Zk.zero
 |n+1,h=>(Zk.zW λi hi=>h i jb).add (h n jb)
def Zk.pq{D k:Nat}{q:Rat}(h:Zk D k q):Zk D k (rU q):=by
 unfold rU;split
 .exact h
 .exact Zk.zero.mono (bp _)
def ais:1000000<=256^uK:=av (by decide:1000000<=256^3) (bB jj jj)
def aeA{σ:St}(hW:WF σ){p:Nat->Prop}{wn:Bool}{ws wd:ByteArray}{W:Rat}(hw:rq wn ws wd=W)(hws:ws.size+wd.size<=130000000){v:B}{m:Nat}{q:Nat->Rat}(hv:jL p σ.h v m q)(hm:m<=1000)(hq:∀k,k<m->0<=q k)(h0:0<=W){D:Nat}(hD:BI D)(hWz:Zk D 1 W)(hqz:∀k,k<m->Zk D 1 (q k)):
  aC EN 61 [.agg [.bool wn,.str ws,.str wd],.c v] σ λr σ'=>XC σ σ' r m (aez W q)/\Fr σ σ':=by
 refine aQ (nY.o _ _) nY.h ?_
 unfold nY
 dsimp only
 have hlen:=bf.len hv
 have hFr:=Fr.refl hW
 have hu:=ais
 have hp:=λ(args:List V) (σ:St) (K:V->St->Prop)=>kG (E:=EN) (K:=K) (gK.o args σ) gK.h
 unfold gK at hp
 dsimp only at hp
 simp(disch:=try exact jz) only[go_sem,z3,hlen]
 refine aF (λx tm σ'=>∃k,x=m-k/\k<=m/\Tr.ah tm 2=.c (.ptr σ.aj 0)/\Tr.ah tm 5=.c (.sl (σ.aj+1) 0 m (.ex m))/\Tr.ah tm 6=.c (.ptr (σ.aj+1+1) 0)/\Tr.ah tm 7=.c (.ptr (σ.aj+1+1+1) 0)/\Tr.ah tm 16=.c v/\Tr.ah tm 17=.c (.int .i64 (.ofNat m))/\Tr.ah tm 18=.c (.int .i64 (.ofNat k))
  /\σ'.h σ.aj=some ⟨[.bool wn,.str ws,.str wd],none⟩/\σ'.h (σ.aj+1)=some ⟨bZ m (λi=>if i<k then aez W q i else 0),none⟩/\σ'.h (σ.aj+1+1)=some ⟨[.bool (rn (aB k q)),.str (rs (aB k q)),.str (rd (aB k q))],none⟩/\σ'.h (σ.aj+1+1+1)=some ⟨[.bool (rn (rU (aB k q-W))),.str (rs (rU (aB k q-W))),.str (rd (rU (aB k q-W)))],none⟩
  /\Fr σ σ'/\σ.aj+1+1+1+1<=σ'.aj) m ?_ ?_
 .refine⟨0,jb,jb,?_⟩
  have e0:rU (0-W)=0:=by grind[rU]
  simp(disch:=try exact jz) only[go_sem,z3,am]
  refine⟨?_,rfl,?_,fr,jb⟩
  .rw[xK]
  .show _=some (Bk.mk [.bool (rn (rU (0-W))),.str (rs (rU (0-W))),.str (rd (rU (0-W)))] none)
   rw[e0]
 .rintro x tm σ' ⟨k,rfl,hk,t2,t5,t6,t7,t16,t17,ou,q2,q5,q6,q7,hf,hnx⟩
  have hle:=hf.le
  simp(disch:=try exact jz) only[go_sem,z3,t2,t5,t6,t7,t16,t17,ou,aG]
  refine aH (λhlt=>?_) (λhlt=>?_)
  .obtain⟨b5,o5,c5,rfl,-,bU⟩:=bf.at3 hv hlt
   have bU:=hf.ld hW bU
   have hqk:=hq k hlt
   have hzk:=hqz k hlt
   have hzs:Zk D k (aB k q):=Zk.zW λi hi=>hqz i jb
   have z1:Sz (q k):=hzk.sz hD jb
   have z2:Sz (aB k q):=hzs.sz hD jb
   have z3':=(hzs.add hzk)
   have z4:Sz (aB k q+q k):=z3'.sz hD jb
   have z5:Sz W:=hWz.sz hD jb
   have z6:Sz (aB k q+q k-W):=(z3'.sub hWz).sz hD jb
   have z7:Sz (rU (aB k q+q k-W)):=(z3'.sub hWz).pq.sz hD jb
   have z8:Sz (rU (aB k q-W)):=(hzs.sub hWz).pq.sz hD jb
   have z9:=Sz.zero
   have z10:=Sz.zero.two
   have e1:rU (q k)=q k:=Jr hqk
   have e2:rU W=W:=Jr h0
   have kC:=Fr.refl hf.wf
   simp(disch:=try exact jz) only[go_sem,z3,t2,t5,t6,t7,t16,t17,ou,bU,au q2,au q6,aI q6,au q7,aI q7,aI q5,q5,q6,q7,aap,e1,e2,hw,hp]
   refine⟨m-(k+1),jb,k+1,rfl,jb,rfl,q2,?_,rfl,rfl,fr,jb⟩
   exact bL (λl=>some (Bk.mk l none)) (qZ m k (aez W q))
  .have:k=m:=jb
   subst this
   simp(disch:=try exact jz) only[go_sem,z3,t5]
   exact⟨⟨_,rfl,by rw[q5,yF],jb,jb⟩,hf⟩
def aaq{σ:St}(hW:WF σ){p p':Nat->Prop}{w1 w2 w3 L lv:B}{eX:List Ins.Lg}{n:Nat}{kk:Nat->Nat}{f:Nat->Nat->Rat}(hL:zI p σ.h L eX)(hR:dQ p' σ.h lv n kk f)(h1:w1.kn=true)(h2:w2.kn=true)(h3:w3.kn=true)(hl:eX.length<=1000)(Iq:∀j,j<eX.length->∃e c:Nat,ix eX j=⟨.ofNat e,.ofNat c⟩/\e<n/\c<kk e):
  aC EN 62 [.agg [w1,w2,w3,L],.c lv] σ λr σ'=>XC σ σ' r eX.length (λj=>f (yY (ix eX j)).1 (yY (ix eX j)).2)/\Fr σ σ':=by
 refine aQ (uO.o _ _) uO.h ?_
 unfold uO
 dsimp only
 have hlen:=bf.len hL
 have hLk:=bf.kn hL
 have hFr:=Fr.refl hW
 simp(disch:=try exact jz) only[go_sem,z3,hlen,hLk,h1,h2,h3]
 refine aF (λx tm σ'=>∃j,x=eX.length-j/\j<=eX.length/\Tr.ah tm 1=.c lv/\Tr.ah tm 5=.c (.sl (σ.aj+1) 0 eX.length (.ex eX.length))/\Tr.ah tm 13=.c L/\Tr.ah tm 14=.c (.int .i64 (.ofNat eX.length))/\Tr.ah tm 15=.c (.int .i64 (.ofNat j))
  /\σ'.h (σ.aj+1)=some ⟨bZ eX.length (λi=>if i<j then f (yY (ix eX i)).1 (yY (ix eX i)).2 else 0),none⟩/\Fr σ σ'/\σ.aj+1+1<=σ'.aj) eX.length ?_ ?_
 .refine⟨0,jb,jb,?_⟩
  simp(disch:=try exact jz) only[go_sem,z3,am]
  exact⟨by rw[xK],fr,jb⟩
 .rintro x tm σ' ⟨j,rfl,hj,t1,t5,t13,t14,t15,q5,hf,hnx⟩
  have hle:=hf.le
  simp(disch:=try exact jz) only[go_sem,z3,t1,t5,t13,t14,t15,aG]
  refine aH (λhlt=>?_) (λhlt=>?_)
  .obtain⟨b5,o5,c5,rfl,-,bU⟩:=bf.pos hL jb
   have bU:=hf.ld hW (bU j hlt)
   obtain⟨e,c,EF,he,hc⟩:=Iq j hlt
   obtain⟨b6,o6,c6,T,rfl,-,bW,hT⟩:=hR.at he
   obtain⟨b7,o7,c7,rfl,-,cZ⟩:=bf.at3 hT hc
   have bW:=hf.ld hW bW
   have cZ:=hf.ld hW cZ
   have hb6:=hf.wf.dw bW
   have hb7:=hf.wf.dw cZ
   have kC:=Fr.refl hf.wf
   unfold J9 at bU
   have hst:=qZ eX.length j λi=>f (yY (ix eX i)).1 (yY (ix eX i)).2
   rw[show f (yY (ix eX j)).1 (yY (ix eX j)).2=f e c by rw[EF];rfl]at hst
   rw[EF]at bU
   simp(disch:=try exact jz) only[go_sem,z3,t1,t5,t13,t14,t15,bU,bW,cZ,q5,aI q5,hst]
   exact⟨eX.length-(j+1),jb,j+1,rfl,jb,rfl,rfl,fr,jb⟩
  .have:j=eX.length:=jb
   subst this
   simp(disch:=try exact jz) only[go_sem,z3,t5]
   exact⟨⟨_,rfl,by rw[q5,yF],jb,jb⟩,hf⟩
def aom{σ:St}(hW:WF σ){p:Nat->Prop}{v:B}{n:Nat}{f:Nat->Rat}(hv:jL p σ.h v n f)(hn:n<=1000)(hz:∀i,i<n->Sz (f i))(hs:∀i,i<=n->Sz (aB i f)):
  aC EN 24 [.c v] σ λr σ'=>r=.agg [.bool (rn (aB n f)),.str (rs (aB n f)),.str (rd (aB n f))]/\Fr σ σ':=by
 refine aQ (wX.o _ _) wX.h ?_
 unfold wX
 dsimp only
 have hlen:=bf.len hv
 have hFr:=Fr.refl hW
 simp(disch:=try exact jz) only[go_sem,z3,hlen]
 refine aF (λx tm σ'=>∃j,x=n-j/\j<=n/\Tr.ah tm 2=.c (.ptr σ.aj 0)/\Tr.ah tm 3=.c (.ptr (σ.aj+1) 0)/\Tr.ah tm 7=.c v/\Tr.ah tm 8=.c (.int .i64 (.ofNat n))/\Tr.ah tm 9=.c (.int .i64 (.ofNat j))
  /\σ'.h σ.aj=some ⟨[.bool (rn 0),.str (rs 0),.str (rd 0)],none⟩/\σ'.h (σ.aj+1)=some ⟨[.bool (rn (aB j f)),.str (rs (aB j f)),.str (rd (aB j f))],none⟩/\Fr σ σ'/\σ.aj+1+1<=σ'.aj) n ?_ ?_
 .refine⟨0,jb,jb,?_⟩
  simp(disch:=try exact jz) only[go_sem,z3,am]
  exact⟨rfl,fr,jb⟩
 .rintro x tm σ' ⟨j,rfl,hj,t2,t3,t7,t8,t9,q2,q3,hf,hnx⟩
  have hle:=hf.le
  simp(disch:=try exact jz) only[go_sem,z3,t2,t3,t7,t8,t9,aG]
  refine aH (λhlt=>?_) (λhlt=>?_)
  .obtain⟨b5,o5,c5,rfl,-,bU⟩:=bf.at3 hv hlt
   have bU:=hf.ld hW bU
   have z1:=hz j hlt
   have z2:=hs j jb
   have kC:=Fr.refl hf.wf
   simp(disch:=try exact jz) only[go_sem,z3,t2,t3,t7,t8,t9,bU,au q3,q3,aI q3]
   exact⟨n-(j+1),jb,j+1,rfl,jb,rfl,q2,rfl,fr,jb⟩
  .have:j=n:=jb
   subst this
   simp(disch:=try exact jz) only[go_sem,z3,t2,t3,au q3,q2,aI q2]
   exact fr
structure Fam(p:Nat->Prop)(h:Tr Bk)(nn bb:Nat->Nat)(GG:Nat->Nat->List B)(ee tt:Nat->Nat)(QQ:Nat->(Nat->Prop)->Tr Bk->Nat->Prop)(lo hi:Nat):Prop where
 g:∀k,xU (nn k) h (bb k)=gF (nn k) (GG k) (ee k) (tt k)
 L:∀k,LG (GG k) (ee k)
 l1:∀k,lo<=bb k
 l2:∀k,nn k=0\/bb k<hi
 ne:∀k k',k≠k'->nn k=0\/nn k'=0\/bb k≠bb k'
 np:∀k,nn k=0\/¬p (bb k)
 q:∀k j,j<nn k->QQ k p h j
 pp:∀x,p x->lo<=x/\x<hi
section
variable {p p' : Nat→Prop} {h h' h1:Tr Bk} {nn bb:Nat→Nat} {GG GG' : Nat→Nat→List B} {ee tt:Nat→Nat} {QQ QQ' : Nat→(Nat→Prop)→Tr Bk→Nat→Prop} {lo hi:Nat}
theorem Fam.nil(hn:∀k,nn k=0)(hL:∀k,LG (GG k) (ee k)):Fam (λ_=>False) h nn (λ_=>lo) GG ee tt QQ lo hi:=
 ⟨λk=>by rw[hn k];rfl,hL,λ_=>jp,λk=>.inl (hn k),λk _ _=>.inl (hn k),λk=>.inl (hn k),λk j hj=>by grind,λ_ h=>h.elim⟩
def Fam.keep(ho:Fam p h nn bb GG ee tt QQ lo hi)(hQ:∀k j,QK (QQ k) j)(hh:∀b,lo<=b->b<hi->h' b=h b){hi':Nat}(h2:hi<=hi'):Fam p h' nn bb GG ee tt QQ lo hi':=by obtain⟨g,L,l1,l2,ne,np,q,pp⟩:=ho;refine⟨λk=>?_,L,l1,λk=>by grind,ne,np,λk j hj=>hQ k j _ _ _ _ (q k j hj) (λb hb=>hh b (pp b hb).1 (pp b hb).2) λ_ hb=>hb,λx hx=>by grind⟩;grind[Go.Proofs.Xe.vU]
def Fam.push(ho:Fam p h nn bb GG ee tt QQ lo hi)(k:Nat){hi1 nx n':Nat}(hp:∀x,p x->p' x)(hp2:∀x,p' x->p x\/hi<=x/\x<hi1)(hQ:∀k j,QK (QQ' k) j)(hQQ:∀k j,j<nn k->∀p h,QQ k p h j->QQ' k p h j)(hG:∀k j,j<nn k->GG' k j=GG k j)(hL:∀k,LG (GG' k) (ee k))
  (hx:QQ' k p' h1 (nn k)) (hh:∀x,lo<=x->x<hi->h1 x=h x) (h2:hi<=hi1) (h3:hi1<=nx) (h4:nx<n') (h5:lo<=hi){x:List B}(hb:h' nx=some ⟨bD (nn k) (GG k)++x,some (ee k,tt k)⟩) (hgn:x=GG' k (nn k)) (hk:∀c,lo<=c->c<hi1->nn k=0\/c≠bb k->h' c=h1 c):
  Fam p' h' (aO nn k (nn k+1)) (aO bb k nx) GG' ee tt QQ' lo n':=by
 obtain⟨g,L,l1,l2,ne,np,q,pp⟩:=ho
 have hp':∀b,p' b->lo<=b/\b<hi1/\(nn k=0\/b≠bb k):=λb hb=>by grind
 have hnp:∀k',nn k'=0\/¬p' (bb k'):=λk'=>by grind
 refine⟨λk'=>?_,hL,λk'=>?_,λk'=>?_,λa b hab=>?_,λk'=>?_,λk' j hj=>?_,λx hx=>by grind⟩
 .by_cases e:k'=k
  .subst e
   rw[aN,aN]
   show h' nx=some _
   grind[Go.Proofs.Xe.jI,Go.Proofs.Xe.bF,Go.Proofs.Xe.iT]
  .rw[aP _ _ _ _ e,aP _ _ _ _ e]
   have h6:xU (nn k') h' (bb k')=xU (nn k') h (bb k'):=vU (by grind)
   rw[h6,g k']
   generalize hm:nn k'=m
   cases m with
   |zero=>rfl
   |succ m=>show some _=some _;grind[bF]
 .grind[aN,aP]
 .grind[aN,aP]
 .grind[aP,aN]
 .grind[aN,aP]
 .by_cases e:k'=k/\j=nn k
  .obtain⟨rfl,rfl⟩:=e
   exact hQ _ _ _ _ _ _ hx (λb hb=>hk b (hp' b hb).1 (hp' b hb).2.1 (hp' b hb).2.2) λ_ h=>h
  .have hj':j<nn k':=by
    by_cases e2:k'=k
    .subst e2;rw[aN]at hj;have:¬j=nn k':=λe3=>e ⟨rfl,e3⟩;omega
    .rwa[aP _ _ _ _ e2]at hj
   exact hQ _ _ _ _ _ _ (hQQ k' j hj' _ _ (q k' j hj')) (λb hb=>by have:=hp' b (hp b hb);rw[hk b this.1 this.2.1 this.2.2,hh b (pp b hb).1 (pp b hb).2]) hp
def Fam.hlp(ho:Fam p h nn bb GG ee tt QQ lo hi)(k:Nat)(he:0<ee k)(hk:∀j,j<nn k->(GG k j).all B.kn=true){q:Nat->Prop}(hq:∀b,lo<=b->b<hi->q b):bf q h (ee k) (aU (nn k) (bb k)) (nn k) (GG k):=by
 have g:=ho.g k;have hl:=ho.l2 k;have hL:=ho.L k;have hlo:=ho.l1 k;generalize nn k=n at*;cases n with
 |zero=>exact .inl ⟨rfl,rfl⟩
 |succ n=>exact bC _ g (CB _ _ jb) (hq _ hlo jb) hL he hk
def Fam.keep'(ho:Fam p h nn bb GG ee tt QQ lo hi)(hQ:∀k j,QK (QQ k) j)(hp:∀b,p b->h' b=h b)(hh:∀k,nn k=0\/h' (bb k)=h (bb k)):Fam p h' nn bb GG ee tt QQ lo hi:=by obtain⟨g,L,l1,l2,ne,np,q,pp⟩:=ho;exact⟨λk=>(vU (hh k)).trans (g k),L,l1,l2,ne,np,λk j hj=>hQ k j _ _ _ _ (q k j hj) hp λ_ hb=>hb,pp⟩
structure uF(p:Nat->Prop)(h:Tr Bk)(nn bb:Nat->Nat)(GG:Nat->Nat->List B)(ee tt:Nat->Nat)(QQ:Nat->(Nat->Prop)->Tr Bk->Nat->Prop)(m:Nat)(kk:Nat->Nat)(C:Nat->Nat->List B)(bs:Nat->Nat)(lo hi:Nat):Prop where
 f:Fam p h nn bb GG ee tt QQ lo hi
 r:lC h m kk C bs lo hi
 w:∀j,j<m->¬p (bs j)
 n:∀j k,j<m->nn k=0\/bb k≠bs j
variable {m:Nat} {kk:Nat→Nat} {C:Nat→Nat→List B} {bs:Nat→Nat}
def uF.keep(ho:uF p h nn bb GG ee tt QQ m kk C bs lo hi)(hQ:∀k j,QK (QQ k) j)(hh:∀b,lo<=b->b<hi->h' b=h b){hi':Nat}(h2:hi<=hi'):uF p h' nn bb GG ee tt QQ m kk C bs lo hi':=
 ⟨ho.f.keep hQ hh h2,ho.r.mono hh jp h2,ho.w,ho.n⟩
def uF.push(ho:uF p h nn bb GG ee tt QQ m kk C bs lo hi)(k:Nat){hi1 nx n':Nat}(hp:∀x,p x->p' x)(hp2:∀x,p' x->p x\/hi<=x/\x<hi1)(hQ:∀k j,QK (QQ' k) j)(hQQ:∀k j,j<nn k->∀p h,QQ k p h j->QQ' k p h j)(hG:∀k j,j<nn k->GG' k j=GG k j)(hL:∀k,LG (GG' k) (ee k))
  (hx:QQ' k p' h1 (nn k)) (hh:∀x,lo<=x->x<hi->h1 x=h x) (h2:hi<=hi1) (h3:hi1<=nx) (h4:nx<n') (h5:lo<=hi){x:List B}(hb:h' nx=some ⟨bD (nn k) (GG k)++x,some (ee k,tt k)⟩) (hgn:x=GG' k (nn k)) (hk:∀c,lo<=c->c<hi1->nn k=0\/c≠bb k->h' c=h1 c):
  uF p' h' (aO nn k (nn k+1)) (aO bb k nx) GG' ee tt QQ' m kk C bs lo n':=by
 refine⟨ho.f.push k hp hp2 hQ hQQ hG hL hx hh h2 h3 h4 h5 hb hgn hk,ho.r.mono' (λj hj=>?_) jp jb,λj hj hb=>?_,λj i hj=>?_⟩
 .obtain⟨-,k2,k3⟩:=ho.r.r j hj
  have:=ho.n j k hj
  grind
 .obtain⟨-,k2,k3⟩:=ho.r.r j hj
  rcases hp2 _ hb with hb|hb
  .exact ho.w j hj hb
  .omega
 .obtain⟨-,k2,k3⟩:=ho.r.r j hj
  by_cases e:i=k
  .grind[aN]
  .rw[aP nn _ _ _ e,aP bb _ _ _ e];exact ho.n j i hj
def uF.pushRow(ho:uF p h nn bb GG ee tt QQ m kk C bs lo hi)(k:Nat){hi1 nx n' nb:Nat}(hQ:∀k j,QK (QQ' k) j)(hQQ:∀k j,j<nn k->∀p h,QQ k p h j->QQ' k p h j)(hG:∀k j,j<nn k->GG' k j=GG k j)(hL:∀k,LG (GG' k) (ee k))
  (hx:QQ' k p h1 (nn k)) (hh:∀x,lo<=x->x<hi->h1 x=h x) (h2:hi<=hi1) (h3:hi1<=nx) (h4:nx<n') (h5:lo<=hi){x:List B}(hb:h' nx=some ⟨bD (nn k) (GG k)++x,some (ee k,tt k)⟩) (hgn:x=GG' k (nn k)) (hk:∀c,lo<=c->c<hi1->nn k=0\/c≠bb k->h' c=h1 c)
  (h6:hi<=nb) (h7:nb<hi1) (hr:h' nb=some ⟨bD (kk m) (C m),none⟩):
  uF p h' (aO nn k (nn k+1)) (aO bb k nx) GG' ee tt QQ' (m+1) kk C (aO bs m nb) lo n':=by
 have hP:=ho.push k (p':=p) (λ_ h=>h) (λ_ h=>.inl h) hQ hQQ hG hL hx hh h2 h3 h4 h5 hb hgn hk
 refine⟨hP.f,ho.r.push hr rfl h6 jb jb λb h8 h9 ⟨i,hi,e⟩=>?_,λj hj=>?_,λj i hj=>?_⟩
 .have:=ho.n i k hi
  grind
 .by_cases e:j=m
  .subst e;rw[aN];exact λh=>by have:=ho.f.pp _ h;omega
  .rw[aP _ _ _ _ e];exact ho.w j jb
 .by_cases e:j=m
  .subst e
   rw[aN bs]
   by_cases e2:i=k
   .grind[aN]
   .rw[aP nn _ _ _ e2,aP bb _ _ _ e2]
    have:=ho.f.l2 i;omega
  .rw[aP bs _ _ _ e];exact hP.n j i jb
def uF.write(ho:uF p h nn bb GG ee tt QQ m kk C bs lo hi)(hQ:∀k j,QK (QQ k) j){j c:Nat}{x l:List B}(hj:j<m)(hl:l=bD (kk j) (iT (C j) c x)):uF p (hset h (bs j) ⟨l,none⟩) nn bb GG ee tt QQ m kk (qV C j c x) bs lo hi:=by
 refine⟨ho.f.keep' hQ (λb hb=>ak _ _ _ _ λe=>ho.w j hj (e▸hb)) (λk=>?_),ho.r.set hj hl,ho.w,ho.n⟩;rcases ho.n j k hj with e|e
 .omega
 grind[ak]
theorem uF.grow(ho:uF p h nn bb GG ee tt QQ m kk C bs lo hi)(hQ:∀k j,QK (QQ k) j)(hh:∀b,lo<=b->b<hi->h' b=h b){hi':Nat}(h2:hi<=hi')(hp:∀x,p x->p' x)(hp2:∀x,p' x->p x\/hi<=x/\x<hi')(h3:lo<=hi):uF p' h' nn bb GG ee tt QQ m kk C bs lo hi':=by
 obtain⟨⟨g,L,l1,l2,ne,np,q,pp⟩,r,w,n⟩:=ho;refine⟨⟨λk=>?_,L,l1,λk=>by grind,ne,λk=>?_,λk j hj=>hQ k j _ _ _ _ (q k j hj) (λb hb=>hh b (pp b hb).1 (pp b hb).2) hp,λx hx=>?_⟩,r.mono hh jp h2,λj hj hb=>?_,n⟩
 .grind[Go.Proofs.Xe.vU]
 .grind
 .grind
 .obtain⟨-,k2,k3⟩:=r.r j hj;grind
def uF.same(ho:uF p h nn bb GG ee tt QQ m kk C bs lo hi)(k:Nat){hi1:Nat}(hh:∀x,lo<=x->x<hi->h1 x=h x)(h2:hi<=hi1)(hk:∀c,lo<=c->c<hi1->nn k=0\/c≠bb k->h' c=h1 c):∀x,p x->h' x=h x:=λx hx=>by
 have h3:=ho.f.pp x hx;rw[hk x h3.1 jb ?_,hh x h3.1 h3.2];rcases ho.f.np k with e|e
 .omega
 grind
end
def auV(p:Nat->Prop)(h:Tr Bk)(lv:B)(el:List wF):Prop:=∃R P:Nat->B,bf p h 6 lv el.length (λi=>jo (ix el i).c.length (R i) (P i) (ru (ix el i) (ix el i).c.length))/\∀i,i<el.length->yE p h (R i) (P i) (dH (ix el i))
def ait(p:Nat->Prop)(h:Tr Bk)(bv:B)(el:List wF)(L:List fA):Prop:=∃T:Nat->B,bf p h 1 bv el.length (λi=>[T i])/\∀i,i<el.length->bf p h 1 (T i) (ix el i).c.length λc=>[.bool (L.contains (i,c))]
structure EH(p:Nat->Prop)(h:Tr Bk)(sb:Nat)(g:gW):Prop where
 s:∃ev dv lv bv,h sb=some ⟨[ev,dv,lv,bv],none⟩/\wW p h ev dv g/\auV p h lv g.e/\ait p h bv g.e (aX g).eX
 b:p sb
def EH.keep{p q:Nat->Prop}{h h':Tr Bk}{sb:Nat}{g:gW}(hs:EH p h sb g)(hk:∀b,p b->h' b=h b)(hp:∀b,p b->q b):EH q h' sb g:=by obtain⟨⟨ev,dv,lv,bv,h1,h2,⟨R,P,h3,h4⟩,T,h5,h6⟩,hb⟩:=hs;exact⟨⟨ev,dv,lv,bv,by rw[hk _ hb];exact h1,h2.keep hk hp,⟨R,P,h3.keep hk hp,λi hi=>(h4 i hi).keep hk hp⟩,T,h5.keep hk hp,λi hi=>(h6 i hi).keep hk hp⟩,hp _ hb⟩
theorem EH.fr{σ σ':St}(hf:Fr σ σ'){sb:Nat}{g:gW}(hs:EH (Lt σ.aj) σ.h sb g):EH (Lt σ'.aj) σ'.h sb g:=hs.keep (λb hb=>hf.old b hb) λb hb=>aE hb hf.le
def AQ(i:Nat):Nat->Nat:=λk=>if k=2\/k=3 then i else 0
def kE(el:List wF)(i:Nat):Nat:=(ix el i).c.length
def bG(el:List wF)(R P:Nat->B)(bs:Nat->Nat):Nat->Nat->List B
 |2=>λi=>jo (ix el i).c.length (R i) (P i) (ru (ix el i) (ix el i).c.length)
 |3=>λi=>[xW (kE el) bs i]
 |_=>λ_=>[]
def bE:Nat->Nat
 |2=>6
 |3=>1
 |_=>0
def bT:Nat->Nat
 |2=>113
 |3=>32
 |_=>0
def bQ(el:List wF)(R P:Nat->B):Nat->(Nat->Prop)->Tr Bk->Nat->Prop
 |2=>λp h i=>yE p h (R i) (P i) (dH (ix el i))
 |_=>NoQ
def aiu(el:List wF)(R P:Nat->B)(bs:Nat->Nat)(k:Nat):LG (bG el R P bs k) (bE k):=by intro j;unfold bG bE;split<;>rfl
def aeB(el:List wF)(R P:Nat->B)(k j:Nat):QK (bQ el R P k) j:=by
 unfold bQ;split
 .exact λ_ _ _ _ hp hk hq=>hp.keep hk hq
 .exact JV j
def OD(L:List fA)(i c:Nat):List B:=[.bool (L.contains (i,c))]
abbrev aar(el:List wF)(p:Nat->Prop)(h:Tr Bk)(nn bb:Nat->Nat)(R P:Nat->B)(bs:Nat->Nat)(m:Nat)(L:List fA)(lo hi:Nat):Prop:=uF p h nn bb (bG el R P bs) bE bT (bQ el R P) m (kE el) (OD L) bs lo hi
def aeC(i:Nat):aO (aO (AQ i) 2 (AQ i 2+1)) 3 (aO (AQ i) 2 (AQ i 2+1) 3+1)=AQ (i+1):=by grind[aO,AQ]
theorem XD{kk bs:Nat->Nat}{m nb j:Nat}(h:j≠m):xW kk (aO bs m nb) j=xW kk bs j:=by grind[xW,aP]
def acg(i k:Nat):AQ i k<=i:=by grind[AQ]
def ars{el:List wF}{R P:Nat->B}{i j:Nat}(h:j<i)(rv pv:B)(k:Nat)(p:Nat->Prop)(H:Tr Bk)(hq:bQ el R P k p H j):bQ el (aO R i rv) (aO P i pv) k p H j:=by
 unfold bQ at hq⊢;split
 .grind[aP]
 .trivial
def aru{el:List wF}{R P:Nat->B}{bs:Nat->Nat}{i j:Nat}(h:j<i)(rv pv:B)(k:Nat):bG el (aO R i rv) (aO P i pv) bs k j=bG el R P bs k j:=by unfold bG;grind[aP]
def arv{el:List wF}{R P:Nat->B}{bs:Nat->Nat}{m nb j:Nat}(k:Nat)(h:k=3->j<m):bG el R P (aO bs m nb) k j=bG el R P bs k j:=by unfold bG;grind[XD]
def rE{n:Nat}(h:0<n)(b:Nat):aU n b=.sl b 0 n .opn:=by
 cases n with
 |zero=>omega
 |succ n=>rfl
def Bj(dl:List uH)(j:Nat):List fA:=(dl.take j).flatMap λd=>d.l.map yY
def aas{dl:List uH}{j:Nat}(h:j<dl.length):Bj dl (j+1)=Bj dl j++(ix dl j).l.map yY:=by grind[Bj,bJ]
def aeD(g:gW):Bj g.d g.d.length=(aX g).eX:=by grind[Bj,GL.eX,aX,List.flatMap_map]
def aeE(L:List fA)(e c:Nat):qV (OD L) e c [.bool true]=OD (L++[(e,c)]):=by grind[qV,OD]
def Q8(nc:Nat)(al:List gZ)(x:Am):Prop:=((x.k=-1/\x.b=true)\/∃i:Nat,i<nc/\x.k=(i:Int)/\ahZ al x.k)/\∃w:Nat,w<=16/\x.a=vF ((Int.ofNat w:Int):Rat)
def Fe(nc:Nat)(al:List gZ)(t:List Am):Prop:=∀k,k<t.length->Q8 nc al (ix t k)
def Fe.snoc{nc:Nat}{al:List gZ}{t:List Am}{x:Am}(h:Fe nc al t)(hx:Q8 nc al x):Fe nc al (t++[x]):=λk hk=>by
 rw[az,bY]at hk;by_cases e:k=t.length
 .rw[e,gB];exact hx
 .rw[gy _ _ jb];exact h k jb
structure TI(σ σ':St)(tb i nc:Nat)(al:List gZ)(ts:Nat->List Am)(bs:Nat->Nat):Prop where
 b:σ'.h tb=some ⟨ones 3 (λt=>lu (ts t) (bs t)),none⟩
 f:Kq σ'.h 3 Bz 5 97 ts bs (tb+1) σ'.aj
 g:∀t,t<3->Fe nc al (ts t)
 l:∀t,t<3->(ts t).length<=i
 n:tb+1<=σ'.aj
 fr:Fr σ σ'
def aeF(ts:Nat->List Am)(bs:Nat->Nat)(t nx:Nat)(x:Am):(λj=>lu (aO ts t (ts t++[x]) j) (aO bs t nx j))=aO (λj=>lu (ts j) (bs j)) t (.sl nx 0 ((ts t).length+1) .opn):=by
 funext j;unfold aO;split
 .next e=>rw[iW kc,az];rfl
 .rfl
def ach(l:List Am):l.length*5<=(bD l.length (λk=>Bz (ix l k))).length:=by rw[oH (e:=5) λ_=>rfl];exact jp
def XE(l:List Am):(bD l.length (λk=>Bz (ix l k))).take (l.length*5)=bD l.length (λk=>Bz (ix l k)):=qP λ_=>rfl
section
variable {σ σ' : St} {tb i nc:Nat} {al:List gZ} {ts:Nat→List Am} {bs:Nat→Nat}
def TI.step(hT:TI σ σ' tb i nc al ts bs){σ3:St}(hf:Fr σ' σ3):TI σ σ3 tb (i+1) nc al ts bs:=by have hn:=hT.n;have hle:=hf.le;exact⟨by rw[hf.old _ jb];exact hT.b,hT.f.mono (λb _ hb=>hf.old b hb) hle,hT.g,λt ht=>by have:=hT.l t ht;omega,jb,hT.fr.trans hf⟩
def TI.push(hT:TI σ σ' tb i nc al ts bs){t nx n':Nat}{x:Am}{h':Tr Bk}(ht:t<3)(hg:Q8 nc al x)(hb:h' tb=some ⟨ones 3 (aO (λj=>lu (ts j) (bs j)) t (.sl nx 0 ((ts t).length+1) .opn)),none⟩)
  (hx:h' nx=some ⟨bD (ts t).length (λk=>Bz (ix (ts t) k))++Bz x,some (5,97)⟩) (ho:∀b,tb+1<=b->b<σ'.aj->(0<(ts t).length->b≠bs t)->h' b=σ'.h b) (hn:σ'.aj<=nx) (hn':nx<n') (hf:Fr σ ⟨h',n'⟩):
  TI σ ⟨h',n'⟩ tb (i+1) nc al (aO ts t (ts t++[x])) (aO bs t nx):=by
 have hn0:=hT.n
 refine⟨?_,?_,λj hj=>?_,λj hj=>?_,by show tb+1<=n';omega,hf⟩
 .rw[aeF];exact hb
 .refine hT.f.push ht x rfl hx (λj hj e hp=>?_) jb hn hn'
  obtain⟨-,k2,k3⟩:=hT.f.blk j hj hp
  exact ho _ k2 k3 λhp2 e2=>e (hT.f.inj j t hj ht hp hp2 e2)
 .unfold aO
  split
  .next e=>exact(hT.g t ht).snoc hg
  .exact hT.g j hj
 .unfold aO
  split
  .next e=>rw[az,bY];have:=hT.l t ht;omega
  .have:=hT.l j hj;omega
end
def bf.plt{σ:St}(hW:WF σ){p:Nat->Prop}{e n:Nat}{v:B}{G:Nat->List B}(hl:bf p σ.h e v n G):bf (λb=>p b/\b<σ.aj) σ.h e v n G:=by
 rcases hl with h|⟨b,o,c,h1,h2,h3⟩
 .exact .inl h
 .exact .inr ⟨b,o,c,h1,λh=>⟨h2 h,hW.dw (h3 0 h)⟩,h3⟩
def dX.plt{σ:St}(hW:WF σ){p:Nat->Prop}{v:B}{l:gZ}(hl:dX p σ.h v l):dX (λb=>p b/\b<σ.aj) σ.h v l:=by obtain⟨T,k1,k2⟩:=hl;exact⟨T,k1.plt hW,λj hj=>(k2 j hj).plt hW⟩
def agree_end{σ σ':St}{tb i nc:Nat}{al:List gZ}{ts:Nat->List Am}{bs:Nat->Nat}(hW:WF σ){p:Nat->Prop}{T:Nat->B}(hT2:∀j,j<al.length->dX p σ.h (T j) (ix al j))(Vs:∀j,j<al.length->(T j).kn=true)(hT:TI σ σ' tb i nc al ts bs)(hi:i<=nc+1)(htb:σ.aj<=tb)
  {h':Tr Bk}{n' rb:Nat}(hr:h' rb=some ⟨bD (al.length+1) (λj=>[if j<al.length then T j else .sl tb 0 3 (.ex 3)]),some (1,100)⟩) (ho:∀b,b<σ'.aj->h' b=σ'.h b) (hrb:σ'.aj<=rb) (hn:rb<n') (hf:Fr σ ⟨h',n'⟩):
  (∃rv a,V.c (.sl rb 0 (al.length+1) .opn)=.c rv/\jd (λb=>p b\/σ.aj<=b/\b<n') h' rv (al++[a])/\a.length=3/\∀t,t<3->Fe nc al (ix a t)/\(ix a t).length<=nc+1)/\Fr σ ⟨h',n'⟩:=by
 have hle:=hT.fr.le
 have hn1:=hT.n
 have h3:∀t,t<3->ix [ts 0,ts 1,ts 2] t=ts t:=λt ht=>by
  match t,ht with
  |0,_=>rfl
  |1,_=>rfl
  |2,_=>rfl
 refine⟨⟨_,[ts 0,ts 1,ts 2],rfl,⟨λj=>if j<al.length then T j else .sl tb 0 3 (.ex 3),?_,λj hj=>?_⟩,rfl,λt ht=>?_⟩,hf⟩
 .have:(al++[[ts 0,ts 1,ts 2]]).length=al.length+1:=by simp
  rw[this]
  exact bC _ hr rfl (.inr ⟨jb,hn⟩) (λ_=>rfl) jj λj hj=>by
   dsimp only;split
   .next e=>simp only[cG,dC,Vs j e,cW]
   .rfl
 .have hj':j<al.length+1:=by simpa using hj
  dsimp only
  by_cases e:j<al.length
  .rw[ab e,gy _ _ e]
   refine((hT2 j e).plt hW).keep (λb hb=>?_) λb hb=>.inl hb.1
   rw[ho b jb,hT.fr.old b hb.2]
  .rw[ae e]
   obtain rfl:j=al.length:=jb
   rw[gB]
   refine⟨λt=>lu (ts t) (bs t),?_,λt ht=>?_⟩
   .have hb:h' tb=some ⟨bD 3 (λt=>[lu (ts t) (bs t)]),none⟩:=by rw[ho tb jb];exact hT.b
    exact bC _ hb rfl (.inr ⟨htb,jb⟩) (λ_=>rfl) jj λj _=>by simp only[cG,dC,qQ,cW]
   .have ht:t<3:=ht
    rw[h3 t ht]
    exact(hT.f.hlp (p:=λb=>tb+1<=b/\b<σ'.aj) (λb h1 h2=>⟨h1,h2⟩) (λ_=>rfl) jj (λ_=>rfl) ht).keep (λb hb=>ho b hb.2) λb hb=>.inr ⟨jb,jb⟩
 .rw[h3 t ht]
  exact⟨hT.g t ht,by have:=hT.l t ht;omega⟩
def amD{σ:St}(hW:WF σ){p:Nat->Prop}{x1 x2 x3 C A:B}(al:List gZ)(hA:jd p σ.h A al)(hl:aq8 al)(nc:Nat)(hC:lenV (.c C)=some (.c (.int .i64 (.ofNat nc))))(hnc:nc<=1000)(h1:x1.kn=true)(h2:x2.kn=true)(h3:x3.kn=true)(h4:C.kn=true)
  (p0 p1 p2:Nat) (b0:p0<=65535) (b1:p1<=65535) (b2:p2<=65535):
  aC EN 28 [.agg [x1,x2,x3,C,A],.agg [.int .u16 (.ofNat p0),.int .u16 (.ofNat p1),.int .u16 (.ofNat p2)]] σ λr σ'=>(∃rv a,r=.c rv/\jd (λb=>p b\/σ.aj<=b/\b<σ'.aj) σ'.h rv (al++[a])/\a.length=3/\∀t,t<3->Fe nc al (ix a t)/\(ix a t).length<=nc+1)/\Fr σ σ':=by
 refine aQ (FN.o _ _) FN.h ?_
 unfold FN
 dsimp only
 have hAk:=hA.kn
 simp(disch:=try exact jz) only[go_sem,z3,hAk,hC,h4]
 refine bH.mono (Q:=λe tm σ'=>e=.exit 0/\∃ts bs,Tr.ah tm 2=.c (.ptr σ.aj 0)/\Tr.ah tm 3=.c (.ptr (σ.aj+1) 0)/\Tr.ah tm 5=.c (.sl (σ.aj+1+1) 0 3 (.ex 3))
  /\σ'.h σ.aj=some ⟨[x1,x2,x3,C,A],none⟩/\σ'.h (σ.aj+1)=some ⟨[.int .u16 (.ofNat p0),.int .u16 (.ofNat p1),.int .u16 (.ofNat p2)],none⟩/\TI σ σ' (σ.aj+1+1) nc nc al ts bs) (aF (λq tm σ'=>∃i ts bs,q=nc-i/\i<=nc/\Tr.ah tm 2=.c (.ptr σ.aj 0)/\Tr.ah tm 3=.c (.ptr (σ.aj+1) 0)/\Tr.ah tm 5=.c (.sl (σ.aj+1+1) 0 3 (.ex 3))/\Tr.ah tm 6=.c (.int .i64 (.ofNat p1))/\Tr.ah tm 17=.c (.int .i64 (.ofNat nc))/\Tr.ah tm 18=.c (.int .i64 (.ofNat i))
  /\σ'.h σ.aj=some ⟨[x1,x2,x3,C,A],none⟩/\σ'.h (σ.aj+1)=some ⟨[.int .u16 (.ofNat p0),.int .u16 (.ofNat p1),.int .u16 (.ofNat p2)],none⟩/\TI σ σ' (σ.aj+1+1) i nc al ts bs) nc ?_ ?_) ?_
 .refine⟨0,λ_=>[],λ_=>0,jb,jb,?_⟩
  simp(disch:=try exact jz) only[go_sem,z3,am]
  refine⟨?_,Kq.nil _ _ _ _ _ _ _ _,λt _ k hk=>by simp at hk,λt _=>cK 0,jp,?_⟩
  .rw[aA];rfl
  .exact fr
 .rintro q tm σ' ⟨i,ts,bs,rfl,hi,t2,t3,t5,t6,t17,ou,q1,q2,hT⟩
  have hle:=hT.fr.le
  have hn:=hT.n
  have hr:=yj p1 (2^min (2*i) 64) 9223372036854775807 jb
  simp(disch:=try exact jz) only[go_sem,z3,t2,t3,t5,t6,t17,ou,aG]
  refine aH (λhlt=>?_) (λhlt=>?_)
  .simp(disch:=try exact jz) only[go_sem,z3,t2,t3,t5,t6,t17,ou]
   have hx3:(p1/2^min (2*i) 64)&&&3<=3:=Nat.and_le_right
   generalize (p1/2^min (2*i) 64)&&&3=x at*
   refine Ws (λhx0=>?_) (λhx0=>?_)
   .simp(disch:=try exact jz) only[go_sem,z3,t2,t3,t5,t6,t17,ou,hx0]
    exact⟨nc-(i+1),jb,i+1,ts,bs,rfl,jb,rfl,q1,q2,hT.step (Fr.refl hT.fr.wf)⟩
   .have Q5:=hT.b
    simp(disch:=try exact jz) only[go_sem,z3,t2,t3,t5,t6,t17,ou,hx0,au q1,h1,h2,h3,h4,hAk]
    refine(aq9 hT.fr.wf al (hA.fr hW hT.fr) hl h1 h2 h3 h4 (.ofNat i)).mono ?_
    rintro _ σ3 ⟨⟨fb,rfl,hfb⟩,hf3⟩
    have q1':=hf3.get hT.fr.wf q1
    have q2':=hf3.get hT.fr.wf q2
    simp(disch:=try exact jz) only[go_sem,z3,t2,t3,t5,t6,t17,ou]
    cases fb
    .simp(disch:=try exact jz) only[go_sem,z3,t2,t3,t5,t6,t17,ou]
     exact⟨nc-(i+1),jb,i+1,ts,bs,rfl,jb,rfl,q1',q2',hT.step hf3⟩
    .have Js:=hT.step hf3
     have hf0:=hfb rfl
     have hF3:=Js.fr
     have Q5:=Js.b
     have hn3:=Js.n
     have hle3:=Js.fr.le
     have hkn:=qQ (ts (x-1)) (bs (x-1))
     have hpl:=ach (ts (x-1))
     have hpt:=XE (ts (x-1))
     have hxl:=Js.l (x-1) jb
     have hr2:=yj p2 (2^min i 64) 9223372036854775807 jb
     have hr3:=yj p2 (2^min 6 16) 9223372036854775807 jb
     have hgood:∀(b:Bool) (w:Nat),w<=16->Q8 nc al ⟨.ofNat i,b,vF ((Int.ofNat w:Int):Rat)⟩:=λb w hw=>⟨.inr ⟨i,hlt,rfl,hf0⟩,w,hw,rfl⟩
     simp(disch:=try exact jz) only[go_sem,z3,t2,t3,t5,t6,t17,ou,au q2']
     refine aH (λhcap=>?_) (λhcap=>?_)
     .by_cases hz:(ts (x-1)).length=0
      .have he:lu (ts (x-1)) (bs (x-1))=.aV:=by unfold lu;rw[ab hz]
       simp(disch:=try exact jz) only[go_sem,z3,t2,t3,t5,t6,t17,ou,au q2',au Q5,Q5,he]
       refine⟨nc-(i+1),jb,i+1,aO ts (x-1) (ts (x-1)++[⟨.ofNat i,true,vF ((Int.ofNat (p2/2^min 6 16%9):Int):Rat)⟩]),aO bs (x-1) (σ3.aj+1+1),rfl,jb,rfl,?_,?_,TI.push (i:=i) ⟨Js.b,Js.f,Js.g,λt ht=>?_,Js.n,Js.fr⟩ jb (hgood true (p2/2^min 6 16%9) jb) ?_ ?_ ?_ ?_ ?_ ?_⟩
       .exact q1'
       .exact q2'
       .exact hT.l t ht
       .rw[hz,aA]
       .rw[ak _ _ _ _ jb,aA,hz];rfl
       .intro b h1 h2 h3
        simp(disch:=omega) only[ak]
       .omega
       .omega
       .exact fr
      .have he:=iW (l:=ts (x-1)) jb (bs (x-1))
       obtain⟨k1,k2,k3⟩:=Js.f.blk (x-1) jb jb
       simp(disch:=try exact jz) only[go_sem,z3,t2,t3,t5,t6,t17,ou,au q2',au Q5,Q5,he,k1,hpt]
       refine⟨nc-(i+1),jb,i+1,aO ts (x-1) (ts (x-1)++[⟨.ofNat i,true,vF ((Int.ofNat (p2/2^min 6 16%9):Int):Rat)⟩]),aO bs (x-1) (σ3.aj+1+1),rfl,jb,rfl,?_,?_,TI.push (i:=i) ⟨Js.b,Js.f,Js.g,λt ht=>?_,Js.n,Js.fr⟩ jb (hgood true (p2/2^min 6 16%9) jb) ?_ ?_ ?_ ?_ ?_ ?_⟩
       .exact q1'
       .exact q2'
       .exact hT.l t ht
       .rw[aA]
       .rw[ak _ _ _ _ jb,aA];rfl
       .intro b h1 h2 h3
        have h3:=h3 jb
        simp(disch:=first|assumption|omega) only[ak,fM]
       .omega
       .omega
       .exact fr
     .by_cases hz:(ts (x-1)).length=0
      .have he:lu (ts (x-1)) (bs (x-1))=.aV:=by unfold lu;rw[ab hz]
       simp(disch:=try exact jz) only[go_sem,z3,t2,t3,t5,t6,t17,ou,au q2',au Q5,Q5,he]
       refine⟨nc-(i+1),jb,i+1,aO ts (x-1) (ts (x-1)++[⟨.ofNat i,false,vF ((Int.ofNat (0):Int):Rat)⟩]),aO bs (x-1) (σ3.aj+1+1),rfl,jb,rfl,?_,?_,TI.push (i:=i) ⟨Js.b,Js.f,Js.g,λt ht=>?_,Js.n,Js.fr⟩ jb (hgood false (0) jb) ?_ ?_ ?_ ?_ ?_ ?_⟩
       .exact q1'
       .exact q2'
       .exact hT.l t ht
       .rw[hz,aA]
       .rw[ak _ _ _ _ jb,aA,hz];rfl
       .intro b h1 h2 h3
        simp(disch:=omega) only[ak]
       .omega
       .omega
       .exact fr
      .have he:=iW (l:=ts (x-1)) jb (bs (x-1))
       obtain⟨k1,k2,k3⟩:=Js.f.blk (x-1) jb jb
       simp(disch:=try exact jz) only[go_sem,z3,t2,t3,t5,t6,t17,ou,au q2',au Q5,Q5,he,k1,hpt]
       refine⟨nc-(i+1),jb,i+1,aO ts (x-1) (ts (x-1)++[⟨.ofNat i,false,vF ((Int.ofNat (0):Int):Rat)⟩]),aO bs (x-1) (σ3.aj+1+1),rfl,jb,rfl,?_,?_,TI.push (i:=i) ⟨Js.b,Js.f,Js.g,λt ht=>?_,Js.n,Js.fr⟩ jb (hgood false (0) jb) ?_ ?_ ?_ ?_ ?_ ?_⟩
       .exact q1'
       .exact q2'
       .exact hT.l t ht
       .rw[aA]
       .rw[ak _ _ _ _ jb,aA];rfl
       .intro b h1 h2 h3
        have h3:=h3 jb
        simp(disch:=first|assumption|omega) only[ak,fM]
       .omega
       .omega
       .exact fr
  .have:i=nc:=jb
   subst this
   simp(disch:=try exact jz) only[go_sem,z3,am]
   exact⟨ts,bs,t2,t3,t5,q1,q2,hT⟩
 .rintro _ tm σ' ⟨rfl,ts,bs,t2,t3,t5,q1,q2,hT⟩
  have hF:=hT.fr
  have hle:=hT.fr.le
  have hn:=hT.n
  have Q5:=hT.b
  have hr0:=yj p0 8 65535 b0
  have hr1:=yj p0 32 65535 b0
  have hr2:=yj p0 96 65535 b0
  show bH EN (.seq _ _) _ _ _
  refine ab6 (λtm σ3=>∃ts bs i2,i2<=nc+1/\Tr.ah tm 2=.c (.ptr σ.aj 0)/\Tr.ah tm 5=.c (.sl (σ.aj+1+1) 0 3 (.ex 3))/\σ3.h σ.aj=some ⟨[x1,x2,x3,C,A],none⟩/\TI σ σ3 (σ.aj+1+1) i2 nc al ts bs) ?_ ?_
  .simp(disch:=try exact jz) only[go_sem,z3,t2,t3,t5,au q2]
   refine aH (λhcap=>?_) (λhcap=>?_)
   .generalize hx:p0/32%3=x at*
    have hx3:x<3:=jb
    have hkn:=qQ (ts x) (bs x)
    have hpl:=ach (ts x)
    have hpt:=XE (ts x)
    have hxl:=hT.l x hx3
    have hgood:Q8 nc al ⟨-1,true,vF ((Int.ofNat (p0/96%7):Int):Rat)⟩:=⟨.inl ⟨rfl,rfl⟩,_,jb,rfl⟩
    by_cases hz:(ts x).length=0
    .have he:lu (ts x) (bs x)=.aV:=by unfold lu;rw[ab hz]
     simp(disch:=try exact jz) only[go_sem,z3,t2,t3,t5,hx,au q2,au Q5,Q5,he]
     refine⟨aO ts x (ts x++[⟨-1,true,vF ((Int.ofNat (p0/96%7):Int):Rat)⟩]),aO bs x (σ'.aj+1),nc+1,jb,q1,TI.push hT hx3 hgood ?_ ?_ ?_ ?_ ?_ ?_⟩
     .rw[hz,aA]
     .rw[ak _ _ _ _ jb,aA,hz];rfl
     .intro b h1 h2 h3
      simp(disch:=omega) only[ak]
     .omega
     .omega
     .exact fr
    .have he:=iW (l:=ts x) jb (bs x)
     obtain⟨k1,k2,k3⟩:=hT.f.blk x hx3 jb
     simp(disch:=try exact jz) only[go_sem,z3,t2,t3,t5,hx,au q2,au Q5,Q5,he,k1,hpt]
     refine⟨aO ts x (ts x++[⟨-1,true,vF ((Int.ofNat (p0/96%7):Int):Rat)⟩]),aO bs x (σ'.aj+1),nc+1,jb,q1,TI.push hT hx3 hgood ?_ ?_ ?_ ?_ ?_ ?_⟩
     .rw[aA]
     .rw[ak _ _ _ _ jb,aA];rfl
     .intro b h1 h2 h3
      have h3:=h3 jb
      simp(disch:=first|assumption|omega) only[ak,fM]
     .omega
     .omega
     .exact fr
   .simp(disch:=try exact jz) only[go_sem,z3,am]
    exact⟨ts,bs,nc,jb,t2,t5,q1,hT⟩
  .rintro tm σ3 ⟨ts,bs,i2,hi2,t2,t5,q1,hT⟩
   have hF:=hT.fr
   have hle:=hT.fr.le
   have hn:=hT.n
   obtain⟨T,hT1,hT2⟩:=hA
   have Vs:∀j,j<al.length->(T j).kn=true:=λj hj=>by obtain⟨b,o,c,e,-,hld⟩:=hT1.pos jb;exact(vg (hld j hj)).2
   have hal:=hl.1
   have hAk:=hT1.kn
   by_cases h0:al.length=0
   .have hA0:A=.aV\/∃b o c,A=.sl b o 0 c:=by
     rcases hT1 with⟨-,e⟩|⟨b,o,c,e,-⟩
     .exact .inl e
     .exact .inr ⟨b,o,c,by rw[e,h0]⟩
    have hfin:∀h':Tr Bk,h'=hset (hset σ3.h σ3.aj ⟨[.sl (σ.aj+1+1) 0 3 (.ex 3)],none⟩) (σ3.aj+1) ⟨[.sl (σ.aj+1+1) 0 3 (.ex 3)],some (1,100)⟩->(∃rv a,V.c (.sl (σ3.aj+1) 0 1 .opn)=.c rv/\jd (λb=>p b\/σ.aj<=b/\b<σ3.aj+1+1) h' rv (al++[a])/\a.length=3/\∀t,t<3->Fe nc al (ix a t)/\(ix a t).length<=nc+1)/\Fr σ ⟨h',σ3.aj+1+1⟩:=λh' e=>by subst e;have:=agree_end (rb:=σ3.aj+1) (n':=σ3.aj+1+1) (h':=hset (hset σ3.h σ3.aj ⟨[.sl (σ.aj+1+1) 0 3 (.ex 3)],none⟩) (σ3.aj+1) ⟨[.sl (σ.aj+1+1) 0 3 (.ex 3)],some (1,100)⟩) hW hT2 Vs hT hi2 jb (by rw[aA,h0];rfl) (λb9 h9=>by simp(disch:=omega) only[ak]) jb jb (fr);rw[h0]at this;exact this
    rcases hA0 with rfl|⟨b,o,c,rfl⟩
    .simp(disch:=try exact jz) only[go_sem,z3,t2,t5,au q1,h1,h2,h3,h4,hAk]
     exact hfin _ rfl
    .simp(disch:=try exact jz) only[go_sem,z3,t2,t5,au q1,h1,h2,h3,h4,hAk]
     exact hfin _ rfl
   .obtain⟨b,o,c,rfl,-,hld⟩:=hT1.pos jb
    have hbl:=hW.dw (hld 0 jb)
    obtain⟨kk,e1,e2,e3,e4,e5⟩:=Ja jb λi hi=>hF.ld hW (hld i hi)
    simp(disch:=try exact jz) only[go_sem,z3,t2,t5,au q1,h1,h2,h3,h4,hAk,e1,e3,e4,e5,e2]
    refine agree_end hW hT2 Vs hT hi2 jb ?_ ?_ jb jb ?_
    .rw[aA,qP (e:=1) (G:=λi=>[T i]) (λ_=>rfl),jI]
     congr 2
     refine bF λj hj=>?_
     unfold iT
     by_cases e:j=al.length
     .rw[ab e,ae jb]
     .rw[ae e,ab jb]
    .intro b9 h9
     simp(disch:=omega) only[ak,fM]
    .exact fr
end Go.Proofs.Xe
