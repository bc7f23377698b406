import Derived.Test.YthkggcakedkboaaGreatDoorYa30
import Derived.Test.YthkggcakedkboaaGreatDoorYa27
set_option linter.all false
set_option maxRecDepth 100000
set_option maxHeartbeats 8000000
namespace Go.Proofs.Xe
open Go.RowKit Go.Proofs.Ins
def L6{a b:Rat}:0<=qj a b↔b<=a:=by rw[<-Int.not_lt,qA];grind
def Gj(p:Rat):zO p 0=oz p:=by
 unfold zO oz;by_cases h:0<=p
 .rw[ab h,ab (L6.mpr h)]
 .rw[ae h,ae λe=>h (L6.mp e)]
def JM{p:Rat}(h:0<=p):oz p=p:=ab h
def afD(W:Rat)(q:Nat->Rat)(k:Nat):Rat:=oz (aB (k+1) q-W)-oz (aB k q-W)
def Yu(σ σ':St)(r:V)(n:Nat)(f:Nat->Rat):Prop:=∃b,r=.c (.sl b 0 n (.ex n))/\σ'.h b=some ⟨cZ n f,none⟩/\σ.aj<=b/\b<σ'.aj
theorem Zk.zC{D:Nat}{f:Nat->Rat}:∀{n:Nat},(∀i,i<n->Zk D 1 (f i))->Zk D n (aB n f)
 |0,_=>Zk.zero
 |n+1,h=>(Zk.zC λi hi=>h i jb).add (h n jb)
def Zk.pq{D k:Nat}{q:Rat}(h:Zk D k q):Zk D k (oz q):=by
 unfold oz;split
 .exact h
 .exact Zk.zero.mono (bz _)
def ajA:1000000<=256^uK:=az (by decide:1000000<=256^3) (bN jj jj)
def afE{σ:St}(hW:WF σ){p:Nat->Prop}{wn:Bool}{ws wd:ByteArray}{W:Rat}(hw:rq wn ws wd=W)(hws:ws.size+wd.size<=130000000){v:B}{m:Nat}{q:Nat->Rat}(hv:jC p σ.h v m q)(hm:m<=1000)(hq:∀k,k<m->0<=q k)(h0:0<=W){D:Nat}(hD:BJ D)(hWz:Zk D 1 W)(hqz:∀k,k<m->Zk D 1 (q k)):
  aC EN 61 [.agg [.bool wn,.str ws,.str wd],.c v] σ λr σ'=>Yu σ σ' r m (afD W q)/\Fr σ σ':=by
 refine aN (oq.o _ _) oq.h ?_
 unfold oq
 dsimp only
 have hlen:=aY.len hv
 have hFr:=Fr.refl hW
 have hu:=ajA
 have hp:=λ(args:List V) (σ:St) (K:V->St->Prop)=>kT (E:=EN) (K:=K) (gY.o args σ) gY.h
 unfold gY at hp
 dsimp only at hp
 simp(disch:=try exact jz) only[go_sem,z3,hlen]
 refine aF (λx tm σ'=>∃k,x=m-k/\k<=m/\Tr.ah tm 2=.c (.ptr σ.aj 0)/\Tr.ah tm 5=.c (.sl (σ.aj+1) 0 m (.ex m))/\Tr.ah tm 6=.c (.ptr (σ.aj+1+1) 0)/\Tr.ah tm 7=.c (.ptr (σ.aj+1+1+1) 0)/\Tr.ah tm 16=.c v/\Tr.ah tm 17=.c (.int .i64 (.ofNat m))/\Tr.ah tm 18=.c (.int .i64 (.ofNat k))
  /\σ'.h σ.aj=some ⟨[.bool wn,.str ws,.str wd],none⟩/\σ'.h (σ.aj+1)=some ⟨cZ m (λi=>if i<k then afD W q i else 0),none⟩/\σ'.h (σ.aj+1+1)=some ⟨[.bool (rn (aB k q)),.str (rs (aB k q)),.str (rd (aB k q))],none⟩/\σ'.h (σ.aj+1+1+1)=some ⟨[.bool (rn (oz (aB k q-W))),.str (rs (oz (aB k q-W))),.str (rd (oz (aB k q-W)))],none⟩
  /\Fr σ σ'/\σ.aj+1+1+1+1<=σ'.aj) m ?_ ?_
 .refine⟨0,jb,jb,?_⟩
  have e0:oz (0-W)=0:=by grind[oz]
  simp(disch:=try exact jz) only[go_sem,z3,am]
  refine⟨?_,rfl,?_,fr,jb⟩
  .rw[xW]
  .show _=some (Bk.mk [.bool (rn (oz (0-W))),.str (rs (oz (0-W))),.str (rd (oz (0-W)))] none)
   rw[e0]
 .rintro x tm σ' ⟨k,rfl,hk,t2,t5,t6,t7,t16,t17,oJ,q2,q5,q6,q7,hf,hnx⟩
  have hle:=hf.le
  simp(disch:=try exact jz) only[go_sem,z3,t2,t5,t6,t7,t16,t17,oJ,aG]
  refine aH (λhlt=>?_) (λhlt=>?_)
  .obtain⟨b5,o5,c5,rfl,-,bF⟩:=aY.at3 hv hlt
   have bF:=hf.ld hW bF
   have hqk:=hq k hlt
   have hzk:=hqz k hlt
   have hzs:Zk D k (aB k q):=Zk.zC λi hi=>hqz i jb
   have z1:Sz (q k):=hzk.sz hD jb
   have z2:Sz (aB k q):=hzs.sz hD jb
   have z3':=(hzs.add hzk)
   have z4:Sz (aB k q+q k):=z3'.sz hD jb
   have z5:Sz W:=hWz.sz hD jb
   have z6:Sz (aB k q+q k-W):=(z3'.sub hWz).sz hD jb
   have z7:Sz (oz (aB k q+q k-W)):=(z3'.sub hWz).pq.sz hD jb
   have z8:Sz (oz (aB k q-W)):=(hzs.sub hWz).pq.sz hD jb
   have z9:=Sz.zero
   have z10:=Sz.zero.two
   have e1:oz (q k)=q k:=JM hqk
   have e2:oz W=W:=JM h0
   have jM:=Fr.refl hf.wf
   simp(disch:=try exact jz) only[go_sem,z3,t2,t5,t6,t7,t16,t17,oJ,bF,ak q2,ak q6,aJ q6,ak q7,aJ q7,aJ q5,q5,q6,q7,Gj,e1,e2,hw,hp]
   refine⟨m-(k+1),jb,k+1,rfl,jb,rfl,q2,?_,rfl,rfl,fr,jb⟩
   exact cf (λl=>some (Bk.mk l none)) (rP m k (afD W q))
  .have:k=m:=jb
   subst this
   simp(disch:=try exact jz) only[go_sem,z3,t5]
   exact⟨⟨_,rfl,by rw[q5,yM],jb,jb⟩,hf⟩
def abe{σ:St}(hW:WF σ){p p':Nat->Prop}{w1 w2 w3 L lv:B}{eY:List Ins.Lg}{n:Nat}{kk:Nat->Nat}{f:Nat->Nat->Rat}(hL:CX p σ.h L eY)(hR:dR p' σ.h lv n kk f)(h1:w1.kn=true)(h2:w2.kn=true)(h3:w3.kn=true)(hl:eY.length<=1000)(IX:∀j,j<eY.length->∃e c:Nat,ix eY j=⟨.ofNat e,.ofNat c⟩/\e<n/\c<kk e):
  aC EN 62 [.agg [w1,w2,w3,L],.c lv] σ λr σ'=>Yu σ σ' r eY.length (λj=>f (vN (ix eY j)).1 (vN (ix eY j)).2)/\Fr σ σ':=by
 refine aN (vg.o _ _) vg.h ?_
 unfold vg
 dsimp only
 have hlen:=aY.len hL
 have hLk:=aY.kn hL
 have hFr:=Fr.refl hW
 simp(disch:=try exact jz) only[go_sem,z3,hlen,hLk,h1,h2,h3]
 refine aF (λx tm σ'=>∃j,x=eY.length-j/\j<=eY.length/\Tr.ah tm 1=.c lv/\Tr.ah tm 5=.c (.sl (σ.aj+1) 0 eY.length (.ex eY.length))/\Tr.ah tm 13=.c L/\Tr.ah tm 14=.c (.int .i64 (.ofNat eY.length))/\Tr.ah tm 15=.c (.int .i64 (.ofNat j))
  /\σ'.h (σ.aj+1)=some ⟨cZ eY.length (λi=>if i<j then f (vN (ix eY i)).1 (vN (ix eY i)).2 else 0),none⟩/\Fr σ σ'/\σ.aj+1+1<=σ'.aj) eY.length ?_ ?_
 .refine⟨0,jb,jb,?_⟩
  simp(disch:=try exact jz) only[go_sem,z3,am]
  exact⟨by rw[xW],fr,jb⟩
 .rintro x tm σ' ⟨j,rfl,hj,t1,t5,t13,t14,t15,q5,hf,hnx⟩
  have hle:=hf.le
  simp(disch:=try exact jz) only[go_sem,z3,t1,t5,t13,t14,t15,aG]
  refine aH (λhlt=>?_) (λhlt=>?_)
  .obtain⟨b5,o5,c5,rfl,-,bF⟩:=aY.pos hL jb
   have bF:=hf.ld hW (bF j hlt)
   obtain⟨e,c,EW,he,hc⟩:=IX j hlt
   obtain⟨b6,o6,c6,T,rfl,-,bZ,hT⟩:=hR.at he
   obtain⟨b7,o7,c7,rfl,-,dB⟩:=aY.at3 hT hc
   have bZ:=hf.ld hW bZ
   have dB:=hf.ld hW dB
   have hb6:=hf.wf.bV bZ
   have hb7:=hf.wf.bV dB
   have jM:=Fr.refl hf.wf
   unfold Ll at bF
   have hst:=rP eY.length j λi=>f (vN (ix eY i)).1 (vN (ix eY i)).2
   rw[show f (vN (ix eY j)).1 (vN (ix eY j)).2=f e c by rw[EW];rfl]at hst
   rw[EW]at bF
   simp(disch:=try exact jz) only[go_sem,z3,t1,t5,t13,t14,t15,bF,bZ,dB,q5,aJ q5,hst]
   exact⟨eY.length-(j+1),jb,j+1,rfl,jb,rfl,rfl,fr,jb⟩
  .have:j=eY.length:=jb
   subst this
   simp(disch:=try exact jz) only[go_sem,z3,t5]
   exact⟨⟨_,rfl,by rw[q5,yM],jb,jb⟩,hf⟩
def apJ{σ:St}(hW:WF σ){p:Nat->Prop}{v:B}{n:Nat}{f:Nat->Rat}(hv:jC p σ.h v n f)(hn:n<=1000)(hz:∀i,i<n->Sz (f i))(hs:∀i,i<=n->Sz (aB i f)):
  aC EN 24 [.c v] σ λr σ'=>r=.agg [.bool (rn (aB n f)),.str (rs (aB n f)),.str (rd (aB n f))]/\Fr σ σ':=by
 refine aN (xw.o _ _) xw.h ?_
 unfold xw
 dsimp only
 have hlen:=aY.len hv
 have hFr:=Fr.refl hW
 simp(disch:=try exact jz) only[go_sem,z3,hlen]
 refine aF (λx tm σ'=>∃j,x=n-j/\j<=n/\Tr.ah tm 2=.c (.ptr σ.aj 0)/\Tr.ah tm 3=.c (.ptr (σ.aj+1) 0)/\Tr.ah tm 7=.c v/\Tr.ah tm 8=.c (.int .i64 (.ofNat n))/\Tr.ah tm 9=.c (.int .i64 (.ofNat j))
  /\σ'.h σ.aj=some ⟨[.bool (rn 0),.str (rs 0),.str (rd 0)],none⟩/\σ'.h (σ.aj+1)=some ⟨[.bool (rn (aB j f)),.str (rs (aB j f)),.str (rd (aB j f))],none⟩/\Fr σ σ'/\σ.aj+1+1<=σ'.aj) n ?_ ?_
 .refine⟨0,jb,jb,?_⟩
  simp(disch:=try exact jz) only[go_sem,z3,am]
  exact⟨rfl,fr,jb⟩
 .rintro x tm σ' ⟨j,rfl,hj,t2,t3,t7,t8,t9,q2,q3,hf,hnx⟩
  have hle:=hf.le
  simp(disch:=try exact jz) only[go_sem,z3,t2,t3,t7,t8,t9,aG]
  refine aH (λhlt=>?_) (λhlt=>?_)
  .obtain⟨b5,o5,c5,rfl,-,bF⟩:=aY.at3 hv hlt
   have bF:=hf.ld hW bF
   have z1:=hz j hlt
   have z2:=hs j jb
   have jM:=Fr.refl hf.wf
   simp(disch:=try exact jz) only[go_sem,z3,t2,t3,t7,t8,t9,bF,ak q3,q3,aJ q3]
   exact⟨n-(j+1),jb,j+1,rfl,jb,rfl,q2,rfl,fr,jb⟩
  .have:j=n:=jb
   subst this
   simp(disch:=try exact jz) only[go_sem,z3,t2,t3,ak q3,q2,aJ q2]
   exact fr
structure Fam(p:Nat->Prop)(h:Tr Bk)(nn bb:Nat->Nat)(GG:Nat->Nat->List B)(ee tt:Nat->Nat)(QQ:Nat->(Nat->Prop)->Tr Bk->Nat->Prop)(lo hi:Nat):Prop where
 g:∀k,x9 (nn k) h (bb k)=gF (nn k) (GG k) (ee k) (tt k)
 L:∀k,LG (GG k) (ee k)
 l1:∀k,lo<=bb k
 l2:∀k,nn k=0\/bb k<hi
 ne:∀k k',k≠k'->nn k=0\/nn k'=0\/bb k≠bb k'
 np:∀k,nn k=0\/¬p (bb k)
 q:∀k j,j<nn k->QQ k p h j
 pp:∀x,p x->lo<=x/\x<hi
section
variable {p p' : Nat→Prop} {h h' h1:Tr Bk} {nn bb:Nat→Nat} {GG GG' : Nat→Nat→List B} {ee tt:Nat→Nat} {QQ QQ' : Nat→(Nat→Prop)→Tr Bk→Nat→Prop} {lo hi:Nat}
theorem Fam.nil(hn:∀k,nn k=0)(hL:∀k,LG (GG k) (ee k)):Fam (λ_=>False) h nn (λ_=>lo) GG ee tt QQ lo hi:=
 ⟨λk=>by rw[hn k];rfl,hL,λ_=>jp,λk=>.inl (hn k),λk _ _=>.inl (hn k),λk=>.inl (hn k),λk j hj=>by grind,λ_ h=>h.elim⟩
def Fam.keep(ho:Fam p h nn bb GG ee tt QQ lo hi)(hQ:∀k j,QK (QQ k) j)(hh:∀b,lo<=b->b<hi->h' b=h b){hi':Nat}(h2:hi<=hi'):Fam p h' nn bb GG ee tt QQ lo hi':=by obtain⟨g,L,l1,l2,ne,np,q,pp⟩:=ho;refine⟨λk=>?_,L,l1,λk=>by grind,ne,np,λk j hj=>hQ k j _ _ _ _ (q k j hj) (λb hb=>hh b (pp b hb).1 (pp b hb).2) λ_ hb=>hb,λx hx=>by grind⟩;grind[Go.Proofs.Xe.wE]
def Fam.push(ho:Fam p h nn bb GG ee tt QQ lo hi)(k:Nat){hi1 nx n':Nat}(hp:∀x,p x->p' x)(hp2:∀x,p' x->p x\/hi<=x/\x<hi1)(hQ:∀k j,QK (QQ' k) j)(hQQ:∀k j,j<nn k->∀p h,QQ k p h j->QQ' k p h j)(hG:∀k j,j<nn k->GG' k j=GG k j)(hL:∀k,LG (GG' k) (ee k))
  (hx:QQ' k p' h1 (nn k)) (hh:∀x,lo<=x->x<hi->h1 x=h x) (h2:hi<=hi1) (h3:hi1<=nx) (h4:nx<n') (h5:lo<=hi){x:List B}(hb:h' nx=some ⟨bH (nn k) (GG k)++x,some (ee k,tt k)⟩) (hgn:x=GG' k (nn k)) (hk:∀c,lo<=c->c<hi1->nn k=0\/c≠bb k->h' c=h1 c):
  Fam p' h' (aP nn k (nn k+1)) (aP bb k nx) GG' ee tt QQ' lo n':=by
 obtain⟨g,L,l1,l2,ne,np,q,pp⟩:=ho
 have hp':∀b,p' b->lo<=b/\b<hi1/\(nn k=0\/b≠bb k):=λb hb=>by grind
 have hnp:∀k',nn k'=0\/¬p' (bb k'):=λk'=>by grind
 refine⟨λk'=>?_,hL,λk'=>?_,λk'=>?_,λa b hab=>?_,λk'=>?_,λk' j hj=>?_,λx hx=>by grind⟩
 .by_cases e:k'=k
  .subst e
   rw[aO,aO]
   show h' nx=some _
   grind[Go.Proofs.Xe.kY,Go.Proofs.Xe.bY,Go.Proofs.Xe.ji]
  .rw[aQ _ _ _ _ e,aQ _ _ _ _ e]
   have h6:x9 (nn k') h' (bb k')=x9 (nn k') h (bb k'):=wE (by grind)
   rw[h6,g k']
   generalize hm:nn k'=m
   cases m with
   |zero=>rfl
   |succ m=>show some _=some _;grind[bY]
 .grind[aO,aQ]
 .grind[aO,aQ]
 .grind[aQ,aO]
 .grind[aO,aQ]
 .by_cases e:k'=k/\j=nn k
  .obtain⟨rfl,rfl⟩:=e
   exact hQ _ _ _ _ _ _ hx (λb hb=>hk b (hp' b hb).1 (hp' b hb).2.1 (hp' b hb).2.2) λ_ h=>h
  .have hj':j<nn k':=by
    by_cases e2:k'=k
    .subst e2;rw[aO]at hj;have:¬j=nn k':=λe3=>e ⟨rfl,e3⟩;omega
    .rwa[aQ _ _ _ _ e2]at hj
   exact hQ _ _ _ _ _ _ (hQQ k' j hj' _ _ (q k' j hj')) (λb hb=>by have:=hp' b (hp b hb);rw[hk b this.1 this.2.1 this.2.2,hh b (pp b hb).1 (pp b hb).2]) hp
def Fam.hlp(ho:Fam p h nn bb GG ee tt QQ lo hi)(k:Nat)(he:0<ee k)(hk:∀j,j<nn k->(GG k j).all B.kn=true){q:Nat->Prop}(hq:∀b,lo<=b->b<hi->q b):aY q h (ee k) (aU (nn k) (bb k)) (nn k) (GG k):=by
 have g:=ho.g k;have hl:=ho.l2 k;have hL:=ho.L k;have hlo:=ho.l1 k;generalize nn k=n at*;cases n with
 |zero=>exact .inl ⟨rfl,rfl⟩
 |succ n=>exact bD _ g (CQ _ _ jb) (hq _ hlo jb) hL he hk
def Fam.keep'(ho:Fam p h nn bb GG ee tt QQ lo hi)(hQ:∀k j,QK (QQ k) j)(hp:∀b,p b->h' b=h b)(hh:∀k,nn k=0\/h' (bb k)=h (bb k)):Fam p h' nn bb GG ee tt QQ lo hi:=by obtain⟨g,L,l1,l2,ne,np,q,pp⟩:=ho;exact⟨λk=>(wE (hh k)).trans (g k),L,l1,l2,ne,np,λk j hj=>hQ k j _ _ _ _ (q k j hj) hp λ_ hb=>hb,pp⟩
structure uP(p:Nat->Prop)(h:Tr Bk)(nn bb:Nat->Nat)(GG:Nat->Nat->List B)(ee tt:Nat->Nat)(QQ:Nat->(Nat->Prop)->Tr Bk->Nat->Prop)(m:Nat)(kk:Nat->Nat)(C:Nat->Nat->List B)(bs:Nat->Nat)(lo hi:Nat):Prop where
 f:Fam p h nn bb GG ee tt QQ lo hi
 r:lM h m kk C bs lo hi
 w:∀j,j<m->¬p (bs j)
 n:∀j k,j<m->nn k=0\/bb k≠bs j
variable {m:Nat} {kk:Nat→Nat} {C:Nat→Nat→List B} {bs:Nat→Nat}
def uP.keep(ho:uP p h nn bb GG ee tt QQ m kk C bs lo hi)(hQ:∀k j,QK (QQ k) j)(hh:∀b,lo<=b->b<hi->h' b=h b){hi':Nat}(h2:hi<=hi'):uP p h' nn bb GG ee tt QQ m kk C bs lo hi':=
 ⟨ho.f.keep hQ hh h2,ho.r.mono hh jp h2,ho.w,ho.n⟩
def uP.push(ho:uP p h nn bb GG ee tt QQ m kk C bs lo hi)(k:Nat){hi1 nx n':Nat}(hp:∀x,p x->p' x)(hp2:∀x,p' x->p x\/hi<=x/\x<hi1)(hQ:∀k j,QK (QQ' k) j)(hQQ:∀k j,j<nn k->∀p h,QQ k p h j->QQ' k p h j)(hG:∀k j,j<nn k->GG' k j=GG k j)(hL:∀k,LG (GG' k) (ee k))
  (hx:QQ' k p' h1 (nn k)) (hh:∀x,lo<=x->x<hi->h1 x=h x) (h2:hi<=hi1) (h3:hi1<=nx) (h4:nx<n') (h5:lo<=hi){x:List B}(hb:h' nx=some ⟨bH (nn k) (GG k)++x,some (ee k,tt k)⟩) (hgn:x=GG' k (nn k)) (hk:∀c,lo<=c->c<hi1->nn k=0\/c≠bb k->h' c=h1 c):
  uP p' h' (aP nn k (nn k+1)) (aP bb k nx) GG' ee tt QQ' m kk C bs lo n':=by
 refine⟨ho.f.push k hp hp2 hQ hQQ hG hL hx hh h2 h3 h4 h5 hb hgn hk,ho.r.mono' (λj hj=>?_) jp jb,λj hj hb=>?_,λj i hj=>?_⟩
 .obtain⟨-,k2,k3⟩:=ho.r.r j hj
  have:=ho.n j k hj
  grind
 .obtain⟨-,k2,k3⟩:=ho.r.r j hj
  rcases hp2 _ hb with hb|hb
  .exact ho.w j hj hb
  .omega
 .obtain⟨-,k2,k3⟩:=ho.r.r j hj
  by_cases e:i=k
  .grind[aO]
  .rw[aQ nn _ _ _ e,aQ bb _ _ _ e];exact ho.n j i hj
def uP.pushRow(ho:uP p h nn bb GG ee tt QQ m kk C bs lo hi)(k:Nat){hi1 nx n' nb:Nat}(hQ:∀k j,QK (QQ' k) j)(hQQ:∀k j,j<nn k->∀p h,QQ k p h j->QQ' k p h j)(hG:∀k j,j<nn k->GG' k j=GG k j)(hL:∀k,LG (GG' k) (ee k))
  (hx:QQ' k p h1 (nn k)) (hh:∀x,lo<=x->x<hi->h1 x=h x) (h2:hi<=hi1) (h3:hi1<=nx) (h4:nx<n') (h5:lo<=hi){x:List B}(hb:h' nx=some ⟨bH (nn k) (GG k)++x,some (ee k,tt k)⟩) (hgn:x=GG' k (nn k)) (hk:∀c,lo<=c->c<hi1->nn k=0\/c≠bb k->h' c=h1 c)
  (h6:hi<=nb) (h7:nb<hi1) (hr:h' nb=some ⟨bH (kk m) (C m),none⟩):
  uP p h' (aP nn k (nn k+1)) (aP bb k nx) GG' ee tt QQ' (m+1) kk C (aP bs m nb) lo n':=by
 have hP:=ho.push k (p':=p) (λ_ h=>h) (λ_ h=>.inl h) hQ hQQ hG hL hx hh h2 h3 h4 h5 hb hgn hk
 refine⟨hP.f,ho.r.push hr rfl h6 jb jb λb h8 h9 ⟨i,hi,e⟩=>?_,λj hj=>?_,λj i hj=>?_⟩
 .have:=ho.n i k hi
  grind
 .by_cases e:j=m
  .subst e;rw[aO];exact λh=>by have:=ho.f.pp _ h;omega
  .rw[aQ _ _ _ _ e];exact ho.w j jb
 .by_cases e:j=m
  .subst e
   rw[aO bs]
   by_cases e2:i=k
   .grind[aO]
   .rw[aQ nn _ _ _ e2,aQ bb _ _ _ e2]
    have:=ho.f.l2 i;omega
  .rw[aQ bs _ _ _ e];exact hP.n j i jb
def uP.write(ho:uP p h nn bb GG ee tt QQ m kk C bs lo hi)(hQ:∀k j,QK (QQ k) j){j c:Nat}{x l:List B}(hj:j<m)(hl:l=bH (kk j) (ji (C j) c x)):uP p (hset h (bs j) ⟨l,none⟩) nn bb GG ee tt QQ m kk (rH C j c x) bs lo hi:=by
 refine⟨ho.f.keep' hQ (λb hb=>au _ _ _ _ λe=>ho.w j hj (e▸hb)) (λk=>?_),ho.r.set hj hl,ho.w,ho.n⟩;rcases ho.n j k hj with e|e
 .omega
 grind[au]
theorem uP.grow(ho:uP p h nn bb GG ee tt QQ m kk C bs lo hi)(hQ:∀k j,QK (QQ k) j)(hh:∀b,lo<=b->b<hi->h' b=h b){hi':Nat}(h2:hi<=hi')(hp:∀x,p x->p' x)(hp2:∀x,p' x->p x\/hi<=x/\x<hi')(h3:lo<=hi):uP p' h' nn bb GG ee tt QQ m kk C bs lo hi':=by
 obtain⟨⟨g,L,l1,l2,ne,np,q,pp⟩,r,w,n⟩:=ho;refine⟨⟨λk=>?_,L,l1,λk=>by grind,ne,λk=>?_,λk j hj=>hQ k j _ _ _ _ (q k j hj) (λb hb=>hh b (pp b hb).1 (pp b hb).2) hp,λx hx=>?_⟩,r.mono hh jp h2,λj hj hb=>?_,n⟩
 .grind[Go.Proofs.Xe.wE]
 .grind
 .grind
 .obtain⟨-,k2,k3⟩:=r.r j hj;grind
def uP.same(ho:uP p h nn bb GG ee tt QQ m kk C bs lo hi)(k:Nat){hi1:Nat}(hh:∀x,lo<=x->x<hi->h1 x=h x)(h2:hi<=hi1)(hk:∀c,lo<=c->c<hi1->nn k=0\/c≠bb k->h' c=h1 c):∀x,p x->h' x=h x:=λx hx=>by
 have h3:=ho.f.pp x hx;rw[hk x h3.1 jb ?_,hh x h3.1 h3.2];rcases ho.f.np k with e|e
 .omega
 grind
end
def awh(p:Nat->Prop)(h:Tr Bk)(lv:B)(el:List zJ):Prop:=∃R P:Nat->B,aY p h 6 lv el.length (λi=>jB (ix el i).c.length (R i) (P i) (l9 (ix el i) (ix el i).c.length))/\∀i,i<el.length->yL p h (R i) (P i) (bW (ix el i))
def ajB(p:Nat->Prop)(h:Tr Bk)(bv:B)(el:List zJ)(L:List fC):Prop:=∃T:Nat->B,aY p h 1 bv el.length (λi=>[T i])/\∀i,i<el.length->aY p h 1 (T i) (ix el i).c.length λc=>[.bool (L.contains (i,c))]
structure E5(p:Nat->Prop)(h:Tr Bk)(sb:Nat)(g:fP):Prop where
 s:∃ev dv lv bv,h sb=some ⟨[ev,dv,lv,bv],none⟩/\sS p h ev dv g/\awh p h lv g.e/\ajB p h bv g.e (aZ g).eY
 b:p sb
def E5.keep{p q:Nat->Prop}{h h':Tr Bk}{sb:Nat}{g:fP}(hs:E5 p h sb g)(hk:∀b,p b->h' b=h b)(hp:∀b,p b->q b):E5 q h' sb g:=by obtain⟨⟨ev,dv,lv,bv,h1,h2,⟨R,P,h3,h4⟩,T,h5,h6⟩,hb⟩:=hs;exact⟨⟨ev,dv,lv,bv,by rw[hk _ hb];exact h1,h2.keep hk hp,⟨R,P,h3.keep hk hp,λi hi=>(h4 i hi).keep hk hp⟩,T,h5.keep hk hp,λi hi=>(h6 i hi).keep hk hp⟩,hp _ hb⟩
theorem E5.fr{σ σ':St}(hf:Fr σ σ'){sb:Nat}{g:fP}(hs:E5 (Lt σ.aj) σ.h sb g):E5 (Lt σ'.aj) σ'.h sb g:=hs.keep (λb hb=>hf.old b hb) λb hb=>aL hb hf.le
def Bd(i:Nat):Nat->Nat:=λk=>if k=2\/k=3 then i else 0
def kE(el:List zJ)(i:Nat):Nat:=(ix el i).c.length
def bG(el:List zJ)(R P:Nat->B)(bs:Nat->Nat):Nat->Nat->List B
 |2=>λi=>jB (ix el i).c.length (R i) (P i) (l9 (ix el i) (ix el i).c.length)
 |3=>λi=>[yc (kE el) bs i]
 |_=>λ_=>[]
def bE:Nat->Nat
 |2=>6
 |3=>1
 |_=>0
def bT:Nat->Nat
 |2=>113
 |3=>32
 |_=>0
def bQ(el:List zJ)(R P:Nat->B):Nat->(Nat->Prop)->Tr Bk->Nat->Prop
 |2=>λp h i=>yL p h (R i) (P i) (bW (ix el i))
 |_=>NoQ
def ajC(el:List zJ)(R P:Nat->B)(bs:Nat->Nat)(k:Nat):LG (bG el R P bs k) (bE k):=by intro j;unfold bG bE;split<;>rfl
def afF(el:List zJ)(R P:Nat->B)(k j:Nat):QK (bQ el R P k) j:=by
 unfold bQ;split
 .exact λ_ _ _ _ hp hk hq=>hp.keep hk hq
 .exact Kz j
def O6(L:List fC)(i c:Nat):List B:=[.bool (L.contains (i,c))]
abbrev abf(el:List zJ)(p:Nat->Prop)(h:Tr Bk)(nn bb:Nat->Nat)(R P:Nat->B)(bs:Nat->Nat)(m:Nat)(L:List fC)(lo hi:Nat):Prop:=uP p h nn bb (bG el R P bs) bE bT (bQ el R P) m (kE el) (O6 L) bs lo hi
def afG(i:Nat):aP (aP (Bd i) 2 (Bd i 2+1)) 3 (aP (Bd i) 2 (Bd i 2+1) 3+1)=Bd (i+1):=by grind[aP,Bd]
theorem Yv{kk bs:Nat->Nat}{m nb j:Nat}(h:j≠m):yc kk (aP bs m nb) j=yc kk bs j:=by grind[yc,aQ]
def adi(i k:Nat):Bd i k<=i:=by grind[Bd]
def asQ{el:List zJ}{R P:Nat->B}{i j:Nat}(h:j<i)(rv pv:B)(k:Nat)(p:Nat->Prop)(H:Tr Bk)(hq:bQ el R P k p H j):bQ el (aP R i rv) (aP P i pv) k p H j:=by
 unfold bQ at hq⊢;split
 .grind[aQ]
 .trivial
def asR{el:List zJ}{R P:Nat->B}{bs:Nat->Nat}{i j:Nat}(h:j<i)(rv pv:B)(k:Nat):bG el (aP R i rv) (aP P i pv) bs k j=bG el R P bs k j:=by unfold bG;grind[aQ]
def asT{el:List zJ}{R P:Nat->B}{bs:Nat->Nat}{m nb j:Nat}(k:Nat)(h:k=3->j<m):bG el R P (aP bs m nb) k j=bG el R P bs k j:=by unfold bG;grind[Yv]
def rQ{n:Nat}(h:0<n)(b:Nat):aU n b=.sl b 0 n .opn:=by
 cases n with
 |zero=>omega
 |succ n=>rfl
def BF(dl:List uU)(j:Nat):List fC:=(dl.take j).flatMap λd=>d.l.map vN
def abg{dl:List uU}{j:Nat}(h:j<dl.length):BF dl (j+1)=BF dl j++(ix dl j).l.map vN:=by grind[BF,bC]
def afH(g:fP):BF g.d g.d.length=(aZ g).eY:=by grind[BF,GL.eY,aZ,List.flatMap_map]
def afI(L:List fC)(e c:Nat):rH (O6 L) e c [.bool true]=O6 (L++[(e,c)]):=by grind[rH,O6]
structure Yw(A:Nat)(g:fP):Prop where
 n:g.e.length<=1000
 d:g.d.length<=1000
 e:∀i,i<g.e.length->JK A (ix g.e i)
 l:∀d,d<g.d.length->(ix g.d d).l.length<=1000
 lg:∀d,d<g.d.length->∀k,k<(ix g.d d).l.length->∃e c:Nat,ix (ix g.d d).l k=⟨.ofNat e,.ofNat c⟩/\e<g.e.length/\c<(ix g.e e).c.length
def Yx(ev dv:B)(n:Nat)(bb:Nat->Nat):List B:=[ev,dv,aU n (bb 2),aU n (bb 3)]
def adk{σ:St}(hW:WF σ){p:Nat->Prop}{ev dv:B}(g:fP)(hg:sS p σ.h ev dv g){A:Nat}(hA:BJ A)(hO:Yw A g):
  aC EN 31 [.agg [ev,dv]] σ λr σ'=>(∃sb,r=.c (.ptr sb 0)/\E5 (Lt σ'.aj) σ'.h sb g)/\Fr σ σ':=by
 refine aN (sW.o _ _) sW.h ?_
 unfold sW
 dsimp only
 have hek:=hg.e.kn
 have hdk:=hg.d.kn
 have hlenE:=hg.e.len
 have hlenD:=hg.d.len
 have hne:=hO.n
 have hnd:=hO.d
 have hFr:=Fr.refl hW
 simp(disch:=try exact jz) only[go_sem,z3,hek,hdk,hlenE]
 refine bI.mono (Q:=λex tm σ'=>ex=.exit 0/\∃p bb R P bs,Tr.ah tm 1=.c (.ptr σ.aj 0)/\Tr.ah tm 3=.c (.ptr (σ.aj+1) 0)/\σ'.h σ.aj=some ⟨[ev,dv],none⟩/\σ'.h (σ.aj+1)=some ⟨Yx ev dv g.e.length bb,none⟩
   /\abf g.e p σ'.h (Bd g.e.length) bb R P bs g.e.length [] (σ.aj+1+1) σ'.aj/\Fr σ σ'/\σ.aj+1+1<=σ'.aj)
  (aF (λq tm σ'=>∃i p bb R P bs,q=g.e.length-i/\i<=g.e.length/\Tr.ah tm 1=.c (.ptr σ.aj 0)/\Tr.ah tm 3=.c (.ptr (σ.aj+1) 0)/\Tr.ah tm 14=.c ev/\Tr.ah tm 15=.c (.int .i64 (.ofNat g.e.length))/\Tr.ah tm 16=.c (.int .i64 (.ofNat i))/\σ'.h σ.aj=some ⟨[ev,dv],none⟩/\σ'.h (σ.aj+1)=some ⟨Yx ev dv i bb,none⟩
   /\abf g.e p σ'.h (Bd i) bb R P bs i [] (σ.aj+1+1) σ'.aj/\Fr σ σ'/\σ.aj+1+1<=σ'.aj) g.e.length ?_ ?_) ?_
 .refine⟨0,λ_=>False,λ_=>σ.aj+1+1,λ_=>.aX,λ_=>.aX,λ_=>0,jb,jb,?_⟩
  simp(disch:=try exact jz) only[go_sem,z3,am]
  refine⟨rfl,⟨Fam.nil (λk=>?_) (ajC _ _ _ _),lM.nil _ _ _ _ _ _,λj hj=>jb,λj k hj=>jb⟩,fr,jb⟩
  unfold Bd;split<;>rfl
 .rintro q tm σ' ⟨i,p,bb,R,P,bs,rfl,hi,t1,t3,t14,t15,t16,q0,q1,hS,hf,hnx⟩
  have hle:=hf.le
  simp(disch:=try exact jz) only[go_sem,z3,t1,t3,t14,t15,t16,aG]
  refine aH (λhlt=>?_) (λhlt=>?_)
  .obtain⟨b5,o5,c5,rfl,C1,A1,bF,-,hC,hA1⟩:=hg.e.at hlt
   have bF:=hf.ld hW bF
   have JJ:=aY.kn hC
   have hAk:=hA1.kn
   have hlo2:=hS.f.l1 2
   have hlo3:=hS.f.l1 3
   have hhi2:i=0\/bb 2<σ'.aj:=hS.f.l2 2
   have hhi3:i=0\/bb 3<σ'.aj:=hS.f.l2 3
   have awi:i=0\/i=0\/bb 2≠bb 3:=hS.f.ne 2 3 jj
   unfold Yx at q1
   refine IV (run_seq (Ee (OX (λtm σ5=>∃p bb R P,Tr.ah tm 1=.c (.ptr σ.aj 0)/\Tr.ah tm 3=.c (.ptr (σ.aj+1) 0)/\Tr.ah tm 5=.c (.ptr σ'.aj 0)/\Tr.ah tm 14=.c (.sl b5 o5 g.e.length c5)/\Tr.ah tm 15=.c (.int .i64 (.ofNat g.e.length))/\Tr.ah tm 16=.c (.int .i64 (.ofNat i))
     /\σ5.h σ.aj=some ⟨[.sl b5 o5 g.e.length c5,dv],none⟩/\σ5.h (σ.aj+1)=some ⟨[.sl b5 o5 g.e.length c5,dv,aU (i+1) (bb 2),aU i (bb 3)],none⟩/\σ5.h σ'.aj=some ⟨[.bool (ix g.e i).m.n,.str (ix g.e i).m.s,.str (ix g.e i).m.d,C1,A1],none⟩/\abf g.e p σ5.h (aP (Bd i) 2 (Bd i 2+1)) bb R P bs i [] (σ.aj+1+1) σ5.aj/\Fr σ σ5/\σ'.aj<σ5.aj) ?_ ?_)))
   .have jM:=Fr.refl hf.wf
    simp(disch:=try exact jz) only[go_sem,z3,t1,t3,t14,t15,t16,bF,JJ,hAk,ak q1]
    refine aC.st (Fr σ') (fr) λiw=>?_
    have hf5:=hf.trans iw
    refine(awg iw.wf (aY.fr hW hf5 hC) (hA1.fr hW hf5) rfl rfl rfl hA (hO.e i hlt)).mono ?_
    rintro _ σ6 ⟨⟨rv,pv,rfl,hL⟩,gJ⟩
    have jF:=iw.trans gJ
    have abd:=hf.trans jF
    have yg:σ'.aj+1<=σ6.aj:=gJ.le
    have q06:=jF.get hf.wf q0
    have q16:=jF.get hf.wf q1
    have q56:σ6.h σ'.aj=some ⟨[.bool (ix g.e i).m.n,.str (ix g.e i).m.s,.str (ix g.e i).m.d,C1,A1],none⟩:=gJ.get iw.wf (aA _ _ _)
    have hrk:=hL.rk.kn
    have hpk:=hL.V4
    have hS6:=hS.keep (afF _ _ _) (λb _ hb=>jF.old b hb) jp
    have hg6:x9 i σ6.h (bb 2)=gF i (bG g.e R P bs 2) 6 113:=hS6.f.g 2
    have hLG:LG (bG g.e R P bs 2) 6:=ajC _ _ _ _ 2
    unfold jB
    simp(disch:=try exact jz) only[go_sem,z3,t1,t3,t14,t15,t16,hrk,hpk,ak q16,q16,hg6]
    refine⟨λb=>p b\/σ'.aj<=b/\b<σ6.aj,aP bb 2 (σ6.aj+1),aP R i rv,aP P i pv,?_⟩
    and_intros<;>try(first|rfl|omega|exact q06|exact q56|exact fr)
    refine hS.push 2 (hi1:=σ6.aj) (h1:=σ6.h) (λx h=>.inl h) (λx h=>h) (afF _ _ _) (λk j hj p h hq=>asQ (aL hj (adi i k)) rv pv k p h hq) (λk j hj=>asR (aL hj (adi i k)) rv pv k) (ajC _ _ _ _) ?_ (λb _ hb=>jF.old b hb) jb jb jb hnx
     (x:=jB (ix g.e i).c.length rv pv (l9 (ix g.e i) (ix g.e i).c.length)) ?_ ?_ λc h1 h2 h3=>?_
    .show yL _ _ (aP R i rv i) (aP P i pv i) _
     rw[aO,aO]
     exact hL.keep (λ_ _=>rfl) λb hb=>.inr ⟨az (eE _) hb.1,hb.2⟩
    .rw[au _ _ _ _ jb,aA];rfl
    .show _=jB _ (aP R i rv i) (aP P i pv i) _
     rw[aO,aO];rfl
    .rw[au _ _ _ _ jb,au _ _ _ _ jb,iq i _ _ _ h3,au _ _ _ _ jb]
   .rintro tm5 σ5 ⟨p5,mF,R5,P5,t1,t3,t5,t14,t15,t16,q0,q1,q5,hS5,hf5,hn5⟩
    have uM:=hf5.le
    have hlo2:=hS5.f.l1 2
    have hlo3:=hS5.f.l1 3
    have hhi2:i+1=0\/mF 2<σ5.aj:=hS5.f.l2 2
    have hhi3:i=0\/mF 3<σ5.aj:=hS5.f.l2 3
    have awi:i+1=0\/i=0\/mF 2≠mF 3:=hS5.f.ne 2 3 jj
    have hg5:x9 i σ5.h (mF 3)=gF i (bG g.e R5 P5 bs 3) 1 32:=hS5.f.g 3
    have hLG:LG (bG g.e R5 P5 bs 3) 1:=ajC _ _ _ _ 3
    have hnc:=(hO.e i hlt).nc
    have hlC:=aY.len hC
    have Gn:=Fr.refl hf5.wf
    simp(disch:=try exact jz) only[go_sem,z3,t1,t3,t5,t14,t15,t16,hlC,JJ,hAk,ak q1,ak q5,q1,hg5]
    refine⟨g.e.length-(i+1),jb,i+1,p5,aP mF 3 (σ5.aj+1+1),R5,P5,aP bs i σ5.aj,rfl,jb,rfl,q0,rfl,?_,fr,jb⟩
    rw[<-afG]
    refine hS5.pushRow 3 (hi1:=σ5.aj+1) (nb:=σ5.aj) (h1:=hset σ5.h σ5.aj ⟨bH (kE g.e i) (O6 [] i),none⟩) (afF _ _ _) (λk j hj p h hq=>hq) (λk j hj=>asT (m:=i) k λe=>by subst e;exact hj) (ajC _ _ _ _) trivial (λb _ hb=>au _ _ _ _ jb) jb jb jb jb (x:=[yc (kE g.e) (aP bs i σ5.aj) i]) ?_ rfl (λc h1 h2 h3=>?_) jb jb ?_
    .rw[au _ _ _ _ jb,aA]
     unfold yc
     rw[aO];rfl
    .rw[au _ _ _ _ jb,au _ _ _ _ jb,iq i _ _ _ h3,au _ _ _ _ jb];rfl
    .rw[au _ _ _ _ jb,au _ _ _ _ jb,iq _ _ _ _ jb,au _ _ _ _ jb,aA];rfl
  .have:i=g.e.length:=jb
   subst this
   simp(disch:=try exact jz) only[go_sem,z3,am]
   exact⟨p,bb,R,P,bs,t1,t3,q0,q1,hS,hf,hnx⟩
 rintro _ tm σ2 ⟨rfl,p2,bb,R,P,bs,t1,t3,q0,q1,hS,hf,hnx⟩
 have hle:=hf.le
 have azZ:∀k,bb k<σ2.aj\/Bd g.e.length k=0:=λk=>(hS.f.l2 k).symm
 simp(disch:=try exact jz) only[go_sem,z3,t1,t3,ak q0,hdk,hlenD]
 refine bI.mono (Q:=λex tm σ'=>ex=.exit 2/\Tr.ah tm 3=.c (.ptr (σ.aj+1) 0)/\σ'.h (σ.aj+1)=some ⟨Yx ev dv g.e.length bb,none⟩/\abf g.e p2 σ'.h (Bd g.e.length) bb R P bs g.e.length (BF g.d g.d.length) (σ.aj+1+1) σ'.aj/\Fr σ σ'/\σ.aj+1+1<=σ'.aj)
  (aF (λq tm σ'=>∃j,q=g.d.length-j/\j<=g.d.length/\Tr.ah tm 3=.c (.ptr (σ.aj+1) 0)/\Tr.ah tm 46=.c dv/\Tr.ah tm 47=.c (.int .i64 (.ofNat g.d.length))/\Tr.ah tm 48=.c (.int .i64 (.ofNat j))
   /\σ'.h (σ.aj+1)=some ⟨Yx ev dv g.e.length bb,none⟩/\abf g.e p2 σ'.h (Bd g.e.length) bb R P bs g.e.length (BF g.d j) (σ.aj+1+1) σ'.aj/\Fr σ σ'/\σ.aj+1+1<=σ'.aj) g.d.length ?_ ?_) ?_
 .refine⟨0,jb,jb,?_⟩
  simp(disch:=try exact jz) only[go_sem,z3,t3,am]
  exact⟨q1,hS,hf,hnx⟩
 .rintro q tm σ' ⟨j,rfl,hj,t3,t46,t47,t48,q1,hS,hf,hnx⟩
  have hle:=hf.le
  simp(disch:=try exact jz) only[go_sem,z3,t3,t46,t47,t48,aG]
  refine aH (λhlt=>?_) (λhlt=>?_)
  .obtain⟨b5,o5,c5,rfl,T1,bF,hT⟩:=hg.d.el hlt
   have bF:=hf.ld hW bF
   have JH:=aY.kn hT
   have hlT:=aY.len hT
   have hll:=hO.l j hlt
   have jM:=Fr.refl hf.wf
   simp(disch:=try exact jz) only[go_sem,z3,t3,t46,t47,t48,bF,JH,hlT]
   refine bI.st (Fr σ') (fr) λhF3=>?_
   have hf3:=hf.trans hF3
   have hS3:=hS.keep (afF _ _ _) (λb _ hb=>hF3.old b hb) hF3.le
   have q13:=hF3.get hf.wf q1
   have hle3:=hF3.le
   refine bI.mono (Q:=λex tm σ4=>ex=.exit 4/\Tr.ah tm 3=.c (.ptr (σ.aj+1) 0)/\Tr.ah tm 46=.c (.sl b5 o5 g.d.length c5)/\Tr.ah tm 47=.c (.int .i64 (.ofNat g.d.length))/\Tr.ah tm 48=.c (.int .i64 (.ofNat j))/\σ4.h (σ.aj+1)=some ⟨Yx ev (.sl b5 o5 g.d.length c5) g.e.length bb,none⟩/\abf g.e p2 σ4.h (Bd g.e.length) bb R P bs g.e.length (BF g.d (j+1)) (σ.aj+1+1) σ4.aj/\Fr σ σ4/\σ.aj+1+1<=σ4.aj)
    (aF (λq tm σ4=>∃t,q=(ix g.d j).l.length-t/\t<=(ix g.d j).l.length/\Tr.ah tm 3=.c (.ptr (σ.aj+1) 0)/\Tr.ah tm 46=.c (.sl b5 o5 g.d.length c5)/\Tr.ah tm 47=.c (.int .i64 (.ofNat g.d.length))/\Tr.ah tm 48=.c (.int .i64 (.ofNat j))/\Tr.ah tm 53=.c T1/\Tr.ah tm 54=.c (.int .i64 (.ofNat (ix g.d j).l.length))/\Tr.ah tm 55=.c (.int .i64 (.ofNat t))
     /\σ4.h (σ.aj+1)=some ⟨Yx ev (.sl b5 o5 g.d.length c5) g.e.length bb,none⟩/\abf g.e p2 σ4.h (Bd g.e.length) bb R P bs g.e.length (BF g.d j++((ix g.d j).l.take t).map vN) (σ.aj+1+1) σ4.aj/\Fr σ σ4/\σ.aj+1+1<=σ4.aj) (ix g.d j).l.length ?_ ?_) ?_
   .refine⟨0,jb,jb,?_⟩
    simp(disch:=try exact jz) only[go_sem,z3,t3,t46,t47,t48,am,cE,List.map_nil,cW]
    exact⟨q1,hS3,hf3,jb⟩
   .rintro q tm σ4 ⟨t,rfl,ht,t3,t46,t47,t48,t53,t54,t55,Yy,hS4,hf4,hn4⟩
    have uO:=hf4.le
    simp(disch:=try exact jz) only[go_sem,z3,t3,t46,t47,t48,t53,t54,t55,aG]
    refine aH (λhlt4=>?_) (λhlt4=>?_)
    .obtain⟨b6,o6,c6,rfl,-,bZ⟩:=aY.pos hT jb
     have bZ:=hf4.ld hW (bZ t hlt4)
     obtain⟨e,c,EW,he,hc⟩:=hO.lg j hlt t hlt4
     unfold Ll at bZ
     rw[EW]at bZ
     have hrow:ld σ4.h (bb 3) (0+e*1) 1 false=some (.c (yc (kE g.e) bs e)):=by obtain⟨b7,o7,c7,e7,-,dB⟩:=aY.pos (hS4.f.hlp 3 (q:=λ_=>True) jj (λ_ _=>rfl) λ_ _ _=>trivial) (show 0<Bd g.e.length 3 by show 0<g.e.length;omega);have e8:aU g.e.length (bb 3)=.sl b7 o7 g.e.length c7:=e7;rw[rQ jb]at e8;cases e8;exact(vK (dB e he)).1
     unfold yc kE at hrow
     rw[cM]at hrow
     obtain⟨hr1,hr2,hr3⟩:=hS4.r.r e he
     have hr1:σ4.h (bs e)=some ⟨ones (ix g.e e).c.length λc=>.bool ((BF g.d j++((ix g.d j).l.take t).map vN).contains (e,c)),none⟩:=hr1
     have hb3:=hS4.f.l1 3
     have anW:bb 3<σ4.aj:=by rcases hS4.f.l2 3 with h|h;exact absurd (show g.e.length=0 from h) jb;exact h
     have ER:=Fr.refl hf4.wf
     have hfp:=rQ (show 0<g.e.length by omega) (bb 3)
     have asU:=Yy
     unfold Yx at asU
     rw[hfp]at asU
     simp(disch:=try exact jz) only[go_sem,z3,t3,t46,t47,t48,t53,t54,t55,bZ,ak asU,hrow,aJ hr1,hr1]
     refine⟨(ix g.d j).l.length-(t+1),jb,t+1,rfl,jb,rfl,Yy,?_,fr,jb⟩
     have e9:BF g.d j++((ix g.d j).l.take (t+1)).map vN=(BF g.d j++((ix g.d j).l.take t).map vN)++[(e,c)]:=by rw[bC hlt4,List.map_append,gl,EW];rfl
     rw[e9]
     show uP _ _ _ _ _ _ _ _ _ _ (O6 _) _ _ _
     rw[<-afI]
     refine(hS4.keep (h':=hset (hset σ4.h σ4.aj ⟨[i0,i0],none⟩) σ4.aj ⟨[.int .i64 (.ofNat e),.int .i64 (.ofNat c)],none⟩) (afF _ _ _) (λb _ hb=>by rw[au _ _ _ _ jb,au _ _ _ _ jb]) (eE _)).write (afF _ _ _) he (bY λc' _=>?_)
     unfold ji aP O6
     split<;>rfl
    .have:t=(ix g.d j).l.length:=jb
     subst this
     simp(disch:=try exact jz) only[go_sem,z3,am]
     rw[bR,<-abg hlt]at hS4
     exact⟨t3,t46,t47,t48,Yy,hS4,hf4,hn4⟩
   .rintro _ tm σ4 ⟨rfl,t3,t46,t47,t48,Yy,hS4,hf4,hn4⟩
    simp(disch:=try exact jz) only[go_sem,z3,t3,t46,t47,t48]
    exact⟨g.d.length-(j+1),jb,j+1,rfl,jb,rfl,Yy,hS4,hf4,hn4⟩
  .have:j=g.d.length:=jb
   subst this
   simp(disch:=try exact jz) only[go_sem,z3,am]
   exact⟨t3,q1,hS,hf,hnx⟩
 rintro _ tm σ3 ⟨rfl,t3,q1,hS,hf,hnx⟩
 have hle:=hf.le
 simp(disch:=try exact jz) only[go_sem,z3,t3]
 refine⟨⟨_,rfl,⟨_,_,_,_,q1,(hg.fr hW hf).keep (λ_ _=>rfl) λb hb=>aL hb hf.le,⟨R,P,?_,λi hi=>?_⟩,?_⟩,by show _<_;omega⟩,hf⟩
 .refine(hS.f.hlp 2 jj (λj hj=>?_) λb _ h2=>h2)
  have:=hS.f.q 2 j hj
  show List.all (jB _ _ _ _) B.kn=true
  unfold jB
  have h1:(R j).kn=true:=yL.rk this|>.kn
  have h2:(P j).kn=true:=yL.V4 this
  simp only[cO,eo,ahO,Ar,FY,h1,h2,dy]
 .exact yL.keep (hS.f.q 2 i hi) (λ_ _=>rfl) λb hb=>(hS.f.pp b hb).2
 .refine⟨λi=>yc (kE g.e) bs i,hS.f.hlp 3 jj (λ_ _=>rfl) λb _ h2=>h2,λi hi=>?_⟩
  rw[<-afH]
  exact hS.r.hlp (λb _ h2=>h2) jj (λ_ _=>rfl) (λ_ _ _ _=>rfl) hi
structure awj(D:Nat)(g:fP)(x:Nat->Rat):Prop where
 hD:BJ D
 n:g.e.length<=1000
 d:g.d.length<=1000
 e:∀i,i<g.e.length->EOk D (kE g.e i) (bW (ix g.e i))/\MOk D (bW (ix g.e i)) (x i)/\Sz (l9 (ix g.e i) (kE g.e i))/\Sz (x i-l9 (ix g.e i) (kE g.e i))
 k:∀i,i<g.e.length->kE g.e i<=1000
 w:∀d,d<g.d.length->(ix g.d d).w.fits 1000000/\0<=(ix g.d d).w.q/\Zk D 1 (ix g.d d).w.q
 l:∀d,d<g.d.length->(ix g.d d).l.length<=1000/\∀k,k<(ix g.d d).l.length->∃e c:Nat,ix (ix g.d d).l k=⟨.ofNat e,.ofNat c⟩/\e<g.e.length/\c<kE g.e e
 q:∀i,i<g.e.length->∀c,c<kE g.e i->0<=gq (aZ g) x (i,c)/\Zk D 1 (gq (aZ g) x (i,c))
 r:∀i,i<g.e.length->∀c,c<kE g.e i->Sz (EU (aZ g) x (i,c))
 nd:(aZ g).eY.Nodup
def grF(g:fP)(x:Nat->Rat)(i c:Nat):Rat:=y7 (bW (ix g.e i)) (x i) c
def L8(g:fP)(x:Nat->Rat)(i c:Nat):Rat:=pO (bW (ix g.e i)) (x i) c
def suF(g:fP)(x:Nat->Rat)(i:Nat):Rat:=zO (x i-l9 (ix g.e i) (kE g.e i)) 0
def rsF(g:fP)(x:Nat->Rat)(i:Nat):Rat:=VZ (bW (ix g.e i)) (x i)
def fuF(g:fP)(x:Nat->Rat)(i:Nat):Bool:=decide (0<=qj (x i) (l9 (ix g.e i) (kE g.e i)))
def sG(g:fP)(x:Nat->Rat)(T:Nat->Nat->B)(bs:Nat->Nat):Nat->Nat->List B
 |1=>λi=>[T 1 i]
 |2=>λi=>[T 2 i]
 |3=>λi=>[yc (kE g.e) bs i]
 |4=>λi=>[T 4 i]
 |5=>λi=>fE (suF g x i)
 |6=>λi=>fE (rsF g x i)
 |7=>λi=>[.bool (fuF g x i)]
 |_=>λ_=>[]
def sE:Nat->Nat
 |1=>1
 |2=>1
 |3=>1
 |4=>1
 |5=>3
 |6=>3
 |7=>1
 |_=>0
def sT:Nat->Nat
 |1=>30
 |2=>30
 |3=>30
 |4=>30
 |5=>42
 |6=>42
 |7=>4
 |_=>0
def sQ(g:fP)(x:Nat->Rat)(T:Nat->Nat->B):Nat->(Nat->Prop)->Tr Bk->Nat->Prop
 |1=>Qh (T 1) (kE g.e) (grF g x)
 |2=>Qh (T 2) (kE g.e) (L8 g x)
 |4=>Qh (T 4) (kE g.e) λi c=>nT (aZ g) x (i,c)
 |_=>NoQ
def O7(g:fP)(x:Nat->Rat)(T:Nat->Nat->B)(bs:Nat->Nat)(k:Nat):LG (sG g x T bs k) (sE k):=by intro j;unfold sG sE;split<;>rfl
def Qk(g:fP)(x:Nat->Rat)(T:Nat->Nat->B)(k j:Nat):QK (sQ g x T k) j:=by
 unfold sQ;split
 .exact DL _ _ _ j
 .exact DL _ _ _ j
 .exact DL _ _ _ j
 .exact Kz j
def rU(T:Nat->Nat->B)(k i:Nat)(v:B):Nat->Nat->B:=λk' j=>if k'=k/\j=i then v else T k' j
def L9{T:Nat->Nat->B}{k i k' j:Nat}(h:k'≠k\/j≠i)(v:B):rU T k i v k' j=T k' j:=ae jb
def mO(T:Nat->Nat->B)(k i:Nat)(v:B):rU T k i v k i=v:=ab ⟨rfl,rfl⟩
def abh{g:fP}{x:Nat->Rat}{T:Nat->Nat->B}{bs:Nat->Nat}{k i:Nat}{v:B}{k' j:Nat}(h:k'=k->j<i):sG g x (rU T k i v) bs k' j=sG g x T bs k' j:=by
 have hu:∀a,k'=a->rU T k i v a j=T a j:=λa e=>L9 (by by_cases e2:a=k;exact .inr (by have:=h (e.trans e2);omega);exact .inl e2) v;unfold sG;split
 .show [rU T k i v 1 j]=_;rw[hu 1 rfl]
 .show [rU T k i v 2 j]=_;rw[hu 2 rfl]
 .rfl
 .show [rU T k i v 4 j]=_;rw[hu 4 rfl]
 .rfl
 .rfl
 .rfl
 .rfl
def abj{g:fP}{x:Nat->Rat}{T:Nat->Nat->B}{k i:Nat}{v:B}{k' j:Nat}(h:k'=k->j<i){p:Nat->Prop}{H:Tr Bk}(hq:sQ g x T k' p H j):sQ g x (rU T k i v) k' p H j:=by
 have hu:∀a,k'=a->rU T k i v a j=T a j:=λa e=>L9 (by by_cases e2:a=k;exact .inr (by have:=h (e.trans e2);omega);exact .inl e2) v;unfold sQ at hq⊢;split
 .show aY _ _ _ (rU T k i v 1 j) _ _;rw[hu 1 rfl];exact hq
 .show aY _ _ _ (rU T k i v 2 j) _ _;rw[hu 2 rfl];exact hq
 .show aY _ _ _ (rU T k i v 4 j) _ _;rw[hu 4 rfl];exact hq
 .trivial
def asV{g:fP}{x:Nat->Rat}{T:Nat->Nat->B}{bs:Nat->Nat}{m nb j:Nat}(k:Nat)(h:k=3->j<m):sG g x T (aP bs m nb) k j=sG g x T bs k j:=by
 unfold sG;split
 .rfl
 .rfl
 .show [yc _ _ j]=_;have:=h rfl;rw[Yv jb]
 all_goals rfl
def DR(cm:B)(nn bb:Nat->Nat):List B:=[cm,aU (nn 1) (bb 1),aU (nn 2) (bb 2),aU (nn 3) (bb 3),aU (nn 4) (bb 4),aU (nn 5) (bb 5),aU (nn 6) (bb 6),aU (nn 7) (bb 7)]
def rC(R:Nat->Nat->Rat)(i c:Nat):List B:=fE (R i c)
abbrev Bf(g:fP)(x:Nat->Rat)(p:Nat->Prop)(h:Tr Bk)(nn bb:Nat->Nat)(T:Nat->Nat->B)(m:Nat)(R:Nat->Nat->Rat)(bs:Nat->Nat)(lo hi:Nat):Prop:=uP p h nn bb (sG g x T bs) sE sT (sQ g x T) m (kE g.e) (rC R) bs lo hi
def rZ(i m:Nat):Nat->Nat
 |1=>i
 |2=>i
 |3=>i
 |4=>m
 |5=>i
 |6=>i
 |7=>i
 |_=>0
def abk(tm:Tr V)(rb sb mb n ob i lb xb:Nat)(lv dv:B):Prop:=Tr.ah tm 0=.c (.ptr sb 0)/\Tr.ah tm 1=.c (.sl mb 0 n (.ex n))/\Tr.ah tm 4=.c (.ptr rb 0)/\Tr.ah tm 5=.c (.ptr ob 0)/\Tr.ah tm 6=.c (.int .i64 (.ofNat i))/\Tr.ah tm 7=.c (.ptr lb 0)/\Tr.ah tm 8=.c dv/\Tr.ah tm 9=.c (.ptr xb 0)/\Tr.ah tm 25=.c lv/\Tr.ah tm 26=.c (.int .i64 (.ofNat n))/\Tr.ah tm 27=.c (.int .i64 (.ofNat i))
structure abl(σ:St)(g:fP)(x:Nat->Rat)(cm:B)(ob i:Nat)(LB:List B)(lb xb:Nat)(dv:B)(nn:Nat->Nat)(m:Nat)(p:Nat->Prop)(bb:Nat->Nat)(T:Nat->Nat->B)(bs:Nat->Nat)(σ5:St):Prop where
 o:σ5.h ob=some ⟨DR cm nn bb,none⟩
 l:σ5.h lb=some ⟨LB,none⟩
 rx:σ5.h xb=some ⟨fE (rsF g x i),none⟩
 pl:p lb
 px:p xb
 d:jC p σ5.h dv (kE g.e i) (L8 g x i)
 S:Bf g x p σ5.h nn bb T m (λ_ _=>0) bs (ob+1) σ5.aj
 f:Fr σ σ5
 n:ob+1<=σ5.aj
section
variable {σ σ5:St} {g:fP} {x:Nat→Rat} {cm:B} {ob i:Nat} {LB:List B} {lb xb:Nat} {dv:B} {nn:Nat→Nat} {m:Nat} {p p' : Nat→Prop} {bb:Nat→Nat} {T T' : Nat→Nat→B} {bs:Nat→Nat}
def abl.push(H:abl σ g x cm ob i LB lb xb dv nn m p bb T bs σ5)(k:Nat){hi1 nx n':Nat}{h1 h':Tr Bk}(hp:∀b,p b->p' b)(hp2:∀b,p' b->p b\/σ5.aj<=b/\b<hi1)(hQQ:∀k' j,j<nn k'->∀p h,sQ g x T k' p h j->sQ g x T' k' p h j)(hG:∀k' j,j<nn k'->sG g x T' bs k' j=sG g x T bs k' j)(hx:sQ g x T' k p' h1 (nn k))(hh:∀b,b<σ5.aj->h1 b=σ5.h b)
  (h2:σ5.aj<=hi1) (h3:hi1<=nx) (h4:nx<n'){y:List B}(hb:h' nx=some ⟨bH (nn k) (sG g x T bs k)++y,some (sE k,sT k)⟩) (hgn:y=sG g x T' bs k (nn k)) (hk:∀c,c≠ob->c<hi1->nn k=0\/c≠bb k->h' c=h1 c) (ho:h' ob=some ⟨DR cm (aP nn k (nn k+1)) (aP bb k nx),none⟩) (hf:Fr σ ⟨h',n'⟩):
  abl σ g x cm ob i LB lb xb dv (aP nn k (nn k+1)) m p' (aP bb k nx) T' bs ⟨h',n'⟩:=by
 have hn:=H.n
 have hS:=H.S.push k hp hp2 (Qk g x T') hQQ hG (O7 g x T' bs) hx (λb _ hb=>hh b hb) h2 h3 h4 hn hb hgn λc hc h5 h6=>hk c jb h5 h6
 have hs:=H.S.same k (λb _ hb=>hh b hb) h2 λc hc h5 h6=>hk c jb h5 h6
 exact⟨ho,(hs _ H.pl).trans H.l,(hs _ H.px).trans H.rx,hp _ H.pl,hp _ H.px,aY.keep H.d hs hp,hS,hf,by show ob+1<=n';omega⟩
def abl.pushRow(H:abl σ g x cm ob i LB lb xb dv nn m p bb T bs σ5)(hm:nn 3<=m){hi1 nx n' nb:Nat}{h1 h':Tr Bk}(hh:∀b,b<σ5.aj->h1 b=σ5.h b)(h2:σ5.aj<=hi1)(h3:hi1<=nx)(h4:nx<n'){y:List B}(hb:h' nx=some ⟨bH (nn 3) (sG g x T bs 3)++y,some (1,30)⟩)(hgn:y=[yc (kE g.e) (aP bs m nb) (nn 3)])(hk:∀c,c≠ob->c<hi1->nn 3=0\/c≠bb 3->h' c=h1 c)(ho:h' ob=some ⟨DR cm (aP nn 3 (nn 3+1)) (aP bb 3 nx),none⟩)(hf:Fr σ ⟨h',n'⟩)
  (h6:σ5.aj<=nb) (h7:nb<hi1) (hr:h' nb=some ⟨bH (kE g.e m) λ_=>fE 0,none⟩):
  abl σ g x cm ob i LB lb xb dv (aP nn 3 (nn 3+1)) (m+1) p (aP bb 3 nx) T (aP bs m nb) ⟨h',n'⟩:=by
 have hn:=H.n
 have hS:=H.S.pushRow 3 (Qk g x T) (λ_ _ _ _ _ h=>h) (λk j hj=>asV (m:=m) (nb:=nb) k λe=>by subst e;omega) (O7 g x T _) trivial (λb _ hb=>hh b hb) h2 h3 h4 hn hb hgn (λc hc h5 h6=>hk c jb h5 h6) h6 h7 hr
 have hs:=H.S.same 3 (λb _ hb=>hh b hb) h2 λc hc h5 h6=>hk c jb h5 h6
 exact⟨ho,(hs _ H.pl).trans H.l,(hs _ H.px).trans H.rx,H.pl,H.px,aY.keep H.d hs λ_ h=>h,hS,hf,by show ob+1<=n';omega⟩
end
end Go.Proofs.Xe
