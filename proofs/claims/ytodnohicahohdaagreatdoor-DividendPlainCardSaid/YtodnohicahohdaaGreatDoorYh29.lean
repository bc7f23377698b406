import Derived.Test.YtodnohicahohdaaGreatDoorYh28
set_option linter.all false
set_option maxRecDepth 100000
set_option maxHeartbeats 8000000
attribute [-go_sem] Go.Proofs.Xe.azd Go.Proofs.Xe.aze Go.Proofs.Xe.azf
namespace Go.Proofs.Xe
open Go.RowKit Go.Proofs.Ins
def U4(n:Nat):decide (Int.ofNat n≠Int.ofNat n)=false:=ap kc
def aqI{J:St}(hW:WF J){n:Nat}(hn:n<=1000000){f g:Nat->Rat}{a b:B}(h1:HL J.h 3 a n λc=>bY (f c))(h2:HL J.h 3 b n λc=>bY (g c)):
  aB EN 280 [.c a,.c b] J λr J'=>(∃d:Bool,r=.c (.bool d)/\(d=true↔∀i,i<n->f i=g i))/\Fr J J':=by
 refine aI (jc.o _ _) jc.h ?_
 unfold jc
 dsimp only
 have hla:=h1.len
 have hlb:=h2.len
 have hFr:=Fr.refl hW
 simp(disch:=try exact jz)only[go_sem,hla,hlb]
 refine aG (λx tm J'=>∃j,x=n-j/\j<=n/\r8 tm 0=.c a/\r8 tm 1=.c b/\r8 tm 12=jN n/\r8 tm 13=jN j/\(∀i,i<j->f i=g i)/\Fr J J') n ?_ ?_
 .refine⟨0,jb,jb,?_⟩
  refine WP ?_
  exact⟨λi hi=>absurd hi jb,hFr⟩
 .rintro x tm J' ⟨j,rfl,hj,t0,t1,t12,t13,he,hF⟩
  simp(disch:=try exact jz)only[go_sem,t12,t13,aC]
  refine aH (λhlt=>?_) (λhlt=>?_)
  .obtain⟨b5,o5,c5,rfl,bD⟩:=h1.pos jb
   obtain⟨b6,o6,c6,rfl,bV⟩:=h2.pos jb
   have bD:ld J'.h b5 (o5+j*3) 3 true=some (.agg (rK (f j))):=hF.ld hW (bD j hlt)
   have bV:ld J'.h b6 (o6+j*3) 3 true=some (.agg (rK (g j))):=hF.ld hW (bV j hlt)
   have lM:=Fr.refl hF.wf
   by_cases hfg:f j=g j
   .have hd:decide (f j=g j)=true:=aw hfg
    simp(disch:=try exact jz)only[go_sem,W4,bD,bV,hd]
    exact⟨n-(j+1),jb,j+1,rfl,jb,rfl,λi hi=>by rcases dq.mp hi with h|rfl;exact he i h;exact hfg,hF⟩
   .have hd:decide (f j=g j)=false:=ap hfg
    simp(disch:=try exact jz)only[go_sem,t0,t1,t13,bD,bV,hd]
    exact⟨⟨_,rfl,⟨λh=>(by cases h),λh=>absurd (h j hlt) hfg⟩⟩,hF⟩
  .have:j=n:=jb
   subst this
   refine WN ?_
   exact⟨⟨_,rfl,⟨λ_=>he,λ_=>rfl⟩⟩,hF⟩
def av9{e:fK}{m g:Rat}(hS:SOk e m)(h:JK e m=some g):Sz g:=by
 unfold JK at h;cases hg:nZ e.rk m with
 |none=>rw[hg]at h;cases h
 |some g0=>
  rw[hg]at h
  cases h
  rcases C9 e m e.ps g0 with h|⟨p,hp,d,h1,h2,h3⟩
  .rw[h];exact hS.rk _ hg
  .rw[h3];exact(hS.ps p hp d h1).2
def awc:Option Rat->V
 |some g=>.aU (.agg (rK g)) (.aU (.c (.bool true)) .tnil)
 |none=>.aU (.agg (rK 0)) (.aU (.c (.bool false)) .tnil)
def awd{J:St}(hW:WF J){n:Nat}{rv pv:B}(t:Rat)(e:fK)(hL:LK J.h rv pv e)(x:Rat)(hN:CZ e)(h0:0<=x)(S:Rat->Prop)(hS0:S x)
  (hS:∀m,S m->∃D,DW D/\EOk D n e/\MOk D e m/\ROk D e m/\SOk e m) (hSt:∀m g,S m->JK e m=some g->S (m+g)):
  aB EN 198 [.agg (jU n rv pv t),.agg (rK x)] J λr J'=>(∃o,Yp e n x x o/\r=awc o)/\Fr J J':=by
 refine aI (mM.o _ _) mM.h ?_
 unfold mM jU
 dsimp only
 simp(disch:=try exact jz)only[go_sem,hL.rk.kn,hL.pkn]
 refine aB.st (Fr J) (fr) λhF=>?_
 obtain⟨D,hD,he,q1,q2,-⟩:=hS x hS0
 refine(QW hF.wf t e (hL.fr hW hF) x hD he q1 q2).mono ?_
 rintro _ σ1 ⟨⟨b1,c1,o1,rfl,hb1,aDN,aCj,hlo1,hhi1⟩,hf1⟩
 have hF1:=hF.trans hf1
 have hl1:J.aj+1+1+1<=σ1.aj:=hf1.le
 have hx0:σ1.h J.aj=some ⟨[.int .i64 (.ofNat n),rv,pv,.bool (rn t),.str (rs t),.str (rd t)],none⟩:=hf1.get hF.wf ((au _ _ _ _ jb).trans ((au _ _ _ _ jb).trans (aA _ _ _)))
 have hx1:σ1.h (J.aj+1)=some ⟨(rK x),none⟩:=hf1.get hF.wf ((au _ _ _ _ jb).trans (aA _ _ _))
 have hx2:σ1.h (J.aj+1+1)=some ⟨(rK 0),none⟩:=hf1.get hF.wf (aA _ _ _)
 refine WN ?_
 have acY:=hf1.wf.lt hb1
 have hlo1:J.aj+1+1+1<=b1:=hlo1
 refine aG (λq tm J'=>∃m,q=opn e m/\S m/\0<=m/\(∀o,Yp e n x m o->Yp e n x x o)/\r8 tm 2=.c (.ptr J.aj 0)/\r8 tm 3=.c (.ptr (J.aj+1) 0)/\r8 tm 4=.c (.ptr (J.aj+1+1) 0)/\r8 tm 6=.c (.sl b1 0 n c1)/\r8 tm 7=.c (.ptr σ1.aj 0)
  /\J'.h J.aj=some ⟨[.int .i64 (.ofNat n),rv,pv,.bool (rn t),.str (rs t),.str (rd t)],none⟩/\J'.h (J.aj+1)=some ⟨(rK m),none⟩/\J'.h (J.aj+1+1)=some ⟨(rK 0),none⟩
  /\J'.h σ1.aj=some ⟨(rK (A8 e x)),none⟩/\J'.h b1=some ⟨dh n (zI e x),o1⟩/\Fr J J') (opn e x) ?_ ?_
 .refine⟨x,rfl,hS0,h0,λo h=>h,?_⟩
  simp(disch:=try exact jz)only[go_sem,am,hx0,hx1,hx2,hb1]
  exact fr
 .rintro q tm J' ⟨m,rfl,hSm,hm0,hNx,t2,t3,t4,t6,t7,hx0,hx1,hx2,hr1,hb1,hf'⟩
  obtain⟨Dm,hDm,hem,q1,q2,q3⟩:=hS m hSm
  have hl':=hf'.le
  have hlx:=hf'.wf.lt hx2
  have hlr:=hf'.wf.lt hr1
  have hlb:=hf'.wf.lt hb1
  simp(disch:=try exact jz)only[go_sem,t2,t3,ay hx0,ay hx1,hL.rk.kn,hL.pkn]
  refine(av6 hf'.wf t e (hL.fr hW hf') m hDm hem q1 q2 q3).mono ?_
  rintro _ σ2 ⟨rfl,hf2⟩
  have hF2:=hf'.trans hf2
  have hx0:=hf2.get hf'.wf hx0
  have hx1:=hf2.get hf'.wf hx1
  have hx2:=hf2.get hf'.wf hx2
  have hr1:=hf2.get hf'.wf hr1
  have hb1:=hf2.get hf'.wf hb1
  have hl2:=hf2.le
  cases hst:JK e m with
  |none=>
   simp(disch:=try exact jz)only[go_sem,t4,hx2]
   exact⟨⟨none,hNx _ (.no hst),rfl⟩,fr⟩
  |some g=>
   have hgz:=av9 q3 hst
   have hmz:=q1.hm
   have hg0:=Gu hst
   have hSg:=hSt m g hSm hst
   obtain⟨Dg,hDg,heg,r1,r2,-⟩:=hS _ hSg
   have hop:=Dc hN hm0 hst
   simp(disch:=try exact jz)only[go_sem,t2,t3,ay hx0,ay hx1,hx1,hL.rk.kn,hL.pkn]
   refine aB.st (Fr J) (fr) λhF3=>?_
   refine(QW hF3.wf t e (hL.fr hW hF3) (m+g) hDg heg r1 r2).mono ?_
   rintro _ σ3 ⟨⟨b3,c3,o3,rfl,hb3,aDO,aCk,hlo3,hhi3⟩,hf3⟩
   have hl3:σ2.aj+1<=σ3.aj:=hf3.le
   have hlo3:σ2.aj+1<=b3:=hlo3
   have iK:=hF3.trans hf3
   have hx0:=hf3.get hF3.wf ((au _ _ _ _ jb).trans ((au _ _ _ _ jb).trans ((au _ _ _ _ jb).trans hx0)))
   have hx1:σ3.h (J.aj+1)=some ⟨(rK (m+g)),none⟩:=hf3.get hF3.wf (aA _ _ _)
   have hx2:=hf3.get hF3.wf ((au _ _ _ _ jb).trans ((au _ _ _ _ jb).trans ((au _ _ _ _ jb).trans hx2)))
   have hr1:=hf3.get hF3.wf ((au _ _ _ _ jb).trans ((au _ _ _ _ jb).trans ((au _ _ _ _ jb).trans hr1)))
   have hb1:=hf3.get hF3.wf ((au _ _ _ _ jb).trans ((au _ _ _ _ jb).trans ((au _ _ _ _ jb).trans hb1)))
   by_cases hrr:A8 e (m+g)=A8 e x
   .have hd:decide (A8 e (m+g)=A8 e x)=true:=aw hrr
    simp(disch:=try exact jz)only[go_sem,t6,t7,hd,ay hr1]
    refine aB.st (Fr σ3) (by have hW3:=hf3.wf;exact fr) λeX=>?_
    have aqJ:=eX.get hf3.wf hb3
    have hb1':=eX.get hf3.wf hb1
    refine(aqI eX.wf he.hn (Dh aqJ aCk) (Dh hb1' aCj)).mono ?_
    rintro _ σ4 ⟨⟨d,rfl,hd4⟩,hf4⟩
    have jO:=eX.trans hf4
    have hx0:=jO.get hf3.wf hx0
    have hx1:=jO.get hf3.wf hx1
    have hx2:=jO.get hf3.wf hx2
    have hr1:=jO.get hf3.wf hr1
    have hb1:=jO.get hf3.wf hb1
    have pX:=iK.trans jO
    have hl7:=pX.le
    have aDP:=pX.wf.lt hx2
    have hW4:=hf4.wf
    cases d with
    |true=>
     have hsm:UZ e n x (m+g):=⟨hd4.mp rfl,hrr⟩
     refine W0 ?_
     exact⟨opn e (m+g),hop,m+g,rfl,hSg,by grind,λo ho=>hNx o (.go hst hsm ho),hx0,hx1,hx2,hr1,hb1,pX⟩
    |false=>
     have hsm:¬UZ e n x (m+g):=λh=>by have:=hd4.mpr h.1;cases this
     simp(disch:=try exact jz)only[go_sem,t3,t4,ay hx1,aJ hx2]
     exact⟨⟨_,hNx _ (.stop hst hsm),rfl⟩,fr⟩
   .have hd:decide (A8 e (m+g)=A8 e x)=false:=ap hrr
    simp(disch:=try exact jz)only[go_sem,t3,t4,t7,hd,ay hr1,ay hx1,hx2]
    have hsm:¬UZ e n x (m+g):=λh=>hrr h.2
    exact⟨⟨_,hNx _ (.stop hst hsm),rfl⟩,by have hW3:=hf3.wf;exact fr⟩
structure NF(Q:(Nat->Prop)->Tr Bk->Nat->Prop)(h:Tr Bk)(b n:Nat)(G:Nat->List B)(e ty lo hi:Nat):Prop where
 g:zW n h b=gF n G e ty
 L:LG G e
 l1:lo<=b
 l2:n=0\/b<hi
 q:∀j,j<n->Q (λx=>lo<=x/\x<b) h j
def NoQ(_:Nat->Prop)(_:Tr Bk)(_:Nat):Prop:=True
def Nb(j:Nat):QK NoQ j:=λ_ _ _ _ h _ _=>h
section
variable {Q Q' : (Nat→Prop)→Tr Bk→Nat→Prop} {h h' : Tr Bk} {b n:Nat} {G G' : Nat→List B} {e ty lo hi:Nat}
theorem NF.nil(hL:LG G e):NF Q h lo 0 G e ty lo hi:=⟨rfl,hL,jp,.inl rfl,λ_ h=>jb⟩
def NF.own(ho:NF Q h b n G e ty lo hi):fJ h (aX n b) n G e ty lo hi:=by
 obtain⟨g,L,h1,h2,-⟩:=ho;cases n with
 |zero=>exact .inl ⟨rfl,rfl⟩
 |succ n=>exact .inr ⟨jb,b,rfl,g,h1,jb⟩
def NF.hlp(ho:NF Q h b n G e ty lo hi)(he:0<e)(hk:∀j,j<n->(G j).all B.kn=true){p:Nat->Prop}(hp:∀b,lo<=b->b<hi->p b):aZ p h e (aX n b) n G:=fJ.hlp ho.own ho.L he hk hp
def NF.mono(ho:NF Q h b n G e ty lo hi)(hQ:∀j,j<n->QK Q j)(hh:∀b,lo<=b->b<hi->h' b=h b){hi':Nat}(h2:hi<=hi'):NF Q h' b n G e ty lo hi':=by have h3:=ho.l1;have h4:=ho.l2;refine⟨?_,ho.L,ho.l1,jb,λj hj=>hQ j hj _ _ _ _ (ho.q j hj) (λx hx=>hh x hx.1 jb) λx hx=>hx⟩;rw[yB,ho.g];grind
def NF.el(ho:NF Q h b n G e ty lo hi)(hQ:∀j,j<n->QK Q j){j:Nat}(hj:j<n):Q (λx=>lo<=x/\x<hi) h j:=by have h4:=ho.l2;exact hQ j hj _ _ _ _ (ho.q j hj) (λ_ _=>rfl) λx hx=>⟨hx.1,jb⟩
def NF.push(ho:NF Q h b n G e ty lo hi)(hQ:∀j,j<=n->QK Q' j)(hQQ:∀j,j<n->∀p h,Q p h j->Q' p h j){hi1 nx n':Nat}{h1:Tr Bk}(hx:Q' (λb=>hi<=b/\b<hi1) h1 n)(hh:∀b,lo<=b->b<hi->h1 b=h b)(h2:hi<=hi1)(h3:hi1<=nx)(h4:nx<n')(h5:lo<=hi)
  {x:List B}(hb:h' nx=some ⟨bf n G++x,some (e,ty)⟩) (hgn:x=G' n) (hk:∀c,lo<=c->c<hi1->n=0\/c≠b->h' c=h1 c) (hg:∀i,i<n->G' i=G i) (hL:LG G' e):NF Q' h' nx (n+1) G' e ty lo n':=by
 obtain⟨g,-,l1,l2,q⟩:=ho
 refine⟨?_,hL,jb,jb,λj hj=>?_⟩
 .show h' nx=some _
  grind[Go.Proofs.Xe.jA,Go.Proofs.Xe.bC,Go.Proofs.Xe.je]
 .by_cases e:j=n
  .subst e
   exact hQ j jb _ _ _ _ hx (λx hx=>hk x jb hx.2 jb) λx hx=>⟨jb,jb⟩
  .exact hQ j jb _ _ _ _ (hQQ j jb _ _ (q j jb)) (λx hx=>by grind) λx hx=>⟨hx.1,jb⟩
end
def Ap(p:Nat->Prop)(h:Tr Bk)(v:B)(l:gK):Prop:=
 ∃G:Nat->B,aZ p h 4 v l.length (λi=>kM (G i) (aY (ix l i)))/\agV v/\∀i,i<l.length->aZ p h 4 (G i) (ix l i).length λj=>BL (ix (ix l i) j)
def acZ(p:Nat->Prop)(h:Tr Bk)(v:B)(ms:List Nat):Prop:=aZ p h 1 v ms.length λi=>[TG ms i]
structure Aq(p:Nat->Prop)(h:Tr Bk)(rv pv:B)(e:fK):Prop where
 rk:Ap p h rv e.rk
 ps:∃Gm Gl:Nat->B,aZ p h 2 pv e.ps.length (λi=>[Gm i,Gl i])/\∀i,i<e.ps.length->acZ p h (Gm i) (ix e.ps i).1/\Ap p h (Gl i) (ix e.ps i).2
section
variable {p q:Nat→Prop} {h h' : Tr Bk} {v rv pv:B} {l:gK} {ms:List Nat} {e:fK}
def Ap.lad(hl:Ap p h v l):JL h v l:=by obtain⟨G,h1,h2,h3⟩:=hl;exact⟨G,h1.hl,h2,λi hi=>(h3 i hi).hl⟩
def Ap.keep(hl:Ap p h v l)(hk:∀b,p b->h' b=h b)(hp:∀b,p b->q b):Ap q h' v l:=by obtain⟨G,h1,h2,h3⟩:=hl;exact⟨G,h1.keep hk hp,h2,λi hi=>(h3 i hi).keep hk hp⟩
def Ap.kn(hl:Ap p h v l):v.kn=true:=hl.choose_spec.1.kn
def acZ.hc(hl:acZ p h v ms):HC h v ms.length (TG ms):=by
 by_cases h0:0<ms.length
 .obtain⟨b,o,c,e,hld⟩:=HL.one (aZ.hl hl) h0;exact .inr ⟨b,o,c,e,hld⟩
 .rcases aZ.hl hl with h1|⟨b,o,c,e,-⟩
  .exact .inl h1
  .exact .inr ⟨b,o,c,e,λi hi=>jb⟩
def Aq.lay(hl:Aq p h rv pv e):LK h rv pv e:=by obtain⟨h1,Gm,Gl,h2,h3⟩:=hl;exact⟨h1.lad,Gm,Gl,h2.hl,λi hi=>⟨(h3 i hi).1.hc,(h3 i hi).2.lad⟩⟩
def Aq.keep(hl:Aq p h rv pv e)(hk:∀b,p b->h' b=h b)(hp:∀b,p b->q b):Aq q h' rv pv e:=by obtain⟨h1,Gm,Gl,h2,h3⟩:=hl;exact⟨h1.keep hk hp,Gm,Gl,h2.keep hk hp,λi hi=>⟨aZ.keep (h3 i hi).1 hk hp,(h3 i hi).2.keep hk hp⟩⟩
def Aq.pkn(hl:Aq p h rv pv e):pv.kn=true:=by obtain⟨-,Gm,Gl,h2,-⟩:=hl;exact h2.kn
end
def QX(h:Tr Bk)(bs:Nat)(t:dN):Prop:=zW t.length h bs=gF t.length (λj=>BL (ix t j)) 4 303
def QX.hlp{p:Nat->Prop}{h:Tr Bk}{bs:Nat}{t:dN}(ho:QX h bs t)(hp:t.length=0\/p bs):aZ p h 4 (aX t.length bs) t.length λj=>BL (ix t j):=by
 unfold QX at ho;generalize t.length=n at*;cases n with
 |zero=>exact .inl ⟨rfl,rfl⟩
 |succ n=>exact bK _ ho rfl (hp.resolve_left jb) (λ_=>rfl) jj λ_ _=>rfl
def U5(t:dN)(p:Int×Rat):aY (t++[p])=aY t+p.2:=by
 induction t with
 |nil=>show p.2+0=0+p.2;grind
 |cons q t ih=>grind[aY]
structure mV(h:Tr Bk)(n:Nat)(k:Nat->Nat)(C:Nat->Nat->List B)(bs:Nat->Nat)(lo hi:Nat):Prop where
 r:∀i,i<n->h (bs i)=some ⟨bf (k i) (C i),none⟩/\lo<=bs i/\bs i<hi
 inj:∀i j,i<n->j<n->bs i=bs j->i=j
def zY(k bs:Nat->Nat)(i:Nat):B:=.sl (bs i) 0 (k i) (.ex (k i))
section
variable {h h' : Tr Bk} {n lo hi:Nat} {k bs:Nat→Nat} {C:Nat→Nat→List B}
theorem mV.nil(h:Tr Bk)(k:Nat->Nat)(C:Nat->Nat->List B)(bs:Nat->Nat)(lo hi:Nat):mV h 0 k C bs lo hi:=⟨λi hi=>jb,λi j hi=>jb⟩
def mV.mono(ho:mV h n k C bs lo hi)(hh:∀b,lo<=b->b<hi->h' b=h b){lo' hi':Nat}(h1:lo'<=lo)(h2:hi<=hi'):mV h' n k C bs lo' hi':=
 ⟨λi hi=>by obtain⟨k1,k2,k3⟩:=ho.r i hi;grind,ho.inj⟩
def mV.mono'(ho:mV h n k C bs lo hi)(hh:∀i,i<n->h' (bs i)=h (bs i)){lo' hi':Nat}(h1:lo'<=lo)(h2:hi<=hi'):mV h' n k C bs lo' hi':=
 ⟨λi hi=>by obtain⟨k1,k2,k3⟩:=ho.r i hi;grind,ho.inj⟩
def mV.congr{C':Nat->Nat->List B}(ho:mV h n k C bs lo hi)(hc:∀i,i<n->∀c,c<k i->C i c=C' i c):mV h n k C' bs lo hi:=
 ⟨λi hi=>by obtain⟨k1,k2,k3⟩:=ho.r i hi;grind[bC],ho.inj⟩
def mV.push(ho:mV h n k C bs lo hi){nb:Nat}{c:List B}(hb:h' nb=some ⟨c,none⟩)(hc:c=bf (k n) (C n))(hn:hi<=nb){hi':Nat}(h2:nb<hi')(hl:lo<=nb)(hh:∀b,lo<=b->b<hi->(∃i,i<n/\b=bs i)->h' b=h b):mV h' (n+1) k C (aO bs n nb) lo hi':=by
 refine⟨λi hi1=>?_,λi j hi1 hj e=>?_⟩
 .by_cases e:i=n
  .grind[aN]
  .obtain⟨k1,k2,k3⟩:=ho.r i jb;grind[aS]
 .by_cases e1:i=n<;>by_cases e2:j=n
  .omega
  .exfalso;rw[e1,aN,aS _ _ _ _ e2]at e;have:=(ho.r j jb).2.2;omega
  .exfalso;rw[e2,aN,aS _ _ _ _ e1]at e;have:=(ho.r i jb).2.2;omega
  .rw[aS _ _ _ _ e1,aS _ _ _ _ e2]at e;exact ho.inj i j jb jb e
def uI(C:Nat->Nat->List B)(i c:Nat)(x:List B):Nat->Nat->List B:=λi' c'=>if i'=i/\c'=c then x else C i' c'
def mV.set(ho:mV h n k C bs lo hi){i c:Nat}{x l:List B}(hi1:i<n)(hl:l=bf (k i) (je (C i) c x)):mV (hset h (bs i) ⟨l,none⟩) n k (uI C i c x) bs lo hi:=by
 refine⟨λj hj=>?_,ho.inj⟩;obtain⟨k1,k2,k3⟩:=ho.r j hj;by_cases e:j=i
 .grind[Go.Proofs.Xe.aA,Go.Proofs.Xe.bC,Go.Proofs.Xe.je,Go.Proofs.Xe.uI]
 .rw[au _ _ _ _ (λe2=>e (ho.inj j i hj hi1 e2)),k1];grind[Go.Proofs.Xe.bC,Go.Proofs.Xe.uI]
def mV.hlp(ho:mV h n k C bs lo hi){p:Nat->Prop}{e:Nat}(hp:∀b,lo<=b->b<hi->p b)(he:0<e)(hC:∀i c,(C i c).length=e)(hk:∀i c,i<n->c<k i->(C i c).all B.kn=true){i:Nat}(hi1:i<n):aZ p h e (zY k bs i) (k i) (C i):=by obtain⟨k1,k2,k3⟩:=ho.r i hi1;exact bK _ k1 rfl (hp _ k2 k3) (hC i) he λc hc=>hk i c hi1 hc
end
def aqK(t:dN):LG (λj=>BL (ix t j)) 4:=λ_=>rfl
def alC{J:St}(hW:WF J){b n r:Nat}{G:Nat->List B}{o:Option (Nat×Nat)}(hb:J.h b=some ⟨bf n G,o⟩)(hr:r<n)(hG:∀j,(G j).length=4)(hpl:plo o=true)(hrd:Yl o=true){t:dN}{bs:Nat}(hGr:G r=kM (aX t.length bs) (aY t))(hT:QX J.h bs t)(hne:t.length=0\/bs≠b)(hbs:t.length=0\/bs<J.aj)(hl:t.length<=1000000)(k:Int)(q:Rat)(hs:Sz (aY t))(hq:Sz q):
  aB EN 170 [.c (.ptr b (r*4)),.c (.int .i64 k),.agg (rK q)] J λ_ J'=>∃nx,J.aj<=nx/\nx<J'.aj/\J'.h b=some ⟨bf n (je G r (kM (.sl nx 0 (t.length+1) .opn) (aY t+q))),o⟩/\J'.h nx=some ⟨bf t.length (λj=>BL (ix t j))++BL (k,q),some (4,303)⟩/\gY [b,bs] J J':=by
 refine aI (pz.o _ _) pz.h ?_
 unfold pz
 dsimp only
 have hbl:=hW.lt hb
 have hFr:=Fr.refl hW
 have l0:ld J.h b (r*4) 1 false=some (.c (aX t.length bs)):=by have:=AQ (k:=0) (m:=1) false hG hr jj jj;rw[cy,hGr]at this;rw[ay hb,Qg];dsimp only;rw[hrd,bB,this];unfold kM zT;simp[Og]
 have w0:∀x:B,yc (bf n G) (r*4) [x]=some (bf n (je G r (kM x (aY t)))):=λx=>by have:=yP (k:=0) (vs:=[x]) hG hr kc;rw[cy]at this;rw[this,hGr];rfl
 have r1:∀x:B,zT (bf n (je G r (kM x (aY t)))) (r*4+1) 3 true=some (.agg (rK (aY t))):=λx=>by have:=AQ (k:=1) (m:=3) (G:=je G r (kM x (aY t))) true (Qq hG rfl) hr jj jj;rw[this,WV];rfl
 have w1:∀x a c d:B,yc (bf n (je G r (kM x (aY t)))) (r*4+1) [a,c,d]=some (bf n (je G r [x,a,c,d])):=λx a c d=>by have:=yP (k:=1) (vs:=[a,c,d]) (G:=je G r (kM x (aY t))) (Qq hG rfl) hr kc;rw[this,WV,<-ahh G r (kM x (aY t)) [x,a,c,d]];rfl
 have hLG:=aqK t
 unfold QX at hT
 simp(disch:=try exact jz)only[go_sem,l0,w0,r1,w1,hpl,hrd,hb,hT]
 refine⟨J.aj+1+1,jb,jb,?_,?_,?_⟩
 .rfl
 .rw[au _ _ _ _ jb,au _ _ _ _ jb,aA];rfl
 .exact fe
end Go.Proofs.Xe
namespace Go.Proofs.Ins
structure GL where
 e:Nat->fK
 k:Nat->Nat
 h:Nat->Nat->Int
 ds:List (Rat×List fZ)
def GL.fM(g:GL):List fZ:=g.ds.flatMap (·.2)
def gq(g:GL)(x:Nat->Rat)(l:fZ):Rat:=uX (g.e l.1) (x l.1) l.2
def gs(g:GL)(x:Nat->Rat)(i:Nat)(l:fZ):Rat:=if l.1=i then zI (g.e l.1) (x l.1) l.2 else 0
def TJ(g:GL)(d:Rat×List fZ):Int:=match d.2 with|[]=>-1|l::_=>g.h l.1 l.2
def dG(g:GL)(x:Nat->Rat)(j:Nat)(d:Rat×List fZ):Rat:=(if TJ g d=(j:Int)then kL d.1 (aK d.2 (gq g x))else 0)+sJ d.1 (gq g x) 0 d.2 j
def dM(g:GL)(x:Nat->Rat)(j i:Nat)(d:Rat×List fZ):Rat:=
 (if TJ g d=(j:Int)then aK d.2 (gs g x i)-qg d.1 (aK d.2 (gq g x)) (aK d.2 (gs g x i))else 0)+jH d.1 (gq g x) (gs g x i) 0 0 0 d.2 j
def yF(g:GL)(j i c:Nat):Bool:=!(g.fM.contains (i,c))&&g.h i c==(j:Int)
def gG(n:Nat)(g:GL)(x:Nat->Rat)(j:Nat):Rat:=aF n (λi=>aF (g.k i) λc=>if yF g j i c then gq g x (i,c)else 0)+aK g.ds (dG g x j)
def gM(n:Nat)(g:GL)(x:Nat->Rat)(j i:Nat):Rat:=aF (g.k i) (λc=>if yF g j i c then gs g x i (i,c)else 0)+aK g.ds (dM g x j i)
structure Nc(n:Nat)(g:GL):Prop where
 nn:∀i,i<n->CZ (g.e i)
 inn:∀i,i<n->InE (g.k i) (g.e i)
 hold:∀i c,i<n->c<g.k i->g.h i c=-1\/0<=g.h i c/\g.h i c<n
 fM:∀l∈g.fM,l.1<n/\l.2<g.k l.1
 nodup:g.fM.Nodup
 pos:∀d∈g.ds,0<=d.1
section
variable {n:Nat} {g:GL}
def ahE(hg:Nc n g){d:Rat×List fZ}(hd:d∈g.ds):TJ g d=-1\/0<=TJ g d/\TJ g d<n:=by
 unfold TJ;split
 .omega
 .next l t e=>
  have h1:=hg.fM l (by grind[GL.fM]);exact hg.hold _ _ h1.1 h1.2
def vT(hg:Nc n g){d:Rat×List fZ}(hd:d∈g.ds){l:fZ}(hl:l∈d.2):l.1<n:=
 (hg.fM l (cr.mpr ⟨d,hd,hl⟩)).1
def awe(hg:Nc n g){d:Rat×List fZ}(hd:d∈g.ds)(v:Rat):aF n (λj=>if TJ g d=(j:Int)then v else 0)=if TJ g d=-1 then 0 else v:=by
 rcases ahE hg hd with h|⟨h1,h2⟩
 .grind[bP]
 .rw[ae jb,jP (k:=(TJ g d).toNat) jb λj _ hne=>ae jb,ab jb]
def aqL(hg:Nc n g){i c:Nat}(hi:i<n)(hc:c<g.k i)(v:Rat):aF n (λj=>if yF g j i c then v else 0)=if(i,c)∈g.fM\/g.h i c=-1 then 0 else v:=by
 by_cases hl:(i,c)∈g.fM
 .grind[bP,yF]
 .rcases hg.hold i c hi hc with h|⟨h1,h2⟩
  .grind[bP,yF]
  .rw[ae kd,jP (k:=(g.h i c).toNat) jb λj _ hne=>?_,ab ?_]
   .grind[yF]
   grind[yF]
theorem U6(hg:Nc n g){x:Nat->Rat}(hx:Nn n x){l:fZ}(hl:l.1<n):0<=gq g x l:=LC (hg.nn _ hl) (hx _ hl) _
def iQ(n:Nat)(q:fZ->Rat)(l:fZ):Rat:=if l.1<n then q l else 0
theorem OC{W:Rat}{q:fZ->Rat}(j:Nat):∀(t:List fZ) (Q:Rat),(∀l∈t,l.1<n)->sJ W (iQ n q) Q t j=sJ W q Q t j
 |[],_,_=>rfl
 |l::t,Q,h=>by have e:iQ n q l=q l:=ab (h l kc);unfold sJ;rw[e,OC j t _ λu hu=>h u (by simp[hu])]
theorem Xw{W:Rat}{q r:fZ->Rat}(j:Nat):∀(t:List fZ) (Q R B:Rat),(∀l∈t,l.1<n)->jH W (iQ n q) (iQ n r) Q R B t j=jH W q r Q R B t j
 |[],_,_,_,_=>rfl
 |l::t,Q,R,B,h=>by have e:iQ n q l=q l:=ab (h l kc);have e2:iQ n r l=r l:=ab (h l kc);unfold jH;rw[e,e2,Xw j t _ _ _ λu hu=>h u (by simp[hu])]
def aqM(hg:Nc n g){x y:Nat->Rat}(hx:Nn n x)(hxy:Le n x y)(j:Nat):gG n g x j<=gG n g y j:=by
 unfold gG;have h1:∀l:fZ,l.1<n->gq g x l<=gq g y l:=λl hl=>QH (hg.nn _ hl) (hx _ hl) (hxy _ hl) _;have h2:aF n (λi=>aF (g.k i) λc=>if yF g j i c then gq g x (i,c)else 0)<=aF n λi=>aF (g.k i) λc=>if yF g j i c then gq g y (i,c)else 0:=
  qc λi hi=>qc λc _=>by grind
 have h3:aK g.ds (dG g x j)<=aK g.ds (dG g y j):=wH λd hd=>by
  have hl:=λl hl=>vT hg hd (l:=l) hl;have a:aK d.2 (gq g x)<=aK d.2 (gq g y):=wH λl hl=>h1 l (vT hg hd hl);have b:=QI (W:=d.1) (q:=iQ n (gq g x)) (q':=iQ n (gq g y)) (λl=>by
   grind[iQ,U6]) (λl=>by
   grind[iQ]) j d.2 0 0 aM
  grind[OC,kL,dG]
 grind
def aam(gf:fZ->Rat):∀L:List fZ,L.Nodup->(∀l∈L,l.1<n/\l.2<g.k l.1)->aF n (λi=>aF (g.k i) λc=>if(i,c)∈L then gf (i,c)else 0)=aK L gf
 |[],_,_=>bP λi _=>bP λc _=>by simp
 |p::t,hn,hl=>by
  rw[gy]at hn;have hp:=hl p kc;have e:aF n (λi=>aF (g.k i) λc=>if(i,c)∈p::t then gf (i,c)else 0)=aF n λi=>(if i=p.1 then gf p else 0)+aF (g.k i) λc=>if(i,c)∈t then gf (i,c)else 0:=aP λi _=>by
   have e2:(if i=p.1 then gf p else 0)=aF (g.k i) λc=>if i=p.1/\c=p.2 then gf p else 0:=by grind[jP,bP]
   rw[e2,<-dH];grind
  have hd:aF n (λi=>if i=p.1 then gf p else 0)=gf p:=by grind[jP]
  rw[e,dH,hd,aam gf t hn.2 λl hl'=>hl l (by simp[hl'])];rfl
def ac0{α:Type}(l:List α)(f:α->List fZ)(gf:fZ->Rat):aK (l.flatMap f) gf=aK l λa=>aK (f a) gf:=by
 induction l with
 |nil=>rfl
 |cons a l ih=>
  rw[gg]
  have:∀(u v:List fZ),aK (u++v) gf=aK u gf+aK v gf:=λu v=>by
   induction u with
   |nil=>grind[aK]
   |cons x u ih=>
    grind[aK]
  rw[this,ih];rfl
def Xo(g:GL)(x:Nat->Rat)(i c:Nat):Rat:=if(i,c)∉g.fM/\g.h i c=-1 then gq g x (i,c)else 0
def ahF(g:GL)(x:Nat->Rat)(d:Rat×List fZ):Rat:=if TJ g d=-1 then kL d.1 (aK d.2 (gq g x))else 0
def alD(hg:Nc n g)(x:Nat->Rat)(hx:Nn n x):aF n (λi=>x i-gG n g x i)=aF n (λi=>x i-aF (g.k i) (uX (g.e i) (x i)))+aF n (λi=>aF (g.k i) (Xo g x i))+aK g.ds (ahF g x):=by
 have a1:aF n (λj=>aF n λi=>aF (g.k i) λc=>if yF g j i c then gq g x (i,c)else 0)=aF n λi=>aF (g.k i) λc=>if(i,c)∈g.fM\/g.h i c=-1 then 0 else gq g x (i,c):=by rw[BK];refine aP λi hi=>?_;simp_all[BK,aP,aqL]
 have a2:aF n (λj=>aK g.ds (dG g x j))=aK g.ds λd=>(if TJ g d=-1 then 0 else kL d.1 (aK d.2 (gq g x)))+uG (aK d.2 (gq g x)-d.1):=by
  rw[Gt g.ds λd j=>dG g x j d];refine fC λd hd=>?_;have e:aF n (λj=>dG g x j d)=aF n (λj=>if TJ g d=(j:Int)then kL d.1 (aK d.2 (gq g x))else 0)+aF n λj=>sJ d.1 (gq g x) 0 d.2 j:=by rw[<-dH];rfl
  rw[e,awe hg hd,ae7 d.2 0 λl hl=>vT hg hd hl];have h0:=hg.pos d hd;have e2:uG (0-d.1)=0:=by unfold uG;split<;>grind
  grind
 have a3:aF n (λi=>aF (g.k i) λc=>if(i,c)∈g.fM then gq g x (i,c)else 0)=aK g.ds λd=>aK d.2 (gq g x):=by rw[aam (gq g x) g.fM hg.nodup hg.fM];exact ac0 _ _ _
 have a4:aF n (λi=>aF (g.k i) λc=>if(i,c)∈g.fM\/g.h i c=-1 then 0 else gq g x (i,c))=aF n (λi=>aF (g.k i) (uX (g.e i) (x i)))-aF n (λi=>aF (g.k i) λc=>if(i,c)∈g.fM then gq g x (i,c)else 0)-aF n (λi=>aF (g.k i) (Xo g x i)):=by
  rw[<-iR,<-iR];refine aP λi _=>?_;rw[<-iR,<-iR];refine aP λc _=>?_;have e:uX (g.e i) (x i) c=gq g x (i,c):=rfl;rw[e];unfold Xo;by_cases h1:(i,c)∈g.fM
  .rw[ab (.inl h1),ab h1,ae λh=>h.1 h1];grind
  .by_cases h2:g.h i c=-1
   .rw[ab (.inr h2),ae h1,ab ⟨h1,h2⟩];grind
   .rw[ae (by simp[h1,h2]),ae h1,ae λh=>h2 h.2];grind
 have a5:aK g.ds (λd=>(if TJ g d=-1 then 0 else kL d.1 (aK d.2 (gq g x)))+uG (aK d.2 (gq g x)-d.1))=aK g.ds (λd=>aK d.2 (gq g x))-aK g.ds (ahF g x):=by
  rw[<-QF];refine fC λd hd=>?_;unfold ahF;have e:kL d.1 (aK d.2 (gq g x))+uG (aK d.2 (gq g x)-d.1)=aK d.2 (gq g x):=by unfold kL uG;split<;>split<;>grind
  split<;>grind
 have a6:aF n (λi=>x i-gG n g x i)=aF n x-(aF n (λj=>aF n λi=>aF (g.k i) λc=>if yF g j i c then gq g x (i,c)else 0)+aF n λj=>aK g.ds (dG g x j)):=by rw[<-dH,<-iR];rfl
 grind[iR]
def aqN(hg:Nc n g){x y:Nat->Rat}(hx:Nn n x)(hxy:Le n x y):aF n (λi=>x i-gG n g x i)<=aF n (λi=>y i-gG n g y i):=by
 rw[alD hg x hx,alD hg y (hx.le hxy)];have h0:∀l:fZ,l.1<n->gq g x l<=gq g y l:=λl hl=>QH (hg.nn _ hl) (hx _ hl) (hxy _ hl) _;have h1:aF n (λi=>x i-aF (g.k i) (uX (g.e i) (x i)))<=aF n (λi=>y i-aF (g.k i) (uX (g.e i) (y i))):=
  qc λi hi=>aaf (hg.nn i hi) (hg.inn i hi) (hx i hi) (hxy i hi)
 have h2:aF n (λi=>aF (g.k i) (Xo g x i))<=aF n (λi=>aF (g.k i) (Xo g y i)):=qc λi hi=>qc λc _=>by grind[Xo]
 have h3:aK g.ds (ahF g x)<=aK g.ds (ahF g y):=wH λd hd=>by have a:aK d.2 (gq g x)<=aK d.2 (gq g y):=wH λl hl=>h0 l (vT hg hd hl);grind[ahF,kL]
 grind
def gr(g:GL)(x d:Nat->Rat)(l:fZ):Rat:=zI (g.e l.1) (x l.1) l.2*d l.1
structure Ok(n:Nat)(g:GL)(x d:Nat->Rat)(s:Rat):Prop where
 e:∀i,i<n->∀c,c<g.k i->uX (g.e i) (x i+s*d i) c=uX (g.e i) (x i) c+s*d i*zI (g.e i) (x i) c
 d:∀d'∈g.ds,okD d'.1 (gq g x) (gr g x d) s 0 0 d'.2
def alE{x d:Nat->Rat}{l:fZ}(hl:l.1<n):aF n (λi=>gs g x i l*d i)=gr g x d l:=by grind[gs,gr,jP]
def azO(hg:Nc n g){x:Nat->Rat}(hx:Nn n x){l:fZ}(hl:l.1<n)(i:Nat):0<=gs g x i l:=by
 unfold gs;split
 .exact uF (hg.nn _ hl) (hx _ hl) _
 rfl
def Xx{W:Rat}{q r:fZ->Rat}{s:Rat}:∀(t:List fZ) (Q R:Rat),(∀l∈t,l.1<n)->(okD W (iQ n q) (iQ n r) s Q R t↔okD W q r s Q R t)
 |[],_,_,_=>Iff.rfl
 |l::t,Q,R,h=>by have e:iQ n q l=q l:=ab (h l kc);have e2:iQ n r l=r l:=ab (h l kc);unfold okD;rw[e,e2,Xx t _ _ λu hu=>h u (by simp[hu])]
def alF(hg:Nc n g){x d:Nat->Rat}(hx:Nn n x)(hd:Nn n d){s:Rat}(h0:0<=s)(ho:Ok n g x d s){j:Nat}(hj:j<n):gG n g (bF x d s) j=gG n g x j+s*mv n (gM n g x) d j:=by
 have hq:∀l:fZ,l.1<n->l.2<g.k l.1->gq g (bF x d s) l=gq g x l+s*gr g x d l:=λl h1 h2=>by have:=ho.e l.1 h1 l.2 h2;grind[gq,gr,bF]
 have a1:aF n (λi=>aF (g.k i) λc=>if yF g j i c then gq g (bF x d s) (i,c)else 0)=aF n (λi=>aF (g.k i) λc=>if yF g j i c then gq g x (i,c)else 0)+s*aF n λi=>aF (g.k i) (λc=>if yF g j i c then gs g x i (i,c)else 0)*d i:=by rw[<-iq,<-dH];refine aP λi hi=>?_;rw[<-sF,<-iq,<-dH];grind[Go.Proofs.Ins.aP,Go.Proofs.Ins.gs,Go.Proofs.Ins.gr]
 have a2:∀d'∈g.ds,dG g (bF x d s) j d'=dG g x j d'+s*aF n λi=>dM g x j i d'*d i:=λd' hd'=>by
  have hl:=λl hl=>vT hg hd' (l:=l) hl;have hl2:∀l∈d'.2,l.2<g.k l.1:=λl hl=>(hg.fM l (cr.mpr ⟨d',hd',hl⟩)).2;have hok:=ho.d d' hd';have hcq:∀l,0<=iQ n (gq g x) l:=λl=>by
   unfold iQ;split
   .next h=>exact U6 hg hx h
   .exact aM
  have hcr:∀l,0<=iQ n (gr g x d) l:=λl=>by
   unfold iQ;split
   .next h=>exact ce (uF (hg.nn _ h) (hx _ h) _) (hd _ h)
   .exact aM
  have hq0:(0:Rat)<d'.1->s*0<=d'.1-0:=λh=>by grind
  have b1:=ae2 (W:=d'.1) h0 hcr j d'.2 0 0 aM hq0 ((Xx d'.2 0 0 hl).mpr hok);have b2:sJ d'.1 (λl=>iQ n (gq g x) l+s*iQ n (gr g x d) l) (0+s*0) d'.2 j=sJ d'.1 (gq g (bF x d s)) 0 d'.2 j:=by
   have z:(0:Rat)+s*0=0:=by grind
   rw[z];clear b1 hok hq0;have:∀(t:List fZ) (Q:Rat),(∀l∈t,l.1<n/\l.2<g.k l.1)->sJ d'.1 (λl=>iQ n (gq g x) l+s*iQ n (gr g x d) l) Q t j=sJ d'.1 (gq g (bF x d s)) Q t j:=by
    intro t;induction t with
    |nil=>intro Q _;rfl
    |cons l t ih=>
     intro Q h
     have h1:=h l kc
     have e:iQ n (gq g x) l+s*iQ n (gr g x d) l=gq g (bF x d s) l:=by rw[hq l h1.1 h1.2];unfold iQ;rw[ab h1.1,ab h1.1]
     unfold sJ
     rw[e,ih _ λu hu=>h u (by simp[hu])]
   exact this d'.2 0 λl h=>⟨hl l h,hl2 l h⟩
  rw[b2,OC j _ _ hl,Xw j _ _ _ _ hl]at b1;have z0:qg d'.1 0 0=0:=by unfold qg;split<;>rfl
  rw[z0]at b1;have b3:jH d'.1 (gq g x) (gr g x d) 0 0 0 d'.2 j=aF n λi=>jH d'.1 (gq g x) (gs g x i) 0 0 0 d'.2 j*d i:=by
   have c:=ae6 (n:=n) (W:=d'.1) (q:=gq g x) d (gs g x) j d'.2 0 (λ_=>0) (λ_=>0);have z:aF n (λi=>0*d i)=0:=bP λi _=>by rw[Rat.zero_mul]
   rw[z]at c;rw[<-c];have:∀(t:List fZ) (Q R B:Rat),(∀l∈t,l.1<n)->jH d'.1 (gq g x) (gr g x d) Q R B t j=jH d'.1 (gq g x) (λl=>aF n λi=>gs g x i l*d i) Q R B t j:=by
    intro t;induction t with
    |nil=>intro Q R B _;rfl
    |cons l t ih=>
     intro Q R B h
     unfold jH
     rw[alE (h l kc),ih _ _ _ λu hu=>h u (by simp[hu])]
   exact this d'.2 0 0 0 hl
  have b4:aK d'.2 (gq g (bF x d s))=aK d'.2 (gq g x)+s*aK d'.2 (gr g x d):=by rw[<-zH,<-Fv];exact fC λl h=>hq l (hl l h) (hl2 l h)
  have b5:aK d'.2 (gr g x d)=aF n λi=>aK d'.2 (gs g x i)*d i:=by
   have:aF n (λi=>aK d'.2 (gs g x i)*d i)=aF n λi=>aK d'.2 λl=>gs g x i l*d i:=aP λi _=>by rw[fT,<-zH];exact fC λl _=>fT _ _
   rw[this,Gt d'.2 λl i=>gs g x i l*d i];exact fC λl h=>(alE (hl l h)).symm
  have b6:0<=aK d'.2 (gr g x d):=oL λl h=>ce (uF (hg.nn _ (hl l h)) (hx _ (hl l h)) _) (hd _ (hl l h));have b7:=ae3 d'.2 0 0 hok (λh=>by grind);rw[gk,gk]at b7;have b8:=aqE (W:=d'.1) h0 b6 b7;have b9:aF n (λi=>(aK d'.2 (gs g x i)-qg d'.1 (aK d'.2 (gq g x)) (aK d'.2 (gs g x i)))*d i)=aK d'.2 (gr g x d)-qg d'.1 (aK d'.2 (gq g x)) (aK d'.2 (gr g x d)):=by rw[b5,ae5,<-iR];exact aP λi _=>by grind
  unfold dG dM;rw[b1,b3,b4,b8];by_cases e:TJ g d'=(j:Int)
  .simp only[ab e];have:aF n (λi=>(aK d'.2 (gs g x i)-qg d'.1 (aK d'.2 (gq g x)) (aK d'.2 (gs g x i))+jH d'.1 (gq g x) (gs g x i) 0 0 0 d'.2 j)*d i)=aF n (λi=>(aK d'.2 (gs g x i)-qg d'.1 (aK d'.2 (gq g x)) (aK d'.2 (gs g x i)))*d i)+aF n λi=>jH d'.1 (gq g x) (gs g x i) 0 0 0 d'.2 j*d i:=by rw[<-dH];exact aP λi _=>by rw[Rat.add_mul]
   rw[this,b9];grind
  .simp only[ae e];have:aF n (λi=>(0+jH d'.1 (gq g x) (gs g x i) 0 0 0 d'.2 j)*d i)=aF n λi=>jH d'.1 (gq g x) (gs g x i) 0 0 0 d'.2 j*d i:=aP λi _=>by rw[gk]
   rw[this];grind
 have a3:aK g.ds (dG g (bF x d s) j)=aK g.ds (dG g x j)+s*aF n λi=>aK g.ds (dM g x j i)*d i:=by rw[fC a2,Fv,zH];congr 2;rw[<-Gt g.ds λd' i=>dM g x j i d'*d i];refine aP λi _=>?_;rw[fT,<-zH];exact fC λ_ _=>fT _ _
 have a4:mv n (gM n g x) d j=aF n (λi=>aF (g.k i) (λc=>if yF g j i c then gs g x i (i,c)else 0)*d i)+aF n λi=>aK g.ds (dM g x j i)*d i:=by rw[<-dH];exact aP λi _=>by unfold gM;rw[Rat.add_mul]
 grind[gG]
end
def kN(a:fD):List Nat:=(yC a).map Int.toNat
def D7(cs:List C5)(r:Nat):Nat->dN
 |0=>[]
 |k+1=>D7 cs r k++if(ix cs k).r=(r:Int)then [((k:Int),(ix cs k).a.q)]else []
def Xy(cs:List C5)(k:Nat):gK:=(List.range 8).map λr=>D7 cs r k
def OD(s:(Nat->Rat)×dN)(x:yQ):(Nat->Rat)×dN:=
 if x.k=-1 then(s.1,s.2++[((-1:Int),x.a.q)])
 else((λi=>if i=x.k.toNat then s.1 i-(if x.b=true then kL (s.1 x.k.toNat) x.a.q else s.1 x.k.toNat)else s.1 i),s.2++[(x.k,if x.b=true then kL (s.1 x.k.toNat) x.a.q else s.1 x.k.toNat)])
def ltS(s:(Nat->Rat)×gK)(t:Js):(Nat->Rat)×gK:=((t.foldl OD (s.1,[])).1,s.2++[(t.foldl OD (s.1,[])).2])
def lsA(cs:List C5)(a:fD):(Nat->Rat)×gK:=a.foldl ltS ((λi:Nat=>(ix cs i).a.q),[])
def xY(ms:List Nat)(f:Nat->Rat):dN:=ms.map λi:Nat=>((i:Int),f i)
def qN(cs:List C5)(a:fD):List Nat×gK:=(kN a,(lsA cs a).2++[xY (kN a) (lsA cs a).1])
def bZ(e:yg):fK:=⟨Xy e.c e.c.length,e.a.map (qN e.c)⟩
structure TK(P:Rat->Prop):Prop where
 min:∀a b,P a->P b->P (kL a b)
 sub:∀a b,P a->P b->P (a-kL a b)
 zero:P 0
def TL(P:Rat->Prop)(n:Nat)(x:yQ):Prop:=(x.k=-1\/0<=x.k/\x.k<n)/\((x.k=-1\/x.b=true)->P x.a.q)
def BN(P:Rat->Prop)(n:Nat)(t:dN):Prop:=∀p∈t,(p.1=-1\/0<=p.1/\p.1<n)/\P p.2
section
variable {P:Rat→Prop} {n:Nat}
def BN.snoc{t:dN}(h:BN P n t){p:Int×Rat}(h1:p.1=-1\/0<=p.1/\p.1<n)(h2:P p.2):BN P n (t++[p]):=λq hq=>by
 rcases bO.mp hq with hq|hq
 .exact h q hq
 grind
def azP(hP:TK P){s:(Nat->Rat)×dN}(h1:∀i,P (s.1 i))(h2:BN P n s.2){x:yQ}(hx:TL P n x):(∀i,P ((OD s x).1 i))/\BN P n (OD s x).2:=by
 unfold OD;by_cases e:x.k=-1
 .rw[ab e];exact⟨h1,h2.snoc (.inl rfl) (hx.2 (.inl e))⟩
 .rw[ae e];dsimp only;have self:P (s.1 x.k.toNat-s.1 x.k.toNat):=by rw[show s.1 x.k.toNat-s.1 x.k.toNat=0 by grind];exact hP.zero
  refine⟨λi=>?_,h2.snoc hx.1 ?_⟩
  .split
   .next e2=>
    rw[e2];split
    .next hb=>exact hP.sub _ _ (h1 _) (hx.2 (.inr hb))
    omega
   grind
  .dsimp only;split
   .next hb=>exact hP.min _ _ (h1 _) (hx.2 (.inr hb))
   grind
def ac1(hP:TK P):∀(t:Js){s:(Nat->Rat)×dN},(∀i,P (s.1 i))->BN P n s.2->(∀x∈t,TL P n x)->(∀i,P ((t.foldl OD s).1 i))/\BN P n (t.foldl OD s).2
 |[],_,h1,h2,_=>⟨h1,h2⟩
 |x::t,s,h1,h2,h=>by obtain⟨h3,h4⟩:=azP hP h1 h2 (h x kc);exact ac1 hP t h3 h4 λy hy=>h y (by simp[hy])
def zJ(P:Rat->Prop)(n:Nat)(l:gK):Prop:=∀t∈l,BN P n t
def zJ.snoc{l:gK}(h:zJ P n l){t:dN}(ht:BN P n t):zJ P n (l++[t]):=λu hu=>by
 rcases bO.mp hu with hu|hu
 .exact h u hu
 grind
def ac2(hP:TK P):∀(a:fD){s:(Nat->Rat)×gK},(∀i,P (s.1 i))->zJ P n s.2->(∀t∈a,∀x∈t,TL P n x)->(∀i,P ((a.foldl ltS s).1 i))/\zJ P n (a.foldl ltS s).2
 |[],_,h1,h2,_=>⟨h1,h2⟩
 |t::a,s,h1,h2,h=>by obtain⟨h3,h4⟩:=ac1 hP t (s:=(s.1,[])) h1 (λ_ h=>by cases h) (h t kc);exact ac2 hP a (s:=ltS s t) h3 (h2.snoc h4) λu hu=>h u (by simp[hu])
def alG(hP:TK P){cs:List C5}{a:fD}(hc:∀i,P (ix cs i).a.q)(ha:∀t∈a,∀x∈t,TL P n x):(∀i,P ((lsA cs a).1 i))/\zJ P n (lsA cs a).2:=ac2 hP a hc (λ_ h=>by cases h) ha
def wI{a:fD}(ha:∀t∈a,∀x∈t,x.k=-1\/0<=x.k/\x.k<n):∀c∈yC a,0<=c/\c<n:=λc hc=>by obtain⟨h1,h2⟩:=tH.mp hc;obtain⟨t,ht,hm⟩:=dj.mp h2;obtain⟨x,hx,e⟩:=dj.mp hm;grind
def wX{a:fD}(ha:∀t∈a,∀x∈t,x.k=-1\/0<=x.k/\x.k<n){i:Nat}:i∈kN a↔Qm a (i:Int)=true:=by
 unfold kN;rw[cP];constructor
 .rintro⟨c,hc,rfl⟩;have h1:=wI ha c hc;rw[eE h1.1];exact(tH.mp hc).2
 .intro h;exact⟨i,tH.mpr ⟨jb,h⟩,by simp⟩
def Iu{a:fD}(ha:∀t∈a,∀x∈t,x.k=-1\/0<=x.k/\x.k<n):(kN a).Nodup:=by unfold kN;rw[ik,List.pairwise_map];refine List.Pairwise.imp_of_mem (λ{x y} hx hy h=>?_) (aer a);have:=wI ha x hx;omega
def afi(hP:TK P){cs:List C5}{a:fD}(hc:∀i,P (ix cs i).a.q)(ha:∀t∈a,∀x∈t,TL P n x):zJ P n (qN cs a).2:=by obtain⟨h1,h2⟩:=alG hP hc ha;refine h2.snoc λp hp=>?_;unfold xY at hp;obtain⟨i,hi,rfl⟩:=cP.mp hp;have:=(wX λt ht x hx=>(ha t ht x hx).1).mp hi;have h3:=wI (a:=a) (λt ht x hx=>(ha t ht x hx).1) i (tH.mpr ⟨jb,this⟩);grind
def QY{cs:List C5}(hc:∀i,i<cs.length->P (ix cs i).a.q)(r:Nat):∀k,k<=cs.length->∀p∈D7 cs r k,(0<=p.1/\p.1<cs.length)/\P p.2
 |0,_,p,hp=>by cases hp
 |k+1,hk,p,hp=>by
  unfold D7 at hp;rcases bO.mp hp with hp|hp
  .exact QY hc r k jb p hp
  grind
end
end Go.Proofs.Ins
