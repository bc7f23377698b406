import Derived.Test.YtjhhfbbndfpdaaaGreatDoorYg29
import Derived.Test.YtjhhfbbndfpdaaaGreatDoorYg25
set_option linter.all false
set_option maxRecDepth 100000
set_option maxHeartbeats 8000000
namespace Go.Proofs.Xe
open Go.RowKit Go.Proofs.Ins
def FX(n:Nat):decide (Int.ofNat n≠Int.ofNat n)=false:=af kc
def apR{J:St}(hW:WF J){n:Nat}(hn:n<=1000000){f g:Nat->Rat}{a b:B}(h1:HL J.h 3 a n λc=>dP (f c))(h2:HL J.h 3 b n λc=>dP (g c)):
  aC EN 168 [.c a,.c b] J λr J'=>(∃d:Bool,r=.c (.bool d)/\(d=true↔∀i,i<n->f i=g i))/\Fr J J':=by
 refine aN (iO.o _ _) iO.h ?_
 unfold iO
 dsimp only
 have hla:=h1.len
 have hlb:=h2.len
 have hFr:=Fr.refl hW
 simp(disch:=try exact jz)only[go_sem,hla,hlb]
 refine aF (λx tm J'=>∃j,x=n-j/\j<=n/\r8 tm 0=.c a/\r8 tm 1=.c b/\r8 tm 12=jN n/\r8 tm 13=jN j/\(∀i,i<j->f i=g i)/\Fr J J') n ?_ ?_
 .refine⟨0,jb,jb,?_⟩
  refine WN ?_
  exact⟨λi hi=>absurd hi jb,hFr⟩
 .rintro x tm J' ⟨j,rfl,hj,t0,t1,t12,t13,he,hF⟩
  simp(disch:=try exact jz)only[go_sem,t12,t13,aA]
  refine aH (λhlt=>?_) (λhlt=>?_)
  .obtain⟨b5,o5,c5,rfl,bC⟩:=h1.pos jb
   obtain⟨b6,o6,c6,rfl,bJ⟩:=h2.pos jb
   have bC:ld J'.h b5 (o5+j*3) 3 true=some (.agg (rK (f j))):=hF.ld hW (bC j hlt)
   have bJ:ld J'.h b6 (o6+j*3) 3 true=some (.agg (rK (g j))):=hF.ld hW (bJ j hlt)
   have lT:=Fr.refl hF.wf
   by_cases hfg:f j=g j
   .have hd:decide (f j=g j)=true:=aq hfg
    simp(disch:=try exact jz)only[go_sem,W3,bC,bJ,hd]
    exact⟨n-(j+1),jb,j+1,rfl,jb,rfl,λi hi=>by rcases cM.mp hi with h|rfl;exact he i h;exact hfg,hF⟩
   .have hd:decide (f j=g j)=false:=af hfg
    simp(disch:=try exact jz)only[go_sem,t0,t1,t13,bC,bJ,hd]
    exact⟨⟨_,rfl,⟨λh=>(by cases h),λh=>absurd (h j hlt) hfg⟩⟩,hF⟩
  .have:j=n:=jb
   subst this
   refine WX ?_
   exact⟨⟨_,rfl,⟨λ_=>he,λ_=>rfl⟩⟩,hF⟩
def avd{e:fC}{m g:Rat}(hS:SOk e m)(h:JD e m=some g):Sz g:=by
 unfold JD at h;cases hg:nZ e.rk m with
 |none=>rw[hg]at h;cases h
 |some g0=>
  rw[hg]at h
  cases h
  rcases Cb e m e.ps g0 with h|⟨p,hp,d,h1,h2,h3⟩
  .rw[h];exact hS.rk _ hg
  .rw[h3];exact(hS.ps p hp d h1).2
def ave:Option Rat→V
 | some g=>.aV (.agg [.bool (rn g),.str (rs g),.str (rd g)]) (.aV (.c (.bool true)) .tnil)
 | none=>.aV (.agg [.bool (rn 0),.str (rs 0),.str (rd 0)]) (.aV (.c (.bool false)) .tnil)
def avf{J:St}(hW:WF J){n:Nat}{rv pv:B}(t:Rat)(e:fC)(hL:Ls J.h rv pv e)(x:Rat)(hN:BZ e)(h0:0<=x)(S:Rat->Prop)(hS0:S x)
  (hS:∀m,S m->∃D,Dl D/\EOk D n e/\MOk D e m/\ROk D e m/\SOk e m) (hSt:∀m g,S m->JD e m=some g->S (m+g)):
  aC EN 134 [.agg (jW n rv pv t),.agg (rK x)] J λr J'=>(∃o,X9 e n x x o/\r=ave o)/\Fr J J':=by
 refine aN (mJ.o _ _) mJ.h ?_
 unfold mJ jW
 dsimp only
 simp(disch:=try exact jz)only[go_sem,hL.rk.kn,hL.pkn]
 refine aC.st (Fr J) (fr) λhF=>?_
 obtain⟨D,hD,he,q1,q2,-⟩:=hS x hS0
 refine(Q5 hF.wf t e (hL.fr hW hF) x hD he q1 q2).mono ?_
 rintro _ σ1 ⟨⟨b1,c1,o1,rfl,hb1,aDe,aBD,hlo1,hhi1⟩,hf1⟩
 have hF1:=hF.trans hf1
 have hl1:J.aj+1+1+1<=σ1.aj:=hf1.le
 have hx0:σ1.h J.aj=some ⟨[.int .i64 (.ofNat n),rv,pv,.bool (rn t),.str (rs t),.str (rd t)],none⟩:=hf1.get hF.wf ((ak _ _ _ _ jb).trans ((ak _ _ _ _ jb).trans (ay _ _ _)))
 have hx1:σ1.h (J.aj+1)=some ⟨(rK x),none⟩:=hf1.get hF.wf ((ak _ _ _ _ jb).trans (ay _ _ _))
 have hx2:σ1.h (J.aj+1+1)=some ⟨(rK 0),none⟩:=hf1.get hF.wf (ay _ _ _)
 refine WX ?_
 have acC:=hf1.wf.lt hb1
 have hlo1:J.aj+1+1+1<=b1:=hlo1
 refine aF (λq tm J'=>∃m,q=opn e m/\S m/\0<=m/\(∀o,X9 e n x m o->X9 e n x x o)/\r8 tm 2=.c (.ptr J.aj 0)/\r8 tm 3=.c (.ptr (J.aj+1) 0)/\r8 tm 4=.c (.ptr (J.aj+1+1) 0)/\r8 tm 6=.c (.sl b1 0 n c1)/\r8 tm 7=.c (.ptr σ1.aj 0)
  /\J'.h J.aj=some ⟨[.int .i64 (.ofNat n),rv,pv,.bool (rn t),.str (rs t),.str (rd t)],none⟩/\J'.h (J.aj+1)=some ⟨(rK m),none⟩/\J'.h (J.aj+1+1)=some ⟨(rK 0),none⟩
  /\J'.h σ1.aj=some ⟨(rK (Au e x)),none⟩/\J'.h b1=some ⟨cO n (yT e x),o1⟩/\Fr J J') (opn e x) ?_ ?_
 .refine⟨x,rfl,hS0,h0,λo h=>h,?_⟩
  simp(disch:=try exact jz)only[go_sem,am,hx0,hx1,hx2,hb1]
  exact fr
 .rintro q tm J' ⟨m,rfl,hSm,hm0,hNx,t2,t3,t4,t6,t7,hx0,hx1,hx2,hr1,hb1,hf'⟩
  obtain⟨Dm,hDm,hem,q1,q2,q3⟩:=hS m hSm
  have hl':=hf'.le
  have hlx:=hf'.wf.lt hx2
  have hlr:=hf'.wf.lt hr1
  have hlb:=hf'.wf.lt hb1
  simp(disch:=try exact jz)only[go_sem,t2,t3,au hx0,au hx1,hL.rk.kn,hL.pkn]
  refine(ava hf'.wf t e (hL.fr hW hf') m hDm hem q1 q2 q3).mono ?_
  rintro _ σ2 ⟨rfl,hf2⟩
  have hF2:=hf'.trans hf2
  have hx0:=hf2.get hf'.wf hx0
  have hx1:=hf2.get hf'.wf hx1
  have hx2:=hf2.get hf'.wf hx2
  have hr1:=hf2.get hf'.wf hr1
  have hb1:=hf2.get hf'.wf hb1
  have hl2:=hf2.le
  cases hst:JD e m with
  |none=>
   simp(disch:=try exact jz)only[go_sem,t4,hx2]
   exact⟨⟨none,hNx _ (.no hst),rfl⟩,fr⟩
  |some g=>
   have hgz:=avd q3 hst
   have hmz:=q1.hm
   have hg0:=FQ hst
   have hSg:=hSt m g hSm hst
   obtain⟨Dg,hDg,heg,r1,r2,-⟩:=hS _ hSg
   have hop:=Cc hN hm0 hst
   simp(disch:=try exact jz)only[go_sem,t2,t3,au hx0,au hx1,hx1,hL.rk.kn,hL.pkn]
   refine aC.st (Fr J) (fr) λhF3=>?_
   refine(Q5 hF3.wf t e (hL.fr hW hF3) (m+g) hDg heg r1 r2).mono ?_
   rintro _ σ3 ⟨⟨b3,c3,o3,rfl,hb3,aDf,aBE,hlo3,hhi3⟩,hf3⟩
   have hl3:σ2.aj+1<=σ3.aj:=hf3.le
   have hlo3:σ2.aj+1<=b3:=hlo3
   have gB:=hF3.trans hf3
   have hx0:=hf3.get hF3.wf ((ak _ _ _ _ jb).trans ((ak _ _ _ _ jb).trans ((ak _ _ _ _ jb).trans hx0)))
   have hx1:σ3.h (J.aj+1)=some ⟨(rK (m+g)),none⟩:=hf3.get hF3.wf (ay _ _ _)
   have hx2:=hf3.get hF3.wf ((ak _ _ _ _ jb).trans ((ak _ _ _ _ jb).trans ((ak _ _ _ _ jb).trans hx2)))
   have hr1:=hf3.get hF3.wf ((ak _ _ _ _ jb).trans ((ak _ _ _ _ jb).trans ((ak _ _ _ _ jb).trans hr1)))
   have hb1:=hf3.get hF3.wf ((ak _ _ _ _ jb).trans ((ak _ _ _ _ jb).trans ((ak _ _ _ _ jb).trans hb1)))
   by_cases hrr:Au e (m+g)=Au e x
   .have hd:decide (Au e (m+g)=Au e x)=true:=aq hrr
    simp(disch:=try exact jz)only[go_sem,t6,t7,hd,au hr1]
    refine aC.st (Fr σ3) (by have hW3:=hf3.wf;exact fr) λdY=>?_
    have apS:=dY.get hf3.wf hb3
    have hb1':=dY.get hf3.wf hb1
    refine(apR dY.wf he.hn (Ci apS aBE) (Ci hb1' aBD)).mono ?_
    rintro _ σ4 ⟨⟨d,rfl,hd4⟩,hf4⟩
    have iR:=dY.trans hf4
    have hx0:=iR.get hf3.wf hx0
    have hx1:=iR.get hf3.wf hx1
    have hx2:=iR.get hf3.wf hx2
    have hr1:=iR.get hf3.wf hr1
    have hb1:=iR.get hf3.wf hb1
    have nS:=gB.trans iR
    have hl7:=nS.le
    have aDg:=nS.wf.lt hx2
    have hW4:=hf4.wf
    cases d with
    |true=>
     have hsm:U6 e n x (m+g):=⟨hd4.mp rfl,hrr⟩
     refine WP ?_
     exact⟨opn e (m+g),hop,m+g,rfl,hSg,by grind,λo ho=>hNx o (.go hst hsm ho),hx0,hx1,hx2,hr1,hb1,nS⟩
    |false=>
     have hsm:¬U6 e n x (m+g):=λh=>by have:=hd4.mpr h.1;cases this
     simp(disch:=try exact jz)only[go_sem,t3,t4,au hx1,aG hx2]
     exact⟨⟨_,hNx _ (.stop hst hsm),rfl⟩,fr⟩
   .have hd:decide (Au e (m+g)=Au e x)=false:=af hrr
    simp(disch:=try exact jz)only[go_sem,t3,t4,t7,hd,au hr1,au hx1,hx2]
    have hsm:¬U6 e n x (m+g):=λh=>hrr h.2
    exact⟨⟨_,hNx _ (.stop hst hsm),rfl⟩,by have hW3:=hf3.wf;exact fr⟩
structure NF(Q:(Nat->Prop)->Tr Bk->Nat->Prop)(h:Tr Bk)(b n:Nat)(G:Nat->List B)(e ty lo hi:Nat):Prop where
 g:wM n h b=gF n G e ty
 L:LG G e
 l1:lo<=b
 l2:n=0\/b<hi
 q:∀j,j<n->Q (λx=>lo<=x/\x<b) h j
def NoQ(_:Nat->Prop)(_:Tr Bk)(_:Nat):Prop:=True
def MZ(j:Nat):QK NoQ j:=λ_ _ _ _ h _ _=>h
section
variable {Q Q' : (Nat→Prop)→Tr Bk→Nat→Prop} {h h' : Tr Bk} {b n:Nat} {G G' : Nat→List B} {e ty lo hi:Nat}
theorem NF.nil(hL:LG G e):NF Q h lo 0 G e ty lo hi:=⟨rfl,hL,jp,.inl rfl,λ_ h=>jb⟩
def NF.own(ho:NF Q h b n G e ty lo hi):iZ h (aW n b) n G e ty lo hi:=by
 obtain⟨g,L,h1,h2,-⟩:=ho;cases n with
 |zero=>exact .inl ⟨rfl,rfl⟩
 |succ n=>exact .inr ⟨jb,b,rfl,g,h1,jb⟩
def NF.hlp(ho:NF Q h b n G e ty lo hi)(he:0<e)(hk:∀j,j<n->(G j).all B.kn=true){p:Nat->Prop}(hp:∀b,lo<=b->b<hi->p b):aZ p h e (aW n b) n G:=iZ.hlp ho.own ho.L he hk hp
def NF.mono(ho:NF Q h b n G e ty lo hi)(hQ:∀j,j<n->QK Q j)(hh:∀b,lo<=b->b<hi->h' b=h b){hi':Nat}(h2:hi<=hi'):NF Q h' b n G e ty lo hi':=by have h3:=ho.l1;have h4:=ho.l2;refine⟨?_,ho.L,ho.l1,jb,λj hj=>hQ j hj _ _ _ _ (ho.q j hj) (λx hx=>hh x hx.1 jb) λx hx=>hx⟩;rw[xO,ho.g];grind
def NF.el(ho:NF Q h b n G e ty lo hi)(hQ:∀j,j<n->QK Q j){j:Nat}(hj:j<n):Q (λx=>lo<=x/\x<hi) h j:=by have h4:=ho.l2;exact hQ j hj _ _ _ _ (ho.q j hj) (λ_ _=>rfl) λx hx=>⟨hx.1,jb⟩
def NF.push(ho:NF Q h b n G e ty lo hi)(hQ:∀j,j<=n->QK Q' j)(hQQ:∀j,j<n->∀p h,Q p h j->Q' p h j){hi1 nx n':Nat}{h1:Tr Bk}(hx:Q' (λb=>hi<=b/\b<hi1) h1 n)(hh:∀b,lo<=b->b<hi->h1 b=h b)(h2:hi<=hi1)(h3:hi1<=nx)(h4:nx<n')(h5:lo<=hi)
  {x:List B}(hb:h' nx=some ⟨aY n G++x,some (e,ty)⟩) (hgn:x=G' n) (hk:∀c,lo<=c->c<hi1->n=0\/c≠b->h' c=h1 c) (hg:∀i,i<n->G' i=G i) (hL:LG G' e):NF Q' h' nx (n+1) G' e ty lo n':=by
 obtain⟨g,-,l1,l2,q⟩:=ho
 refine⟨?_,hL,jb,jb,λj hj=>?_⟩
 .show h' nx=some _
  grind[Go.Proofs.Xe.jv,Go.Proofs.Xe.bf,Go.Proofs.Xe.iC]
 .by_cases e:j=n
  .subst e
   exact hQ j jb _ _ _ _ hx (λx hx=>hk x jb hx.2 jb) λx hx=>⟨jb,jb⟩
  .exact hQ j jb _ _ _ _ (hQQ j jb _ _ (q j jb)) (λx hx=>by grind) λx hx=>⟨hx.1,jb⟩
end
def zY(p:Nat->Prop)(h:Tr Bk)(v:B)(l:gI):Prop:=
 ∃G:Nat->B,aZ p h 4 v l.length (λi=>kT (G i) (aX (ix l i)))/\agv v/\∀i,i<l.length->aZ p h 4 (G i) (ix l i).length λj=>Bo (ix (ix l i) j)
def acD(p:Nat->Prop)(h:Tr Bk)(v:B)(ms:List Nat):Prop:=aZ p h 1 v ms.length λi=>[TG ms i]
structure zZ(p:Nat->Prop)(h:Tr Bk)(rv pv:B)(e:fC):Prop where
 rk:zY p h rv e.rk
 ps:∃Gm Gl:Nat->B,aZ p h 2 pv e.ps.length (λi=>[Gm i,Gl i])/\∀i,i<e.ps.length->acD p h (Gm i) (ix e.ps i).1/\zY p h (Gl i) (ix e.ps i).2
section
variable {p q:Nat→Prop} {h h' : Tr Bk} {v rv pv:B} {l:gI} {ms:List Nat} {e:fC}
def zY.lad(hl:zY p h v l):JF h v l:=by obtain⟨G,h1,h2,h3⟩:=hl;exact⟨G,h1.hl,h2,λi hi=>(h3 i hi).hl⟩
def zY.keep(hl:zY p h v l)(hk:∀b,p b->h' b=h b)(hp:∀b,p b->q b):zY q h' v l:=by obtain⟨G,h1,h2,h3⟩:=hl;exact⟨G,h1.keep hk hp,h2,λi hi=>(h3 i hi).keep hk hp⟩
def zY.kn(hl:zY p h v l):v.kn=true:=hl.choose_spec.1.kn
def acD.hc(hl:acD p h v ms):HC h v ms.length (TG ms):=by
 by_cases h0:0<ms.length
 .obtain⟨b,o,c,e,hld⟩:=HL.one (aZ.hl hl) h0;exact .inr ⟨b,o,c,e,hld⟩
 .rcases aZ.hl hl with h1|⟨b,o,c,e,-⟩
  .exact .inl h1
  .exact .inr ⟨b,o,c,e,λi hi=>jb⟩
def zZ.lay(hl:zZ p h rv pv e):Ls h rv pv e:=by obtain⟨h1,Gm,Gl,h2,h3⟩:=hl;exact⟨h1.lad,Gm,Gl,h2.hl,λi hi=>⟨(h3 i hi).1.hc,(h3 i hi).2.lad⟩⟩
def zZ.keep(hl:zZ p h rv pv e)(hk:∀b,p b->h' b=h b)(hp:∀b,p b->q b):zZ q h' rv pv e:=by obtain⟨h1,Gm,Gl,h2,h3⟩:=hl;exact⟨h1.keep hk hp,Gm,Gl,h2.keep hk hp,λi hi=>⟨aZ.keep (h3 i hi).1 hk hp,(h3 i hi).2.keep hk hp⟩⟩
def zZ.pkn(hl:zZ p h rv pv e):pv.kn=true:=by obtain⟨-,Gm,Gl,h2,-⟩:=hl;exact h2.kn
end
def Q7(h:Tr Bk)(bs:Nat)(t:dJ):Prop:=wM t.length h bs=gF t.length (λj=>Bo (ix t j)) 4 213
def Q7.hlp{p:Nat->Prop}{h:Tr Bk}{bs:Nat}{t:dJ}(ho:Q7 h bs t)(hp:t.length=0\/p bs):aZ p h 4 (aW t.length bs) t.length λj=>Bo (ix t j):=by
 unfold Q7 at ho;generalize t.length=n at*;cases n with
 |zero=>exact .inl ⟨rfl,rfl⟩
 |succ n=>exact bD _ ho rfl (hp.resolve_left jb) (λ_=>rfl) jj λ_ _=>rfl
def Va(t:dJ)(p:Int×Rat):aX (t++[p])=aX t+p.2:=by
 induction t with
 |nil=>show p.2+0=0+p.2;grind
 |cons q t ih=>grind[aX]
structure mP(h:Tr Bk)(n:Nat)(k:Nat->Nat)(C:Nat->Nat->List B)(bs:Nat->Nat)(lo hi:Nat):Prop where
 r:∀i,i<n->h (bs i)=some ⟨aY (k i) (C i),none⟩/\lo<=bs i/\bs i<hi
 inj:∀i j,i<n->j<n->bs i=bs j->i=j
def zD(k bs:Nat->Nat)(i:Nat):B:=.sl (bs i) 0 (k i) (.ex (k i))
section
variable {h h' : Tr Bk} {n lo hi:Nat} {k bs:Nat→Nat} {C:Nat→Nat→List B}
theorem mP.nil(h:Tr Bk)(k:Nat->Nat)(C:Nat->Nat->List B)(bs:Nat->Nat)(lo hi:Nat):mP h 0 k C bs lo hi:=⟨λi hi=>jb,λi j hi=>jb⟩
def mP.mono(ho:mP h n k C bs lo hi)(hh:∀b,lo<=b->b<hi->h' b=h b){lo' hi':Nat}(h1:lo'<=lo)(h2:hi<=hi'):mP h' n k C bs lo' hi':=
 ⟨λi hi=>by obtain⟨k1,k2,k3⟩:=ho.r i hi;grind,ho.inj⟩
def mP.mono'(ho:mP h n k C bs lo hi)(hh:∀i,i<n->h' (bs i)=h (bs i)){lo' hi':Nat}(h1:lo'<=lo)(h2:hi<=hi'):mP h' n k C bs lo' hi':=
 ⟨λi hi=>by obtain⟨k1,k2,k3⟩:=ho.r i hi;grind,ho.inj⟩
def mP.congr{C':Nat->Nat->List B}(ho:mP h n k C bs lo hi)(hc:∀i,i<n->∀c,c<k i->C i c=C' i c):mP h n k C' bs lo hi:=
 ⟨λi hi=>by obtain⟨k1,k2,k3⟩:=ho.r i hi;grind[bf],ho.inj⟩
def mP.push(ho:mP h n k C bs lo hi){nb:Nat}{c:List B}(hb:h' nb=some ⟨c,none⟩)(hc:c=aY (k n) (C n))(hn:hi<=nb){hi':Nat}(h2:nb<hi')(hl:lo<=nb)(hh:∀b,lo<=b->b<hi->(∃i,i<n/\b=bs i)->h' b=h b):mP h' (n+1) k C (aJ bs n nb) lo hi':=by
 refine⟨λi hi1=>?_,λi j hi1 hj e=>?_⟩
 .by_cases e:i=n
  .grind[aI]
  .obtain⟨k1,k2,k3⟩:=ho.r i jb;grind[aQ]
 .by_cases e1:i=n<;>by_cases e2:j=n
  .omega
  .exfalso;rw[e1,aI,aQ _ _ _ _ e2]at e;have:=(ho.r j jb).2.2;omega
  .exfalso;rw[e2,aI,aQ _ _ _ _ e1]at e;have:=(ho.r i jb).2.2;omega
  .rw[aQ _ _ _ _ e1,aQ _ _ _ _ e2]at e;exact ho.inj i j jb jb e
def ug(C:Nat->Nat->List B)(i c:Nat)(x:List B):Nat->Nat->List B:=λi' c'=>if i'=i/\c'=c then x else C i' c'
def mP.set(ho:mP h n k C bs lo hi){i c:Nat}{x l:List B}(hi1:i<n)(hl:l=aY (k i) (iC (C i) c x)):mP (hset h (bs i) ⟨l,none⟩) n k (ug C i c x) bs lo hi:=by
 refine⟨λj hj=>?_,ho.inj⟩;obtain⟨k1,k2,k3⟩:=ho.r j hj;by_cases e:j=i
 .grind[Go.Proofs.Xe.ay,Go.Proofs.Xe.bf,Go.Proofs.Xe.iC,Go.Proofs.Xe.ug]
 .rw[ak _ _ _ _ (λe2=>e (ho.inj j i hj hi1 e2)),k1];grind[Go.Proofs.Xe.bf,Go.Proofs.Xe.ug]
def mP.hlp(ho:mP h n k C bs lo hi){p:Nat->Prop}{e:Nat}(hp:∀b,lo<=b->b<hi->p b)(he:0<e)(hC:∀i c,(C i c).length=e)(hk:∀i c,i<n->c<k i->(C i c).all B.kn=true){i:Nat}(hi1:i<n):aZ p h e (zD k bs i) (k i) (C i):=by obtain⟨k1,k2,k3⟩:=ho.r i hi1;exact bD _ k1 rfl (hp _ k2 k3) (hC i) he λc hc=>hk i c hi1 hc
end
def apT(t:dJ):LG (λj=>Bo (ix t j)) 4:=λ_=>rfl
def akV{J:St}(hW:WF J){b n r:Nat}{G:Nat->List B}{o:Option (Nat×Nat)}(hb:J.h b=some ⟨aY n G,o⟩)(hr:r<n)(hG:∀j,(G j).length=4)(hpl:plo o=true)(hrd:X7 o=true){t:dJ}{bs:Nat}(hGr:G r=kT (aW t.length bs) (aX t))(hT:Q7 J.h bs t)(hne:t.length=0\/bs≠b)(hbs:t.length=0\/bs<J.aj)(hl:t.length<=1000000)(k:Int)(q:Rat)(hs:Sz (aX t))(hq:Sz q):
  aC EN 109 [.c (.ptr b (r*4)),.c (.int .i64 k),.agg (rK q)] J λ_ J'=>∃nx,J.aj<=nx/\nx<J'.aj/\J'.h b=some ⟨aY n (iC G r (kT (.sl nx 0 (t.length+1) .opn) (aX t+q))),o⟩/\J'.h nx=some ⟨aY t.length (λj=>Bo (ix t j))++Bo (k,q),some (4,213)⟩/\aU [b,bs] J J':=by
 refine aN (oW.o _ _) oW.h ?_
 unfold oW
 dsimp only
 have hbl:=hW.lt hb
 have hFr:=Fr.refl hW
 have l0:ld J.h b (r*4) 1 false=some (.c (aW t.length bs)):=by have:=Ap (k:=0) (m:=1) false hG hr jj jj;rw[bO,hGr]at this;rw[au hb,Qc];dsimp only;rw[hrd,ce,this];unfold kT yZ;simp[Jh]
 have w0:∀x:B,wI (aY n G) (r*4) [x]=some (aY n (iC G r (kT x (aX t)))):=λx=>by have:=uS (k:=0) (vs:=[x]) hG hr kc;rw[bO]at this;rw[this,hGr];rfl
 have r1:∀x:B,yZ (aY n (iC G r (kT x (aX t)))) (r*4+1) 3 true=some (.agg (rK (aX t))):=λx=>by have:=Ap (k:=1) (m:=3) (G:=iC G r (kT x (aX t))) true (Qn hG rfl) hr jj jj;rw[this,WJ];rfl
 have w1:∀x a c d:B,wI (aY n (iC G r (kT x (aX t)))) (r*4+1) [a,c,d]=some (aY n (iC G r [x,a,c,d])):=λx a c d=>by have:=uS (k:=1) (vs:=[a,c,d]) (G:=iC G r (kT x (aX t))) (Qn hG rfl) hr kc;rw[this,WJ,<-agP G r (kT x (aX t)) [x,a,c,d]];rfl
 have hLG:=apT t
 unfold Q7 at hT
 simp(disch:=try exact jz)only[go_sem,l0,w0,r1,w1,hpl,hrd,hb,hT]
 refine⟨J.aj+1+1,jb,jb,?_,?_,?_⟩
 .rfl
 .rw[ak _ _ _ _ jb,ak _ _ _ _ jb,ay];rfl
 .repeat(first|assumption|exact aU.refl (by assumption)|exact aU.up (by assumption) kf|exact aU.up (aU.refl (by assumption)) kf|refine aU.set1 ?_ kg kf|refine aU.jV ?_ kg|refine aU.mX ?_ kg|refine aU.nX ?_ kf)
end Go.Proofs.Xe
namespace Go.Proofs.Ins
structure GL where
 e:Nat->fC
 k:Nat->Nat
 h:Nat->Nat->Int
 ds:List (Rat×List gJ)
def GL.fP(g:GL):List gJ:=g.ds.flatMap (·.2)
def gq(g:GL)(x:Nat->Rat)(l:gJ):Rat:=uI (g.e l.1) (x l.1) l.2
def gs(g:GL)(x:Nat->Rat)(i:Nat)(l:gJ):Rat:=if l.1=i then yT (g.e l.1) (x l.1) l.2 else 0
def TJ(g:GL)(d:Rat×List gJ):Int:=match d.2 with|[]=>-1|l::_=>g.h l.1 l.2
def dG(g:GL)(x:Nat->Rat)(j:Nat)(d:Rat×List gJ):Rat:=(if TJ g d=(j:Int)then kS d.1 (aK d.2 (gq g x))else 0)+rX d.1 (gq g x) 0 d.2 j
def dM(g:GL)(x:Nat->Rat)(j i:Nat)(d:Rat×List gJ):Rat:=
 (if TJ g d=(j:Int)then aK d.2 (gs g x i)-pR d.1 (aK d.2 (gq g x)) (aK d.2 (gs g x i))else 0)+jF d.1 (gq g x) (gs g x i) 0 0 0 d.2 j
def wB(g:GL)(j i c:Nat):Bool:=!(g.fP.contains (i,c))&&g.h i c==(j:Int)
def gG(n:Nat)(g:GL)(x:Nat->Rat)(j:Nat):Rat:=aB n (λi=>aB (g.k i) λc=>if wB g j i c then gq g x (i,c)else 0)+aK g.ds (dG g x j)
def gM(n:Nat)(g:GL)(x:Nat->Rat)(j i:Nat):Rat:=aB (g.k i) (λc=>if wB g j i c then gs g x i (i,c)else 0)+aK g.ds (dM g x j i)
structure Ny(n:Nat)(g:GL):Prop where
 nn:∀i,i<n->BZ (g.e i)
 inn:∀i,i<n->InE (g.k i) (g.e i)
 hold:∀i c,i<n->c<g.k i->g.h i c=-1\/0<=g.h i c/\g.h i c<n
 fP:∀l∈g.fP,l.1<n/\l.2<g.k l.1
 nodup:g.fP.Nodup
 pos:∀d∈g.ds,0<=d.1
section
variable {n:Nat} {g:GL}
def ahe(hg:Ny n g){d:Rat×List gJ}(hd:d∈g.ds):TJ g d=-1\/0<=TJ g d/\TJ g d<n:=by
 unfold TJ;split
 .omega
 .next l t e=>
  have h1:=hg.fP l (by grind[GL.fP]);exact hg.hold _ _ h1.1 h1.2
def vw(hg:Ny n g){d:Rat×List gJ}(hd:d∈g.ds){l:gJ}(hl:l∈d.2):l.1<n:=
 (hg.fP l (cC.mpr ⟨d,hd,hl⟩)).1
def avg(hg:Ny n g){d:Rat×List gJ}(hd:d∈g.ds)(v:Rat):aB n (λj=>if TJ g d=(j:Int)then v else 0)=if TJ g d=-1 then 0 else v:=by
 rcases ahe hg hd with h|⟨h1,h2⟩
 .grind[bK]
 .rw[ae jb,jQ (k:=(TJ g d).toNat) jb λj _ hne=>ae jb,ab jb]
def apU(hg:Ny n g){i c:Nat}(hi:i<n)(hc:c<g.k i)(v:Rat):aB n (λj=>if wB g j i c then v else 0)=if(i,c)∈g.fP\/g.h i c=-1 then 0 else v:=by
 by_cases hl:(i,c)∈g.fP
 .grind[bK,wB]
 .rcases hg.hold i c hi hc with h|⟨h1,h2⟩
  .grind[bK,wB]
  .rw[ae kd,jQ (k:=(g.h i c).toNat) jb λj _ hne=>?_,ab ?_]
   .grind[wB]
   grind[wB]
theorem Vb(hg:Ny n g){x:Nat->Rat}(hx:Nn n x){l:gJ}(hl:l.1<n):0<=gq g x l:=Lj (hg.nn _ hl) (hx _ hl) _
def iG(n:Nat)(q:gJ->Rat)(l:gJ):Rat:=if l.1<n then q l else 0
theorem Om{W:Rat}{q:gJ->Rat}(j:Nat):∀(t:List gJ) (Q:Rat),(∀l∈t,l.1<n)->rX W (iG n q) Q t j=rX W q Q t j
 |[],_,_=>rfl
 |l::t,Q,h=>by have e:iG n q l=q l:=ab (h l kc);unfold rX;rw[e,Om j t _ λu hu=>h u (by simp[hu])]
theorem Xj{W:Rat}{q r:gJ->Rat}(j:Nat):∀(t:List gJ) (Q R B:Rat),(∀l∈t,l.1<n)->jF W (iG n q) (iG n r) Q R B t j=jF W q r Q R B t j
 |[],_,_,_,_=>rfl
 |l::t,Q,R,B,h=>by have e:iG n q l=q l:=ab (h l kc);have e2:iG n r l=r l:=ab (h l kc);unfold jF;rw[e,e2,Xj j t _ _ _ λu hu=>h u (by simp[hu])]
def apV(hg:Ny n g){x y:Nat->Rat}(hx:Nn n x)(hxy:Le n x y)(j:Nat):gG n g x j<=gG n g y j:=by
 unfold gG;have h1:∀l:gJ,l.1<n->gq g x l<=gq g y l:=λl hl=>JE (hg.nn _ hl) (hx _ hl) (hxy _ hl) _;have h2:aB n (λi=>aB (g.k i) λc=>if wB g j i c then gq g x (i,c)else 0)<=aB n λi=>aB (g.k i) λc=>if wB g j i c then gq g y (i,c)else 0:=
  pO λi hi=>pO λc _=>by grind
 have h3:aK g.ds (dG g x j)<=aK g.ds (dG g y j):=vP λd hd=>by
  have hl:=λl hl=>vw hg hd (l:=l) hl;have a:aK d.2 (gq g x)<=aK d.2 (gq g y):=vP λl hl=>h1 l (vw hg hd hl);have b:=QN (W:=d.1) (q:=iG n (gq g x)) (q':=iG n (gq g y)) (λl=>by
   grind[iG,Vb]) (λl=>by
   grind[iG]) j d.2 0 0 aR
  grind[Om,kS,dG]
 grind
def aae(gf:gJ->Rat):∀L:List gJ,L.Nodup->(∀l∈L,l.1<n/\l.2<g.k l.1)->aB n (λi=>aB (g.k i) λc=>if(i,c)∈L then gf (i,c)else 0)=aK L gf
 |[],_,_=>bK λi _=>bK λc _=>by simp
 |p::t,hn,hl=>by
  rw[gw]at hn;have hp:=hl p kc;have e:aB n (λi=>aB (g.k i) λc=>if(i,c)∈p::t then gf (i,c)else 0)=aB n λi=>(if i=p.1 then gf p else 0)+aB (g.k i) λc=>if(i,c)∈t then gf (i,c)else 0:=aP λi _=>by
   have e2:(if i=p.1 then gf p else 0)=aB (g.k i) λc=>if i=p.1/\c=p.2 then gf p else 0:=by grind[jQ,bK]
   rw[e2,<-dH];grind
  have hd:aB n (λi=>if i=p.1 then gf p else 0)=gf p:=by grind[jQ]
  rw[e,dH,hd,aae gf t hn.2 λl hl'=>hl l (by simp[hl'])];rfl
def acE{α:Type}(l:List α)(f:α->List gJ)(gf:gJ->Rat):aK (l.flatMap f) gf=aK l λa=>aK (f a) gf:=by
 induction l with
 |nil=>rfl
 |cons a l ih=>
  rw[gc]
  have:∀(u v:List gJ),aK (u++v) gf=aK u gf+aK v gf:=λu v=>by
   induction u with
   |nil=>grind[aK]
   |cons x u ih=>
    grind[aK]
  rw[this,ih];rfl
def Xb(g:GL)(x:Nat->Rat)(i c:Nat):Rat:=if(i,c)∉g.fP/\g.h i c=-1 then gq g x (i,c)else 0
def ahf(g:GL)(x:Nat->Rat)(d:Rat×List gJ):Rat:=if TJ g d=-1 then kS d.1 (aK d.2 (gq g x))else 0
def akW(hg:Ny n g)(x:Nat->Rat)(hx:Nn n x):aB n (λi=>x i-gG n g x i)=aB n (λi=>x i-aB (g.k i) (uI (g.e i) (x i)))+aB n (λi=>aB (g.k i) (Xb g x i))+aK g.ds (ahf g x):=by
 have a1:aB n (λj=>aB n λi=>aB (g.k i) λc=>if wB g j i c then gq g x (i,c)else 0)=aB n λi=>aB (g.k i) λc=>if(i,c)∈g.fP\/g.h i c=-1 then 0 else gq g x (i,c):=by rw[Bl];refine aP λi hi=>?_;simp_all[Bl,aP,apU]
 have a2:aB n (λj=>aK g.ds (dG g x j))=aK g.ds λd=>(if TJ g d=-1 then 0 else kS d.1 (aK d.2 (gq g x)))+tX (aK d.2 (gq g x)-d.1):=by
  rw[FP g.ds λd j=>dG g x j d];refine eX λd hd=>?_;have e:aB n (λj=>dG g x j d)=aB n (λj=>if TJ g d=(j:Int)then kS d.1 (aK d.2 (gq g x))else 0)+aB n λj=>rX d.1 (gq g x) 0 d.2 j:=by rw[<-dH];rfl
  rw[e,avg hg hd,aeM d.2 0 λl hl=>vw hg hd hl];have h0:=hg.pos d hd;have e2:tX (0-d.1)=0:=by unfold tX;split<;>grind
  grind
 have a3:aB n (λi=>aB (g.k i) λc=>if(i,c)∈g.fP then gq g x (i,c)else 0)=aK g.ds λd=>aK d.2 (gq g x):=by rw[aae (gq g x) g.fP hg.nodup hg.fP];exact acE _ _ _
 have a4:aB n (λi=>aB (g.k i) λc=>if(i,c)∈g.fP\/g.h i c=-1 then 0 else gq g x (i,c))=aB n (λi=>aB (g.k i) (uI (g.e i) (x i)))-aB n (λi=>aB (g.k i) λc=>if(i,c)∈g.fP then gq g x (i,c)else 0)-aB n (λi=>aB (g.k i) (Xb g x i)):=by
  rw[<-iI,<-iI];refine aP λi _=>?_;rw[<-iI,<-iI];refine aP λc _=>?_;have e:uI (g.e i) (x i) c=gq g x (i,c):=rfl;rw[e];unfold Xb;by_cases h1:(i,c)∈g.fP
  .rw[ab (.inl h1),ab h1,ae λh=>h.1 h1];grind
  .by_cases h2:g.h i c=-1
   .rw[ab (.inr h2),ae h1,ab ⟨h1,h2⟩];grind
   .rw[ae (by simp[h1,h2]),ae h1,ae λh=>h2 h.2];grind
 have a5:aK g.ds (λd=>(if TJ g d=-1 then 0 else kS d.1 (aK d.2 (gq g x)))+tX (aK d.2 (gq g x)-d.1))=aK g.ds (λd=>aK d.2 (gq g x))-aK g.ds (ahf g x):=by
  rw[<-QL];refine eX λd hd=>?_;unfold ahf;have e:kS d.1 (aK d.2 (gq g x))+tX (aK d.2 (gq g x)-d.1)=aK d.2 (gq g x):=by unfold kS tX;split<;>split<;>grind
  split<;>grind
 have a6:aB n (λi=>x i-gG n g x i)=aB n x-(aB n (λj=>aB n λi=>aB (g.k i) λc=>if wB g j i c then gq g x (i,c)else 0)+aB n λj=>aK g.ds (dG g x j)):=by rw[<-dH,<-iI];rfl
 grind[iI]
def apW(hg:Ny n g){x y:Nat->Rat}(hx:Nn n x)(hxy:Le n x y):aB n (λi=>x i-gG n g x i)<=aB n (λi=>y i-gG n g y i):=by
 rw[akW hg x hx,akW hg y (hx.le hxy)];have h0:∀l:gJ,l.1<n->gq g x l<=gq g y l:=λl hl=>JE (hg.nn _ hl) (hx _ hl) (hxy _ hl) _;have h1:aB n (λi=>x i-aB (g.k i) (uI (g.e i) (x i)))<=aB n (λi=>y i-aB (g.k i) (uI (g.e i) (y i))):=
  pO λi hi=>Z4 (hg.nn i hi) (hg.inn i hi) (hx i hi) (hxy i hi)
 have h2:aB n (λi=>aB (g.k i) (Xb g x i))<=aB n (λi=>aB (g.k i) (Xb g y i)):=pO λi hi=>pO λc _=>by grind[Xb]
 have h3:aK g.ds (ahf g x)<=aK g.ds (ahf g y):=vP λd hd=>by have a:aK d.2 (gq g x)<=aK d.2 (gq g y):=vP λl hl=>h0 l (vw hg hd hl);grind[ahf,kS]
 grind
def gr(g:GL)(x d:Nat->Rat)(l:gJ):Rat:=yT (g.e l.1) (x l.1) l.2*d l.1
structure Ok(n:Nat)(g:GL)(x d:Nat->Rat)(s:Rat):Prop where
 e:∀i,i<n->∀c,c<g.k i->uI (g.e i) (x i+s*d i) c=uI (g.e i) (x i) c+s*d i*yT (g.e i) (x i) c
 d:∀d'∈g.ds,okD d'.1 (gq g x) (gr g x d) s 0 0 d'.2
def akX{x d:Nat->Rat}{l:gJ}(hl:l.1<n):aB n (λi=>gs g x i l*d i)=gr g x d l:=by grind[gs,gr,jQ]
def aze(hg:Ny n g){x:Nat->Rat}(hx:Nn n x){l:gJ}(hl:l.1<n)(i:Nat):0<=gs g x i l:=by
 unfold gs;split
 .exact tN (hg.nn _ hl) (hx _ hl) _
 rfl
def Xk{W:Rat}{q r:gJ->Rat}{s:Rat}:∀(t:List gJ) (Q R:Rat),(∀l∈t,l.1<n)->(okD W (iG n q) (iG n r) s Q R t↔okD W q r s Q R t)
 |[],_,_,_=>Iff.rfl
 |l::t,Q,R,h=>by have e:iG n q l=q l:=ab (h l kc);have e2:iG n r l=r l:=ab (h l kc);unfold okD;rw[e,e2,Xk t _ _ λu hu=>h u (by simp[hu])]
def akY(hg:Ny n g){x d:Nat->Rat}(hx:Nn n x)(hd:Nn n d){s:Rat}(h0:0<=s)(ho:Ok n g x d s){j:Nat}(hj:j<n):gG n g (bF x d s) j=gG n g x j+s*mv n (gM n g x) d j:=by
 have hq:∀l:gJ,l.1<n->l.2<g.k l.1->gq g (bF x d s) l=gq g x l+s*gr g x d l:=λl h1 h2=>by have:=ho.e l.1 h1 l.2 h2;grind[gq,gr,bF]
 have a1:aB n (λi=>aB (g.k i) λc=>if wB g j i c then gq g (bF x d s) (i,c)else 0)=aB n (λi=>aB (g.k i) λc=>if wB g j i c then gq g x (i,c)else 0)+s*aB n λi=>aB (g.k i) (λc=>if wB g j i c then gs g x i (i,c)else 0)*d i:=by rw[<-gX,<-dH];refine aP λi hi=>?_;rw[<-rO,<-gX,<-dH];grind[Go.Proofs.Ins.aP,Go.Proofs.Ins.gs,Go.Proofs.Ins.gr]
 have a2:∀d'∈g.ds,dG g (bF x d s) j d'=dG g x j d'+s*aB n λi=>dM g x j i d'*d i:=λd' hd'=>by
  have hl:=λl hl=>vw hg hd' (l:=l) hl;have hl2:∀l∈d'.2,l.2<g.k l.1:=λl hl=>(hg.fP l (cC.mpr ⟨d',hd',hl⟩)).2;have hok:=ho.d d' hd';have hcq:∀l,0<=iG n (gq g x) l:=λl=>by
   unfold iG;split
   .next h=>exact Vb hg hx h
   .exact aR
  have hcr:∀l,0<=iG n (gr g x d) l:=λl=>by
   unfold iG;split
   .next h=>exact cg (tN (hg.nn _ h) (hx _ h) _) (hd _ h)
   .exact aR
  have hq0:(0:Rat)<d'.1->s*0<=d'.1-0:=λh=>by grind
  have b1:=aeH (W:=d'.1) h0 hcr j d'.2 0 0 aR hq0 ((Xk d'.2 0 0 hl).mpr hok);have b2:rX d'.1 (λl=>iG n (gq g x) l+s*iG n (gr g x d) l) (0+s*0) d'.2 j=rX d'.1 (gq g (bF x d s)) 0 d'.2 j:=by
   have z:(0:Rat)+s*0=0:=by grind
   rw[z];clear b1 hok hq0;have:∀(t:List gJ) (Q:Rat),(∀l∈t,l.1<n/\l.2<g.k l.1)->rX d'.1 (λl=>iG n (gq g x) l+s*iG n (gr g x d) l) Q t j=rX d'.1 (gq g (bF x d s)) Q t j:=by
    intro t;induction t with
    |nil=>intro Q _;rfl
    |cons l t ih=>
     intro Q h
     have h1:=h l kc
     have e:iG n (gq g x) l+s*iG n (gr g x d) l=gq g (bF x d s) l:=by rw[hq l h1.1 h1.2];unfold iG;rw[ab h1.1,ab h1.1]
     unfold rX
     rw[e,ih _ λu hu=>h u (by simp[hu])]
   exact this d'.2 0 λl h=>⟨hl l h,hl2 l h⟩
  rw[b2,Om j _ _ hl,Xj j _ _ _ _ hl]at b1;have z0:pR d'.1 0 0=0:=by unfold pR;split<;>rfl
  rw[z0]at b1;have b3:jF d'.1 (gq g x) (gr g x d) 0 0 0 d'.2 j=aB n λi=>jF d'.1 (gq g x) (gs g x i) 0 0 0 d'.2 j*d i:=by
   have c:=aeL (n:=n) (W:=d'.1) (q:=gq g x) d (gs g x) j d'.2 0 (λ_=>0) (λ_=>0);have z:aB n (λi=>0*d i)=0:=bK λi _=>by rw[Rat.zero_mul]
   rw[z]at c;rw[<-c];have:∀(t:List gJ) (Q R B:Rat),(∀l∈t,l.1<n)->jF d'.1 (gq g x) (gr g x d) Q R B t j=jF d'.1 (gq g x) (λl=>aB n λi=>gs g x i l*d i) Q R B t j:=by
    intro t;induction t with
    |nil=>intro Q R B _;rfl
    |cons l t ih=>
     intro Q R B h
     unfold jF
     rw[akX (h l kc),ih _ _ _ λu hu=>h u (by simp[hu])]
   exact this d'.2 0 0 0 hl
  have b4:aK d'.2 (gq g (bF x d s))=aK d'.2 (gq g x)+s*aK d'.2 (gr g x d):=by rw[<-yS,<-ET];exact eX λl h=>hq l (hl l h) (hl2 l h)
  have b5:aK d'.2 (gr g x d)=aB n λi=>aK d'.2 (gs g x i)*d i:=by
   have:aB n (λi=>aK d'.2 (gs g x i)*d i)=aB n λi=>aK d'.2 λl=>gs g x i l*d i:=aP λi _=>by rw[fX,<-yS];exact eX λl _=>fX _ _
   rw[this,FP d'.2 λl i=>gs g x i l*d i];exact eX λl h=>(akX (hl l h)).symm
  have b6:0<=aK d'.2 (gr g x d):=oL λl h=>cg (tN (hg.nn _ (hl l h)) (hx _ (hl l h)) _) (hd _ (hl l h));have b7:=aeI d'.2 0 0 hok (λh=>by grind);rw[fW,fW]at b7;have b8:=apN (W:=d'.1) h0 b6 b7;have b9:aB n (λi=>(aK d'.2 (gs g x i)-pR d'.1 (aK d'.2 (gq g x)) (aK d'.2 (gs g x i)))*d i)=aK d'.2 (gr g x d)-pR d'.1 (aK d'.2 (gq g x)) (aK d'.2 (gr g x d)):=by rw[b5,aeK,<-iI];exact aP λi _=>by grind
  unfold dG dM;rw[b1,b3,b4,b8];by_cases e:TJ g d'=(j:Int)
  .simp only[ab e];have:aB n (λi=>(aK d'.2 (gs g x i)-pR d'.1 (aK d'.2 (gq g x)) (aK d'.2 (gs g x i))+jF d'.1 (gq g x) (gs g x i) 0 0 0 d'.2 j)*d i)=aB n (λi=>(aK d'.2 (gs g x i)-pR d'.1 (aK d'.2 (gq g x)) (aK d'.2 (gs g x i)))*d i)+aB n λi=>jF d'.1 (gq g x) (gs g x i) 0 0 0 d'.2 j*d i:=by rw[<-dH];exact aP λi _=>by rw[Rat.add_mul]
   rw[this,b9];grind
  .simp only[ae e];have:aB n (λi=>(0+jF d'.1 (gq g x) (gs g x i) 0 0 0 d'.2 j)*d i)=aB n λi=>jF d'.1 (gq g x) (gs g x i) 0 0 0 d'.2 j*d i:=aP λi _=>by rw[fW]
   rw[this];grind
 have a3:aK g.ds (dG g (bF x d s) j)=aK g.ds (dG g x j)+s*aB n λi=>aK g.ds (dM g x j i)*d i:=by rw[eX a2,ET,yS];congr 2;rw[<-FP g.ds λd' i=>dM g x j i d'*d i];refine aP λi _=>?_;rw[fX,<-yS];exact eX λ_ _=>fX _ _
 have a4:mv n (gM n g x) d j=aB n (λi=>aB (g.k i) (λc=>if wB g j i c then gs g x i (i,c)else 0)*d i)+aB n λi=>aK g.ds (dM g x j i)*d i:=by rw[<-dH];exact aP λi _=>by unfold gM;rw[Rat.add_mul]
 grind[gG]
end
def kU(a:fD):List Nat:=(xP a).map Int.toNat
def Cj(cs:List C5)(r:Nat):Nat->dJ
 |0=>[]
 |k+1=>Cj cs r k++if(ix cs k).r=(r:Int)then [((k:Int),(ix cs k).a.q)]else []
def Tc(cs:List C5)(k:Nat):gI:=(List.range 8).map λr=>Cj cs r k
def Oo(s:(Nat->Rat)×dJ)(x:yF):(Nat->Rat)×dJ:=
 if x.k=-1 then(s.1,s.2++[((-1:Int),x.a.q)])
 else((λi=>if i=x.k.toNat then s.1 i-(if x.b=true then kS (s.1 x.k.toNat) x.a.q else s.1 x.k.toNat)else s.1 i),s.2++[(x.k,if x.b=true then kS (s.1 x.k.toNat) x.a.q else s.1 x.k.toNat)])
def ltS(s:(Nat->Rat)×gI)(t:Ji):(Nat->Rat)×gI:=((t.foldl Oo (s.1,[])).1,s.2++[(t.foldl Oo (s.1,[])).2])
def lsA(cs:List C5)(a:fD):(Nat->Rat)×gI:=a.foldl ltS ((λi:Nat=>(ix cs i).a.q),[])
def wZ(ms:List Nat)(f:Nat->Rat):dJ:=ms.map λi:Nat=>((i:Int),f i)
def qB(cs:List C5)(a:fD):List Nat×gI:=(kU a,(lsA cs a).2++[wZ (kU a) (lsA cs a).1])
def bZ(e:vZ):fC:=⟨Tc e.c e.c.length,e.a.map (qB e.c)⟩
structure TK(P:Rat->Prop):Prop where
 min:∀a b,P a->P b->P (kS a b)
 sub:∀a b,P a->P b->P (a-kS a b)
 zero:P 0
def TL(P:Rat->Prop)(n:Nat)(x:yF):Prop:=(x.k=-1\/0<=x.k/\x.k<n)/\((x.k=-1\/x.b=true)->P x.a.q)
def Bz(P:Rat->Prop)(n:Nat)(t:dJ):Prop:=∀p∈t,(p.1=-1\/0<=p.1/\p.1<n)/\P p.2
section
variable {P:Rat→Prop} {n:Nat}
def Bz.snoc{t:dJ}(h:Bz P n t){p:Int×Rat}(h1:p.1=-1\/0<=p.1/\p.1<n)(h2:P p.2):Bz P n (t++[p]):=λq hq=>by
 rcases bY.mp hq with hq|hq
 .exact h q hq
 grind
def azf(hP:TK P){s:(Nat->Rat)×dJ}(h1:∀i,P (s.1 i))(h2:Bz P n s.2){x:yF}(hx:TL P n x):(∀i,P ((Oo s x).1 i))/\Bz P n (Oo s x).2:=by
 unfold Oo;by_cases e:x.k=-1
 .rw[ab e];exact⟨h1,h2.snoc (.inl rfl) (hx.2 (.inl e))⟩
 .rw[ae e];dsimp only;have self:P (s.1 x.k.toNat-s.1 x.k.toNat):=by rw[show s.1 x.k.toNat-s.1 x.k.toNat=0 by grind];exact hP.zero
  refine⟨λi=>?_,h2.snoc hx.1 ?_⟩
  .split
   .next e2=>
    rw[e2];split
    .next hb=>exact hP.sub _ _ (h1 _) (hx.2 (.inr hb))
    omega
   grind
  .dsimp only;split
   .next hb=>exact hP.min _ _ (h1 _) (hx.2 (.inr hb))
   grind
def acF(hP:TK P):∀(t:Ji){s:(Nat->Rat)×dJ},(∀i,P (s.1 i))->Bz P n s.2->(∀x∈t,TL P n x)->(∀i,P ((t.foldl Oo s).1 i))/\Bz P n (t.foldl Oo s).2
 |[],_,h1,h2,_=>⟨h1,h2⟩
 |x::t,s,h1,h2,h=>by obtain⟨h3,h4⟩:=azf hP h1 h2 (h x kc);exact acF hP t h3 h4 λy hy=>h y (by simp[hy])
def yU(P:Rat->Prop)(n:Nat)(l:gI):Prop:=∀t∈l,Bz P n t
def yU.snoc{l:gI}(h:yU P n l){t:dJ}(ht:Bz P n t):yU P n (l++[t]):=λu hu=>by
 rcases bY.mp hu with hu|hu
 .exact h u hu
 grind
def acG(hP:TK P):∀(a:fD){s:(Nat->Rat)×gI},(∀i,P (s.1 i))->yU P n s.2->(∀t∈a,∀x∈t,TL P n x)->(∀i,P ((a.foldl ltS s).1 i))/\yU P n (a.foldl ltS s).2
 |[],_,h1,h2,_=>⟨h1,h2⟩
 |t::a,s,h1,h2,h=>by obtain⟨h3,h4⟩:=acF hP t (s:=(s.1,[])) h1 (λ_ h=>by cases h) (h t kc);exact acG hP a (s:=ltS s t) h3 (h2.snoc h4) λu hu=>h u (by simp[hu])
def akZ(hP:TK P){cs:List C5}{a:fD}(hc:∀i,P (ix cs i).a.q)(ha:∀t∈a,∀x∈t,TL P n x):(∀i,P ((lsA cs a).1 i))/\yU P n (lsA cs a).2:=acG hP a hc (λ_ h=>by cases h) ha
def vS{a:fD}(ha:∀t∈a,∀x∈t,x.k=-1\/0<=x.k/\x.k<n):∀c∈xP a,0<=c/\c<n:=λc hc=>by obtain⟨h1,h2⟩:=sO.mp hc;obtain⟨t,ht,hm⟩:=dy.mp h2;obtain⟨x,hx,e⟩:=dy.mp hm;grind
def wC{a:fD}(ha:∀t∈a,∀x∈t,x.k=-1\/0<=x.k/\x.k<n){i:Nat}:i∈kU a↔Qi a (i:Int)=true:=by
 unfold kU;rw[cT];constructor
 .rintro⟨c,hc,rfl⟩;have h1:=vS ha c hc;rw[fe h1.1];exact(sO.mp hc).2
 .intro h;exact⟨i,sO.mpr ⟨jb,h⟩,by simp⟩
def Hw{a:fD}(ha:∀t∈a,∀x∈t,x.k=-1\/0<=x.k/\x.k<n):(kU a).Nodup:=by unfold kU;rw[ik,List.pairwise_map];refine List.Pairwise.imp_of_mem (λ{x y} hx hy h=>?_) (ad6 a);have:=vS ha x hx;omega
def aeX(hP:TK P){cs:List C5}{a:fD}(hc:∀i,P (ix cs i).a.q)(ha:∀t∈a,∀x∈t,TL P n x):yU P n (qB cs a).2:=by obtain⟨h1,h2⟩:=akZ hP hc ha;refine h2.snoc λp hp=>?_;unfold wZ at hp;obtain⟨i,hi,rfl⟩:=cT.mp hp;have:=(wC λt ht x hx=>(ha t ht x hx).1).mp hi;have h3:=vS (a:=a) (λt ht x hx=>(ha t ht x hx).1) i (sO.mpr ⟨jb,this⟩);grind
def Q8{cs:List C5}(hc:∀i,i<cs.length->P (ix cs i).a.q)(r:Nat):∀k,k<=cs.length->∀p∈Cj cs r k,(0<=p.1/\p.1<cs.length)/\P p.2
 |0,_,p,hp=>by cases hp
 |k+1,hk,p,hp=>by
  unfold Cj at hp;rcases bY.mp hp with hp|hp
  .exact Q8 hc r k jb p hp
  grind
end
end Go.Proofs.Ins
