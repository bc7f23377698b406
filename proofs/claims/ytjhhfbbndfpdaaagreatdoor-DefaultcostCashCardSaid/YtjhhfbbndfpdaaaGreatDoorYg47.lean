import Derived.Test.YtjhhfbbndfpdaaaGreatDoorYg46
set_option linter.all false
set_option maxRecDepth 100000
set_option maxHeartbeats 8000000
attribute [-go_sem] Go.Proofs.Xe.ayo Go.Proofs.Xe.ayp Go.Proofs.Xe.ayq
namespace Go.Proofs.Xe
open Go.RowKit Go.Proofs.Ins
def L6(i k:Nat):Bool:=if k<i then true else false
def aaW{n i:Nat}:ones n (aJ (λk=>B.bool (L6 i k)) i (.bool true))=ones n λk=>.bool (L6 (i+1) k):=dF λk _=>by grind[aJ,L6]
def afs(a b:Rat):decide (Int.ofNat 0<mW a b)=decide (b<a):=by grind[mW,nT]
def aqP{J:St}(hW:WF J){sb:Nat}{g:fH}(hs:Gn (Lt J.aj) J.h sb g)(h:jX g)(gr:Bool):
  aC EN 52 [.c (.ptr sb 0),.c (.bool gr)] J λr J'=>∃x,aam J J' r g.e.length x/\vG g x 1/\Fb h.NJ (jG g) (!gr) x 1/\(gr=true->Sr (n:=g.e.length) (g:=bI g) (jG g) x/\∀S:Nat->Prop,(∃i,i<g.e.length/\S i)->¬Ins.Shut g.e.length (gM g.e.length (bI g) x) S)/\(gr=false->Ins.AQ (n:=g.e.length) (g:=bI g) (jG g) x)/\Fr J J':=by
 refine aN (l9.o _ _) l9.h ?_
 unfold l9
 dsimp only
 have hn8:=h.n
 have hs0:=hs
 obtain⟨⟨ev,gv,lv,bv,hsb,hg,⟨R,P,hL1,hL2⟩,hB⟩,hsl⟩:=hs
 have hsl:sb<J.aj:=hsl
 have hlk:=hL1.kn
 have hll:=hL1.len
 have hFr:=Fr.refl hW
 have z1:=sz1
 simp(disch:=try exact jz)only[go_sem,au hsb,hll,hlk]
 refine aF (λq tm J'=>∃x t xb,q=meas g x t/\r8 tm 0=.c (.ptr sb 0)/\r8 tm 1=.c (.bool gr)/\r8 tm 5=jN g.e.length/\r8 tm 6=.c (.sl xb 0 g.e.length (.ex g.e.length))/\r8 tm 7=.c (.ptr (J.aj+1) 0)/\r8 tm 8=.c (.ptr (J.aj+1+1) 0)
   /\J'.h xb=some ⟨cO g.e.length x,none⟩/\J.aj<=xb/\J'.h (J.aj+1)=some ⟨(rK t),none⟩/\J'.h (J.aj+1+1)=some ⟨(rK 1),none⟩/\Fb h.NJ (jG g) (!gr) x t/\vG g x t/\Fr J J'/\J.aj+1+1+1<=J'.aj) (meas g (λ_=>0) 0) ?_ ?_
 .refine⟨λ_=>0,0,J.aj,rfl,?_⟩
  refine WN ?_
  exact⟨jp,inv_start h.NJ (jG g) (!gr),VA h,fr,jp⟩
 .rintro q tm J' ⟨x,t,xb,rfl,t0,t1,t5,t6,t7,t8,q6,hxb,q7,q8,hI,hP,hf,hnx⟩
  have lT:=Fr.refl hf.wf
  obtain⟨D,hMg⟩:=hP.mg h
  refine WP ?_
  refine(avH hf.wf (hs0.fr hf) q6 hMg).mono ?_
  rintro _ σ1 ⟨⟨Dv,Sv,rfl,SX,hSv⟩,hf1⟩
  have hF1:=hf.trans hf1
  have WR:=Fr.refl hf1.wf
  have k1:=SX.kn
  have k2:=hSv.kn
  simp(disch:=try exact jz)only[go_sem,W3,k1,k2]
  refine aC.st (Fr σ1) (fr) λhF=>?_
  have hF2:=hF1.trans hF
  refine(ahy hF.wf (hs0.fr hF2) (SX.fr hf1.wf hF) (hSv.fr hf1.wf hF) hMg).mono ?_
  rintro _ σ2 ⟨⟨mb,bs,hi,rfl,hm1,hm2,awe⟩,hf2⟩
  have hF3:=hF2.trans hf2
  have Nq:=Fr.refl hf2.wf
  refine WP ?_
  refine bM.mono (Q:=λex tm σ3=>ex=.exit 2/\r8 tm 0=.c (.ptr sb 0)/\r8 tm 1=.c (.bool gr)/\r8 tm 5=jN g.e.length/\r8 tm 6=.c (.sl xb 0 g.e.length (.ex g.e.length))/\r8 tm 7=.c (.ptr (J.aj+1) 0)/\r8 tm 8=.c (.ptr (J.aj+1+1) 0)/\r8 tm 9=.c (.ptr σ1.aj 0)/\r8 tm 10=.c (.sl mb 0 g.e.length (.ex g.e.length))/\r8 tm 11=.c (.sl σ2.aj 0 g.e.length (.ex g.e.length))
    /\σ3.h σ2.aj=some ⟨ones g.e.length λk=>.bool (L6 g.e.length k),none⟩/\Fr σ2 σ3/\σ2.aj+1<=σ3.aj)
   (aF (λq tm σ3=>∃i,q=g.e.length-i/\i<=g.e.length/\r8 tm 0=.c (.ptr sb 0)/\r8 tm 1=.c (.bool gr)/\r8 tm 5=jN g.e.length/\r8 tm 6=.c (.sl xb 0 g.e.length (.ex g.e.length))/\r8 tm 7=.c (.ptr (J.aj+1) 0)/\r8 tm 8=.c (.ptr (J.aj+1+1) 0)/\r8 tm 9=.c (.ptr σ1.aj 0)/\r8 tm 10=.c (.sl mb 0 g.e.length (.ex g.e.length))/\r8 tm 11=.c (.sl σ2.aj 0 g.e.length (.ex g.e.length))/\r8 tm 36=jN g.e.length/\r8 tm 37=jN i
    /\σ3.h σ2.aj=some ⟨ones g.e.length λk=>.bool (L6 i k),none⟩/\Fr σ2 σ3/\σ2.aj+1<=σ3.aj) g.e.length ?_ ?_) ?_
  .refine⟨0,jb,jb,?_⟩
   refine W0 ?_
   exact⟨bp (λl=>some (Bk.mk l none)) (dF λk _=>by unfold L6;rw[ae jb]),fr,jp⟩
  .rintro q tm3 σ3 ⟨i,rfl,hi1,t0,t1,t5,t6,t7,t8,t9,t10,t11,t36,t37,q11,hf3,hn3⟩
   have acj:=Fr.refl hf3.wf
   have aDM:=hf3.wf.lt q11
   refine W2 ?_
   refine aH (λhlt=>?_) (λhlt=>?_)
   .have hst:=aaW (n:=g.e.length) (i:=i)
    simp(disch:=try exact jz)only[go_sem,W3,q11,aG q11,hst]
    exact⟨g.e.length-(i+1),jb,i+1,rfl,jb,rfl,rfl,fr,jb⟩
   .have:i=g.e.length:=jb
    subst this
    simp(disch:=try exact jz)only[go_sem,am]
    exact⟨t0,t1,t5,t6,t7,t8,t9,t10,t11,q11,hf3,hn3⟩
  .rintro _ tm3 σ3 ⟨rfl,t0,t1,t5,t6,t7,t8,t9,t10,t11,q11,hf3,hn3⟩
   have gB:=hF3.trans hf3
   have hle3:=hf3.le
   have hle':=hf.le
   have aaX:=hF.trans (hf2.trans hf3)
   have q63:=(hf1.trans aaX).get hf.wf q6
   have q73:=(hf1.trans aaX).get hf.wf q7
   have q83:=(hf1.trans aaX).get hf.wf q8
   have q93:σ3.h σ1.aj=some ⟨[Dv,Sv],none⟩:=(hf2.trans hf3).get hF.wf (ay _ _ _)
   have hxl:=hf.wf.lt q6
   have ayw:=hf1.trans aaX
   have aCE:=ayw.le
   have aCF:=awe.b
   have aCG:=awe.l
   have hM3:dQ (Lt σ3.aj) σ3.h (.sl mb 0 g.e.length (.ex g.e.length)) g.e.length (λ_=>g.e.length) (gM g.e.length (bI g) x):=((awe.hr (p:=Lt σ2.aj) λb hb=>by show b<σ2.aj;omega).fr hf2.wf hf3).keep (λ_ _=>rfl) λb hb=>aE hb hle3
   obtain⟨m1,m2,m3⟩:=h.mz hI.nn
   have hsub:=h.sub hI.nn
   have m0:∀j i,j<g.e.length->i<g.e.length->0<=gM g.e.length (bI g) x j i:=λj i hj hi=>hsub.nn j i hj hi
   have hcn:∀j,j<g.e.length->0<=jG g j:=λj hj=>(h.m j hj).2.2.1
   obtain⟨zx,zt,zt1⟩:=hP.sz hI.t0 hI.t1
   by_cases hret:gr=false/\t=1
   .obtain⟨rfl,rfl⟩:=hret
    simp(disch:=try exact jz)only[go_sem,W3,au q73,au q83,gd]
    exact⟨x,⟨xb,rfl,q63,hxb,jb⟩,hP,hI,(λe=>by cases e),λ_=>avQ h.NJ (jG g) hI,gB⟩
   .have acj:=Fr.refl hf3.wf
    refine(show bM EN (.seq _ _) _ _ _ from xZ (λtm σ4=>∃(ov:B) (of:Nat->Bool),r8 tm 0=.c (.ptr sb 0)/\r8 tm 1=.c (.bool gr)/\r8 tm 5=jN g.e.length/\r8 tm 6=.c (.sl xb 0 g.e.length (.ex g.e.length))/\r8 tm 7=.c (.ptr (J.aj+1) 0)/\r8 tm 8=.c (.ptr (J.aj+1+1) 0)/\r8 tm 9=.c (.ptr σ1.aj 0)/\r8 tm 10=.c (.sl mb 0 g.e.length (.ex g.e.length))/\r8 tm 11=.c ov
     /\HL σ4.h 1 ov g.e.length (λi=>[.bool (of i)])/\(∀i j,i<g.e.length->j<g.e.length->of i=true->gM g.e.length (bI g) x j i≠0->of j=true)/\(∀i,i<g.e.length->0<jG g i->of i=true)/\(gr=true->∀i,i<g.e.length->of i=true)/\(gr=false->t≠1/\∀i,i<g.e.length->of i=true->XI g.e.length (gM g.e.length (bI g) x) (λk=>avS g k=true) i)/\Fr σ3 σ4) ?_ ?_)
    .cases gr with
     |true=>
      refine WP ?_
      have htr:∀i,i<g.e.length->L6 g.e.length i=true:=λi hi=>by unfold L6;rw[ab hi]
      exact⟨_,L6 g.e.length,rfl,ac6 q11 rfl,λ_ j _ hj _ _=>htr j hj,λi hi _=>htr i hi,λ_=>htr,(λe=>by cases e),Fr.refl hf3.wf⟩
     |false=>
      have ht1:decide (t=1)=false:=af λe=>hret ⟨rfl,e⟩
      simp(disch:=try exact jz)only[go_sem,W3,au q73,au q83,ht1]
      refine(ami hf3.wf (hs0.fr gB) jb λi hi=>(h.m i hi).1).mono ?_
      rintro _ σ4 ⟨⟨b4,rfl,hb4,-,-⟩,hf4⟩
      refine WP ?_
      refine(afd hf4.wf (hM3.fr hf3.wf hf4) jb m1 m0 hb4).mono ?_
      rintro _ σ5 ⟨⟨b5,c5,o5,of,rfl,hb5,aCg,aph,hof⟩,hf5⟩
      refine WP ?_
      exact⟨_,of,rfl,ac6 hb5 aCg,λi j hi hj h1 h2=>(hof j hj).mpr (.step ((hof i hi).mp h1) hj h2),λi hi hc=>(hof i hi).mpr (.base (aq hc) hi),(λe=>by cases e),λ_=>⟨λe=>hret ⟨rfl,e⟩,λi hi h1=>(hof i hi).mp h1⟩,hf4.trans hf5⟩
    .rintro tm4 σ4 ⟨ov,of,t0,t1,t5,t6,t7,t8,t9,t10,t11,hov,awf,aCh,aAn,awg,hf4⟩
     refine WP ?_
     refine(amd hf4.wf (hM3.fr hf3.wf hf4) jb m3 m1 m0 hov).mono ?_
     rintro _ σ5 ⟨⟨cv,rfl,hB⟩,hf5⟩
     have dY:=hf4.trans hf5
     have Zv:=gB.trans dY
     have q65:=dY.get hf3.wf q63
     have q75:=dY.get hf3.wf q73
     have q85:=dY.get hf3.wf q83
     have q95:=dY.get hf3.wf q93
     have wu:=dY.le
     have JQ:=Fr.refl hf5.wf
     have hD5:dQ (λ_=>True) σ5.h Dv g.e.length (kE g.e) (LH g x):=(SX.fr hf1.wf (aaX.trans dY)).keep (λ_ _=>rfl) λ_ _=>trivial
     have hS5:dQ (λ_=>True) σ5.h Sv g.e.length (kE g.e) (ND g x):=(hSv.fr hf1.wf (aaX.trans dY)).keep (λ_ _=>rfl) λ_ _=>trivial
     rcases hB with⟨rfl,hnone⟩|⟨i0,hi0,aAo,aqr,hmin,⟨cb,rfl⟩,hH⟩
     .have aqQ:∀S:Nat->Prop,(∃i,i<g.e.length/\S i)->(∀i,i<g.e.length->S i->of i=true)->¬Ins.Shut g.e.length (gM g.e.length (bI g) x) S:=al7 (of:=λi=>of i=true) (R:=λk=>uz g.e.length (gM g.e.length (bI g) x) λi=>i=k) (λk _ _=>OG _ _ λi=>i=k) hnone
      by_cases ht1:t=1
      .subst ht1
       cases gr with
       |false=>exact absurd rfl (awg rfl).1
       |true=>
        simp(disch:=try exact jz)only[go_sem,W3,au q75,au q85,gd]
        exact⟨x,⟨xb,rfl,q65,hxb,jb⟩,hP,hI,(λ_=>⟨avP h.NJ (jG g) hI λS hS=>aqQ S hS λi hi _=>aAn rfl i hi,λS hS=>aqQ S hS λi hi _=>aAn rfl i hi⟩),(λe=>by cases e),Zv⟩
      .have htd:decide (t=1)=false:=af ht1
       simp(disch:=try exact jz)only[go_sem,W3,au q75,au q85,htd]
       refine(amc hf5.wf (hov.fr hf4.wf hf5) jb).mono ?_
       rintro _ σ6 ⟨⟨lb,rfl,hN6⟩,iD⟩
       have iR:=Zv.trans iD
       have hlF:aaF σ6.h (aW (iy of g.e.length).length lb) (iy of g.e.length):=aZ.hl (hN6.hlp jj (λ_ _=>rfl) (p:=λ_=>True) λ_ _ _=>trivial)
       have hmem:∀i,i∈iy of g.e.length↔i<g.e.length/\of i=true:=λi=>BH _ _ _
       have hM6:=(hM3.fr hf3.wf (dY.trans iD))
       refine WP ?_
       refine(awd iD.wf (hs0.fr iR) h hI.nn hM6 hlF (Ib _ _) (λi hi=>((hmem i).mp hi).1) ?_ (λS hS hi=>aqQ S hS λi hi2 hSi=>((hmem i).mp (hi i hi2 hSi)).2) ?_).mono ?_
       .intro i hi j hj hjl
        by_cases e:gM g.e.length (bI g) x j i=0
        .exact e
        .exact absurd ((hmem j).mpr ⟨hj,awf i j ((hmem i).mp hi).1 hj ((hmem i).mp hi).2 e⟩) hjl
       .intro j hj hjl
        by_cases e:0<jG g j
        .exact absurd ((hmem j).mpr ⟨hj,aCh j hj e⟩) hjl
        .have:=hcn j hj;grind
       rintro _ σ7 ⟨v,⟨vb,rfl,hv1,hv2,hv3⟩,hvn,hvm,hvz,hvZ,wz⟩
       have XV:=iD.trans wz
       have nS:=Zv.trans XV
       have q67:=XV.get hf5.wf q65
       have q77:=XV.get hf5.wf q75
       have q87:=XV.get hf5.wf q85
       have q97:=XV.get hf5.wf q95
       have ap4:=XV.le
       obtain⟨D2,hNr⟩:=hP.nr h hvn hvZ (ia G6)
       have hxr:kX (λ_=>True) σ7.h (.sl xb 0 g.e.length (.ex g.e.length)) g.e.length x:=bD (G:=λc=>dP (x c)) _ q67 rfl trivial (λ_=>rfl) jj λ_ _=>rfl
       have hvr:kX (λ_=>True) σ7.h (.sl vb 0 g.e.length (.ex g.e.length)) g.e.length v:=bD (G:=λc=>dP (v c)) _ hv1 rfl trivial (λ_=>rfl) jj λ_ _=>rfl
       have k1:=hD5.kn
       have k2:=hS5.kn
       simp(disch:=try exact jz)only[go_sem,W3,au q97,k1,k2]
       refine(Vt wz.wf (hs0.fr nS) hxr hvr ((SX.fr hf1.wf (aaX.trans (dY.trans XV))).keep (λ_ _=>rfl) λ_ _=>trivial) ((hSv.fr hf1.wf (aaX.trans (dY.trans XV))).keep (λ_ _=>rfl) λ_ _=>trivial) hNr).mono ?_
       rintro _ σ8 ⟨rfl,uf⟩
       have hD3:∀i,i<g.e.length->H9 ((bI g).e i) ((bI g).k i) (x i) (oh g x i):=λi hi=>(amC h hi (hI.nn i hi)).2
       have htl:t<1:=by have:=hI.t1;grind
       have key:∀w,0<=w->w<=1-t->(∀c∈kY g.e.length (bI g) (oh g x) x v,w<=c)->(w∈kY g.e.length (bI g) (oh g x) x v\/w=1-t)->Fb h.NJ (jG g) (!gr) (bF x v w) (t+w)/\vG g (bF x v w) (t+w)/\meas g (bF x v w) (t+w)<meas g x t:=λw w0 w1 wc hw=>by
        obtain⟨a1,a2,a3⟩:=al9 h.NJ (jG g) hcn hI hD3 hvn hvm (λS hS hi=>aqQ S hS λi hi2 hSi=>by
         by_cases e:i∈iy of g.e.length
         .exact((hmem i).mp e).2
         .have h1:=hi i hi2 hSi;rw[hvz i e]at h1;exact absurd h1 jj) htl w0 w1 wc
        by_cases hwc:w∈kY g.e.length (bI g) (oh g x) x v
        .have hm:=a3 hwc;have hms:meas g (bF x v w) (t+w)<meas g x t:=by unfold meas;rw[ae ht1];split<;>omega
         exact⟨a1,(hP.alZ h hvn hvZ (ia G6) hwc (.inr rfl) a1 hms).1,hms⟩
        .have e:=hw.resolve_left hwc;subst e;have e1:t+(1-t)=1:=by grind
         rw[e1]at a1⊢;have hms:meas g (bF x v (1-t)) 1<meas g x t:=by unfold meas;rw[ae ht1,ab rfl];omega
         exact⟨a1,hP.last h hvZ (ia G6) ht1 a1 a2,hms⟩
       have zw:∀w,(w∈kY g.e.length (bI g) (oh g x) x v\/w=1-t)->Sz w/\∀i,i<g.e.length->Sz (v i)/\Sz (w*v i):=λw hw=>hP.aAh h hvn hvZ (ia G6) hI.t0 hI.t1 hw
       have ahZ:=XV.trans uf
       have xQ:=Zv.trans ahZ
       have q78:=ahZ.get hf5.wf q75
       have q88:=ahZ.get hf5.wf q85
       have alO:=uf.le
       have aCH:=xQ.le
       have aBS:=Fr.refl uf.wf
       rcases XJ (kY g.e.length (bI g) (oh g x) x v)with⟨e,en⟩|⟨u,en,hum,hul⟩
       .rw[en]
        have i0:(none:Option Rat).isSome=false:=rfl
        simp(disch:=try exact jz)only[go_sem,W3,au q78,au q88,i0]
        refine aC.st (Fr σ8) (fr) λxE=>?_
        obtain⟨kI,kP,km⟩:=key (1-t) kd aR (by rw[e];intro c hc;cases hc) (.inr rfl)
        obtain⟨z2,z3⟩:=zw (1-t) (.inr rfl)
        have hx9:=(ahZ.trans xE).get hf5.wf q65
        have hv9:=(uf.trans xE).get wz.wf hv1
        have hxr:kX (λ_=>True) _ (.sl xb 0 g.e.length (.ex g.e.length)) g.e.length x:=bD (G:=λc=>dP (x c)) _ hx9 rfl trivial (λ_=>rfl) jj λ_ _=>rfl
        have hvr:kX (λ_=>True) _ (.sl vb 0 g.e.length (.ex g.e.length)) g.e.length v:=bD (G:=λc=>dP (v c)) _ hv9 rfl trivial (λ_=>rfl) jj λ_ _=>rfl
        refine(OE xE.wf hxr hvr jb z2 zx (λi hi=>(z3 i hi).1) (λi hi=>(z3 i hi).2) (kP.sz kI.t0 kI.t1).1).mono ?_
        rintro _ σA ⟨⟨rb,rfl,hr1,hr2,hr3⟩,hfA⟩
        have q7A:=(xE.trans hfA).get uf.wf q78
        have q8A:=(xE.trans hfA).get uf.wf q88
        have amN:σA.h σ8.aj=some ⟨(rK (1-t)),none⟩:=hfA.get xE.wf (ay _ _ _)
        have hFA:=xQ.trans (xE.trans hfA)
        have aAp:=hfA.le
        have hr2:σ8.aj+1+1<=rb:=hr2
        have awh:=Fr.refl hfA.wf
        simp(disch:=try exact jz)only[go_sem,W3,au q7A,au amN,aG q7A]
        exact⟨meas g (bF x v (1-t)) (t+(1-t)),km,bF x v (1-t),t+(1-t),rb,rfl,rfl,(ak _ _ _ _ jb).trans hr1,jb,rfl,q8A,kI,kP,fr,jb⟩
       .rw[en]
        have i0:(some u).isSome=true:=rfl
        have i1:gq0 (some u)=u:=rfl
        have zu:=(zw u (.inl hum)).1
        by_cases hlt:1-t<u
        .have hd:=aq hlt
         simp(disch:=try exact jz)only[go_sem,W3,au q78,au q88,i0,i1,afs,hd]
         refine aC.st (Fr σ8) (fr) λxE=>?_
         obtain⟨kI,kP,km⟩:=key (1-t) kd aR (λc hc=>by have:=hul c hc;grind) (.inr rfl)
         obtain⟨z2,z3⟩:=zw (1-t) (.inr rfl)
         have hx9:=(ahZ.trans xE).get hf5.wf q65
         have hv9:=(uf.trans xE).get wz.wf hv1
         have hxr:kX (λ_=>True) _ (.sl xb 0 g.e.length (.ex g.e.length)) g.e.length x:=bD (G:=λc=>dP (x c)) _ hx9 rfl trivial (λ_=>rfl) jj λ_ _=>rfl
         have hvr:kX (λ_=>True) _ (.sl vb 0 g.e.length (.ex g.e.length)) g.e.length v:=bD (G:=λc=>dP (v c)) _ hv9 rfl trivial (λ_=>rfl) jj λ_ _=>rfl
         refine(OE xE.wf hxr hvr jb z2 zx (λi hi=>(z3 i hi).1) (λi hi=>(z3 i hi).2) (kP.sz kI.t0 kI.t1).1).mono ?_
         rintro _ σA ⟨⟨rb,rfl,hr1,hr2,hr3⟩,hfA⟩
         have q7A:=(xE.trans hfA).get uf.wf q78
         have q8A:=(xE.trans hfA).get uf.wf q88
         have amN:σA.h σ8.aj=some ⟨(rK (1-t)),none⟩:=hfA.get xE.wf (ay _ _ _)
         have hFA:=xQ.trans (xE.trans hfA)
         have aAp:=hfA.le
         have hr2:σ8.aj+1+1<=rb:=hr2
         have awh:=Fr.refl hfA.wf
         simp(disch:=try exact jz)only[go_sem,W3,au q7A,au amN,aG q7A]
         exact⟨meas g (bF x v (1-t)) (t+(1-t)),km,bF x v (1-t),t+(1-t),rb,rfl,rfl,(ak _ _ _ _ jb).trans hr1,jb,rfl,q8A,kI,kP,fr,jb⟩
        .have hd:=af hlt
         simp(disch:=try exact jz)only[go_sem,W3,au q78,au q88,i0,i1,afs,hd]
         refine aC.st (Fr σ8) (fr) λxE=>?_
         obtain⟨kI,kP,km⟩:=key u (ec (F7 hD3 u hum)) kd hul (.inl hum)
         obtain⟨z2,z3⟩:=zw u (.inl hum)
         have hx9:=(ahZ.trans xE).get hf5.wf q65
         have hv9:=(uf.trans xE).get wz.wf hv1
         have hxr:kX (λ_=>True) _ (.sl xb 0 g.e.length (.ex g.e.length)) g.e.length x:=bD (G:=λc=>dP (x c)) _ hx9 rfl trivial (λ_=>rfl) jj λ_ _=>rfl
         have hvr:kX (λ_=>True) _ (.sl vb 0 g.e.length (.ex g.e.length)) g.e.length v:=bD (G:=λc=>dP (v c)) _ hv9 rfl trivial (λ_=>rfl) jj λ_ _=>rfl
         refine(OE xE.wf hxr hvr jb z2 zx (λi hi=>(z3 i hi).1) (λi hi=>(z3 i hi).2) (kP.sz kI.t0 kI.t1).1).mono ?_
         rintro _ σA ⟨⟨rb,rfl,hr1,hr2,hr3⟩,hfA⟩
         have q7A:=(xE.trans hfA).get uf.wf q78
         have q8A:=(xE.trans hfA).get uf.wf q88
         have amN:σA.h σ8.aj=some ⟨(rK u),none⟩:=hfA.get xE.wf ((ak _ _ _ _ jb).trans ((ak _ _ _ _ jb).trans (ay _ _ _)))
         have hFA:=xQ.trans (xE.trans hfA)
         have aAp:=hfA.le
         have hr2:σ8.aj+1+1<=rb:=hr2
         have awh:=Fr.refl hfA.wf
         simp(disch:=try exact jz)only[go_sem,W3,au q7A,au amN,aG q7A]
         exact⟨meas g (bF x v u) (t+u),km,bF x v u,t+u,rb,rfl,rfl,(ak _ _ _ _ jb).trans hr1,jb,rfl,q8A,kI,kP,fr,jb⟩
     .have hcls:=al6 hsub (of:=λi=>of i=true) (λi j hi hj h1 h2=>awf i j hi hj h1 h2) (R:=λk=>uz g.e.length (gM g.e.length (bI g) x) λi=>i=k) (λk _ _=>OG _ _ λi=>i=k) hi0 aAo aqr λk hk h1 h2=>hmin k hk h1 h2
      have k1:=hD5.kn
      have k2:=hS5.kn
      simp(disch:=try exact jz)only[go_sem,W3,au q95,k1,k2]
      refine(av9 hf5.wf (hs0.fr Zv) h q65 hP hD5 hS5 (hM3.fr hf3.wf dY) (aZ.hl hH) hcls hI (λhl E hE hE0 hEb=>?_) (λhl=>?_)).mono ?_
      .obtain⟨i,hi,hEi,hil⟩:=hE
       have hgr:gr=false:=by cases gr with|false=>rfl|true=>cases hl
       have hof:of i=true:=by
        have h1:=((OG g.e.length (gM g.e.length (bI g) x) λk=>k=i0).mem i).mp hil;clear hEi hil hi;induction h1 with
        |base e hi=>subst e;exact aAo
        |step h1 hj hm ih=>exact awf _ _ h1.lt hj ih hm
       have hr:=(awg hgr).2 i hi hof
       clear hof hil hi
       induction hr with
       |base e hi=>have:=cK e;have e2:=hE0 _ hi hEi;unfold jG at e2;grind
       |step h1 hj hm ih=>exact ih (hEb _ _ hj h1.lt hEi hm)
      .have hgr:gr=false:=by cases gr with|false=>rfl|true=>cases hl
       have h1:=(awg hgr).1
       have h2:=hI.t1
       grind
      rintro _ σ6 ⟨y,⟨yb,rfl,hy1,hy2,hy3⟩,hI',hP',hms,iD⟩
      have iR:=Zv.trans iD
      have zC:=iD.le
      have q76:=iD.get hf5.wf q75
      have q86:=iD.get hf5.wf q85
      refine WP ?_
      exact⟨meas g y t,hms,y,t,yb,rfl,rfl,hy1,jb,q76,q86,hI',hP',iR,jb⟩
def aAq(p:Nat->Prop)(h:Tr Bk)(r:V)(g:fH)(x:Nat->Rat):Prop:=∃rr,r=.aV rr (.aV (jN 0) .tnil)/\Xx p h rr g x
def Xx.keep{p q:Nat->Prop}{h h':Tr Bk}{r:V}{g:fH}{x:Nat->Rat}(hs:Xx p h r g x)(hk:∀b,p b->h' b=h b)(hq:∀b,p b->q b):Xx q h' r g x:=by obtain⟨cm,G,Dv,Rf,Nt,Su,Re,Fu,rfl,h1,h2,h3,h4,h5,h6,h7,h8⟩:=hs;exact⟨cm,G,Dv,Rf,Nt,Su,Re,Fu,rfl,aZ.keep h1 hk hq,h2.keep hk hq,h3.keep hk hq,h4.keep hk hq,h5.keep hk hq,aZ.keep h6 hk hq,aZ.keep h7 hk hq,aZ.keep h8 hk hq⟩
def Xx.kn8{p:Nat->Prop}{h:Tr Bk}{r:V}{g:fH}{x:Nat->Rat}(hs:Xx p h r g x):∃cm G Dv Rf Nt Su Re Fu,r=.agg [cm,G,Dv,Rf,Nt,Su,Re,Fu]/\cm.kn=true/\G.kn=true/\Dv.kn=true/\Rf.kn=true/\Nt.kn=true/\Su.kn=true/\Re.kn=true/\Fu.kn=true:=by obtain⟨cm,G,Dv,Rf,Nt,Su,Re,Fu,rfl,h1,h2,h3,h4,h5,h6,h7,h8⟩:=hs;exact⟨cm,G,Dv,Rf,Nt,Su,Re,Fu,rfl,aZ.kn h1,h2.kn,h3.kn,h4.kn,h5.kn,aZ.kn h6,aZ.kn h7,aZ.kn h8⟩
def aqR{J:St}(hW:WF J){p:Nat->Prop}{ev dv:B}{g:fH}(hg:rW p J.h ev dv g)(h:jX g):
  aC EN 27 [.agg [ev,dv]] J λr J'=>∃x,aAq (λb=>J.aj<=b/\b<J'.aj) J'.h r g x/\vG g x 1/\Fb h.NJ (jG g) false x 1/\Sr (n:=g.e.length) (g:=bI g) (jG g) x/\(∀S:Nat->Prop,(∃i,i<g.e.length/\S i)->¬Ins.Shut g.e.length (gM g.e.length (bI g) x) S)/\Fr J J':=by
 refine aN (uT.o _ _) uT.h ?_
 unfold uT
 dsimp only
 obtain⟨_,hM0⟩:=(VA h).map h
 have hek:=hg.e.kn
 have hdk:=hg.d.kn
 have hFr:=Fr.refl hW
 simp(disch:=try exact jz)only[go_sem,hek,hdk]
 refine aC.st (Fr J) (fr) λhF=>?_
 refine(ae6 hF.wf (hg.fr hW hF) h.z h.bld (λi hi=>(h.m i hi).1) λd hd=>(h.d d hd).2.1).mono ?_
 rintro _ σ2 ⟨rfl,hf2⟩
 have hF2:=hF.trans hf2
 have q0:=hf2.get hF.wf (ay _ _ _)
 have q00:=hf2.get hF.wf ((ak _ _ _ _ jb).trans (ay _ _ _))
 have hd0:decide ((0:Int)=Int.ofNat 0)=true:=rfl
 have hle2:J.aj+1+1<=σ2.aj:=hf2.le
 simp(disch:=try exact jz)only[go_sem,hek,hdk,hd0,au q00,q00]
 refine(ap2 hf2.wf g (hg.fr hW hF2) hM0.a h.bld).mono ?_
 rintro _ σ3 ⟨⟨sb,rfl,hS⟩,hf3⟩
 have hf3:=hf2.trans hf3
 have hF3:=hF.trans hf3
 refine WX ?_
 refine(aqP hf3.wf hS h true).mono ?_
 rintro _ σ4 ⟨x,⟨xb,rfl,hx1,hx2,hx3⟩,hP,hI,hgt,hls,hf4⟩
 have gB:=hF3.trans hf4
 obtain⟨D,hMg⟩:=hP.mg h
 refine WX ?_
 refine(alq hf4.wf (hS.fr hf4) hx1 hMg.A.s).mono ?_
 rintro _ σ5 ⟨hV,hf5⟩
 have dY:=gB.trans hf5
 have hle3:J.aj+1+1<=σ3.aj:=hf3.le
 have pK:=hf4.le
 have wu:=hf5.le
 have JQ:=Fr.refl hf5.wf
 have q1:=(hf3.trans (hf4.trans hf5)).get hF.wf (ay _ _ _)
 obtain⟨cm,G,Dv,Rf,Nt,Su,Re,Fu,er,k1,k2,k3,k4,k5,k6,k7,k8⟩:=hV.kn8
 subst er
 simp(disch:=try exact jz)only[go_sem,au q1,aG q1,k1,k2,k3,k4,k5,k6,k7,k8]
 exact⟨x,⟨_,rfl,hV.keep (λb hb=>ak _ _ _ _ jb) λb hb=>⟨jb,hb.2⟩⟩,hP,hI,(hgt rfl).1,(hgt rfl).2,fr⟩
def aft{J:St}(hW:WF J){p:Nat->Prop}{ev dv:B}{g:fH}(hg:rW p J.h ev dv g)(h:jX g):
  aC EN 27 [.agg [ev,dv]] J λr J'=>∃x,aAq (λb=>J.aj<=b/\b<J'.aj) J'.h r g x/\vG g x 1/\Fb h.NJ (jG g) false x 1/\Sr (n:=g.e.length) (g:=bI g) (jG g) x/\Fr J J':=
 (aqR hW hg h).mono λ_ _ ⟨x,a,b,c,d,_,e⟩=>⟨x,a,b,c,d,e⟩
section
variable {n:Nat} {m:Nat→Rat} {cl:Nat→List C5} {al:Nat→List fD} {dl:List pX}
def jB.c60{A:Nat}{q:Rat}(h:jB A 30 q):jB A 100 q:=⟨h.1,h.2.1,cF h.2.2 jj⟩
def BG.AU(h:BG n m cl al dl):jX (iW n m cl al dl):=by
 have hn:=iP n m cl al dl;have hz:=Q9 h.zero;have hix:∀i,i<(iW n m cl al dl).e.length->ix (iW n m cl al dl).e i=⟨mV (m i),cl i,al i⟩:=λi hi=>wG m cl al dl jb;refine⟨by have:=h.n4;omega,h.bld,h.small,h.zero,λi hi=>?_,λi hi=>?_,λi hi=>?_,λi hi=>?_,λi hi k=>?_,λi hi c hc=>?_,λi hi=>?_,by show dl.length<=3;exact h.d.1,λd hd=>?_⟩
 .rw[h.kE jb];exact(h.c i jb).1
 .rw[h.kE jb,hix i hi];have e:=h.ed (i:=i) jb;exact⟨λt ht p hp=>⟨(e.rk t ht p hp).1,jB.c60 (e.rk t ht p hp).2⟩,λq hq t ht p hp=>⟨(e.ps q hq t ht p hp).1,jB.c60 (e.ps q hq t ht p hp).2⟩⟩
 .rw[h.kE jb,hix i hi];exact(h.eb jb).1
 .rw[hix i hi];obtain⟨-,e1,e2,e3⟩:=h.eb (i:=i) jb;refine⟨e1,by show(Tc (cl i) (cl i).length).length<=8;grind[Tc],e2,λp hp=>⟨e3 p hp,?_⟩⟩;obtain⟨a,ha,rfl⟩:=cT.mp hp;obtain⟨j,hj,rfl⟩:=aD ha;rw[<-dV hj];obtain⟨h3,hT⟩:=h.tl (show i<n by omega) hj;obtain⟨l1,-⟩:=ae7 (cs:=cl i) hT;grind[qB]
 .rw[hix i hi];exact jB.c60 (h.cap jb k)
 .rw[h.kE jb]at hc;rw[hix i hi];rcases((h.c i jb).2 c hc).1 with h1|⟨j,hj,-,h1⟩
  .grind
  grind
 .rw[hix i hi];obtain⟨v,e⟩:=h.mm i jb;show(mV (m i)).fits _/\jB 60 100 (mV (m i)).q;grind[nU,vC,nR]
 .obtain⟨hl,v,e⟩:=h.d.2 d hd;show(ix dl d).l.length<=4/\(ix dl d).w.fits _/\jB 60 100 (ix dl d).w.q;grind[nU,vC,nR]
end
section
variable {n:Nat} {m m' : Nat→Rat} {cl:Nat→List C5} {al:Nat→List fD} {dl:List pX}
def adl(i:Nat):(ix (iW n m' cl al dl).e i).c=(ix (iW n m cl al dl).e i).c/\(ix (iW n m' cl al dl).e i).a=(ix (iW n m cl al dl).e i).a:=by
 by_cases h:i<n
 .rw[wG m cl al dl h,wG m' cl al dl h];exact⟨rfl,rfl⟩
 .have e:∀m:Nat->Rat,ix (iW n m cl al dl).e i=default:=λm=>by unfold ix;rw[cQ,List.getElem?_eq_none (by have:=iP n m cl al dl;omega)];rfl
  rw[e,e];exact⟨rfl,rfl⟩
def XY(i:Nat):bZ (ix (iW n m' cl al dl).e i)=bZ (ix (iW n m cl al dl).e i):=by obtain⟨h1,h2⟩:=adl (n:=n) (m:=m) (m':=m') (cl:=cl) (al:=al) (dl:=dl) i;unfold bZ;rw[h1,h2]
def amO:bI (iW n m' cl al dl)=bI (iW n m cl al dl):=by
 unfold bI;congr 1
 .funext i;exact XY i
 .funext i;rw[(adl (m:=m) i).1]
 .funext i c;rw[(adl (m:=m) i).1]
def jX.XW(h:jX (iW n m cl al dl))(hm:∀i,i<n->Sm 1000 (m' i)/\jB 60 100 (m' i)):jX (iW n m' cl al dl):=by
 have hn:=iP n m cl al dl;have hn':=iP n m' cl al dl;have hc:=λi=>(adl (n:=n) (m:=m) (m':=m') (cl:=cl) (al:=al) (dl:=dl) i).1;have ha:=λi=>(adl (n:=n) (m:=m) (m':=m') (cl:=cl) (al:=al) (dl:=dl) i).2;have hl:=λi=>XY (n:=n) (m:=m) (m':=m') (cl:=cl) (al:=al) (dl:=dl) i;have hk:∀i,kE (iW n m' cl al dl).e i=kE (iW n m cl al dl).e i:=λi=>by unfold kE;rw[hc]
 have hme:∀i,i<n->(ix (iW n m' cl al dl).e i).m=mV (m' i):=λi hi=>by rw[wG m' cl al dl hi]
 have hd:(iW n m' cl al dl).d=(iW n m cl al dl).d:=rfl;have hf:∀i,i<n->(mV (m' i)).fits 1000000:=λi hi=>vU ((hm i hi).1.mono jb);have hq:∀i,i<n->¬sg (ix (iW n m' cl al dl).e i).m.q<0:=λi hi=>by rw[hme i hi,nU];exact wF (hm i hi).2.2.1
 have hq0:∀i,i<n->¬sg (ix (iW n m cl al dl).e i).m.q<0:=λi hi=>wF (h.m i jb).2.2.1;have hE:∀i,i<n->Dp (ix (iW n m' cl al dl).e i)=Dp (ix (iW n m cl al dl).e i):=λi hi=>by unfold Dp;rw[ae (hq i hi),ae (hq0 i hi),hc,ha]
 refine⟨by have:=h.n;omega,⟨by have:=h.bld.n;omega,h.bld.d,λi hi=>?_,h.bld.l,λd hd k hk=>?_⟩,⟨λi hi=>?_,h.sm.w,by have:=h.sm.le;omega,h.sm.ld,h.sm.ll⟩,?_,λi hi=>?_,λi hi=>?_,λi hi=>?_,λi hi=>?_,λi hi k=>?_,λi hi c hc'=>?_,λi hi=>?_,h.d3,h.d⟩
 .have:=h.bld.e i jb;exact⟨by rw[hc];exact this.nc,by rw[ha];exact this.na,by rw[hc];exact this.r,by rw[hc];exact this.fc,by rw[hc];exact this.c,by rw[hc,ha];exact this.a⟩
 .obtain⟨e,c,h1,h2,h3⟩:=h.bld.lg d hd k hk;exact⟨e,c,h1,jb,by rw[hc];exact h3⟩
 .have:=h.sm.e i jb;refine⟨by rw[hme i jb];have:=hf i jb;exact⟨by have:=this.1;omega,by have:=this.2;omega⟩,by rw[hc];exact this.c,by rw[ha];exact this.a,by rw[hc];exact this.lc,by rw[ha];exact this.la,by rw[ha];exact this.lt,by rw[ha];exact this.lp⟩
 .rw[<-h.z];unfold Np Qj TA abZ holdL;simp only[hc,hn,hn',hd];rw[UJ hE]
 .rw[hk];exact h.k6 i jb
 .rw[hk,hl];exact h.ed i jb
 .rw[hk,hl];exact h.eb i jb
 .rw[hl];exact h.er i jb
 .rw[hc];exact h.cap i jb k
 .rw[hk]at hc';rw[hc];rcases h.hold i jb c hc' with h1|⟨j,h1,h2⟩
  .exact .inl h1
  .exact .inr ⟨j,h1,jb⟩
 .rw[hme i jb,nU];exact⟨hf i jb,(hm i jb).2⟩
end
end Go.Proofs.Xe
namespace Go.Proofs.Ins
def aqS(n:Nat)(M:Nat->Nat->Rat)(i:Nat):Prop:=aB n (λj=>M j i)<1
instance aAN(n:Nat)(M:Nat->Nat->Rat)(i:Nat):Decidable (aqS n M i):=inferInstanceAs (Decidable (_<_))
def Dh(n:Nat)(dn:Nat->Bool):Nat:=((List.range n).filter dn).length
section
variable {n:Nat} {M:Nat→Nat→Rat} {dn:Nat→Bool} {l:List Nat} {x:Nat→Int} {i:Nat}
def SL:Dh n dn<=n:=by unfold Dh;have:=List.length_filter_le dn (List.range n);rw[gP]at this;exact this
structure ExI(n:Nat)(M:Nat->Nat->Rat)(x:Nat->Int)(dn:Nat->Bool)(l:List Nat)(ds:Nat->Nat)(t:Nat):Prop where
 d:∀i,i<n->dn i=true->ds i<=t/\((aqS n M i/\x i=-1/\ds i=0)\/(¬aqS n M i/\∃j:Nat,j<n/\x i=(j:Int)/\0<M j i/\dn j=true/\ds j<ds i))
 lk:∀i,i<n->aqS n M i->dn i=true
 la:∀j,j∈l↔j<n/\dn j=true/\ds j=t
 cl:∀j,j<n->dn j=true->ds j<t->∀i,i<n->0<M j i->dn i=true
 cnt:t<=Dh n dn
 cnt1:l≠[]->t+1<=Dh n dn
end
section
variable {n:Nat} {M:Nat→Nat→Rat} {x:Nat→Int}
end
def Ik(n:Nat)(a b:Nat->Bool):Prop:=∀i,i<n->a i=true->b i=true
def BEq(n:Nat)(a b:Nat->Bool):Prop:=∀i,i<n->a i=b i
def G7(n:Nat)(T:(Nat->Bool)->Nat->Bool):Prop:=∀a b,Ik n a b->Ik n (T a) (T b)
section
variable {n:Nat} {a b c:Nat→Bool} {T:(Nat→Bool)→Nat→Bool} {r:Nat}
def Ik.trans(h:Ik n a b)(h':Ik n b c):Ik n a c:=λi hi ha=>h' i hi (h i hi ha)
def BEq.le(h:BEq n a b):Ik n a b:=λi hi ha=>by rw[<-h i hi];exact ha
def BEq.symm(h:BEq n a b):BEq n b a:=λi hi=>(h i hi).symm
def BEq.trans(h:BEq n a b)(h':BEq n b c):BEq n a c:=λi hi=>(h i hi).trans (h' i hi)
def Ik.antisymm(h:Ik n a b)(h':Ik n b a):BEq n a b:=λi hi=>by rw[gC];exact⟨h i hi,h' i hi⟩
def G7.eq(hM:G7 n T)(h:BEq n a b):BEq n (T a) (T b):=(hM a b h.le).antisymm (hM b a h.symm.le)
def SN(h:Ik n a b):Dh n a<=Dh n b:=by
 unfold Dh;have key:∀l:List Nat,(∀i∈l,i<n)->(l.filter a).length<=(l.filter b).length:=λl=>by
  induction l with
  |nil=>exact λ_=>jp
  |cons i l ih=>
   intro hl
   have h1:=ih λj hj=>hl j (by simp[hj])
   have h2:=h i (hl i kc)
   cases ha:a i<;>cases hb:b i<;>simp_all<;>omega
 exact key _ λi hi=>fu.mp hi
def aaY(h:Ik n a b)(h':¬Ik n b a):Dh n a<Dh n b:=by
 refine Nat.lt_of_not_le λhc=>h' λi hi hb=>br λha=>?_;have key:∀l:List Nat,(∀i∈l,i<n)->i∈l->(l.filter a).length<(l.filter b).length:=λl=>by
  induction l with
  |nil=>exact λ_ h=>by cases h
  |cons j l ih=>
   intro hl hil
   have hle:(l.filter a).length<=(l.filter b).length:=by
    have k2:∀l:List Nat,(∀i∈l,i<n)->(l.filter a).length<=(l.filter b).length:=λl=>by
     induction l with
     |nil=>exact λ_=>jp
     |cons i l ih=>
      intro hl
      have h1:=ih λj hj=>hl j (by simp[hj])
      have h2:=h i (hl i kc)
      cases ha:a i<;>cases hb:b i<;>simp_all<;>omega
    exact k2 l λk hk=>hl k (by simp[hk])
   have h2:=h j (hl j kc)
   by_cases e:i=j
   .subst e
    simp only[List.filter_cons,hb,gT,bL]
    rw[ae ha]
    omega
   .have h3:=ih (λk hk=>hl k (by simp[hk])) (by rcases bw.mp hil with h|h;exact absurd h e;exact h)
    cases ha:a j<;>cases hb:b j<;>simp_all<;>omega
 have:=key (List.range n) (λi hi=>fu.mp hi) (fu.mpr hi);unfold Dh at hc;omega
structure Di(n:Nat)(T:(Nat->Bool)->Nat->Bool)(a0 a:Nat->Bool)(r:Nat):Prop where
 c:Ik n a (T a)
 r:r<=Dh n a
 f:∀S,Ik n (T S) S->Ik n a0 S->Ik n a S
def Di.start{a0:Nat->Bool}(h:Ik n a0 (T a0)):Di n T a0 a0 0:=⟨h,aM _,λ_ _ h=>h⟩
def Di.next{a0:Nat->Bool}(hM:G7 n T)(h:Di n T a0 a r)(hne:¬BEq n (T a) a):Di n T a0 (T a) (r+1)/\r<n:=by have hlt:=aaY h.c λe=>hne (e.antisymm h.c);have hr:=h.r;have hn:=SL (n:=n) (dn:=T a);exact⟨⟨hM _ _ h.c,jb,λS hS h0=>(hM _ _ (h.f S hS h0)).trans hS⟩,jb⟩
structure Fall(n:Nat)(T:(Nat->Bool)->Nat->Bool)(a0 a:Nat->Bool)(r:Nat):Prop where
 c:Ik n (T a) a
 r:r+Dh n a<=n
 f:∀S,Ik n S (T S)->Ik n S a0->Ik n S a
def Fall.start{a0:Nat->Bool}(h:Ik n (T a0) a0):Fall n T a0 a0 0:=⟨h,by rw[ck];exact SL,λ_ _ h=>h⟩
def Fall.next{a0:Nat->Bool}(hM:G7 n T)(h:Fall n T a0 a r)(hne:¬BEq n (T a) a):Fall n T a0 (T a) (r+1)/\r<n:=by have hlt:=aaY h.c λe=>hne (h.c.antisymm e);have hr:=h.r;exact⟨⟨hM _ _ h.c,jb,λS hS h0=>hS.trans (hM _ _ (h.f S hS h0))⟩,jb⟩
def Di.congr{a0:Nat->Bool}(hM:G7 n T)(h:Di n T a0 a r)(e:BEq n a b):Di n T a0 b r:=
 ⟨e.symm.le.trans (h.c.trans (hM.eq e).le),ar h.r (SN e.le),λS hS h0=>e.symm.le.trans (h.f S hS h0)⟩
def Fall.congr{a0:Nat->Bool}(hM:G7 n T)(h:Fall n T a0 a r)(e:BEq n a b):Fall n T a0 b r:=
 ⟨((hM.eq e).symm.le.trans h.c).trans e.le,by have:=SN e.symm.le;have:=h.r;omega,λS hS h0=>(h.f S hS h0).trans e.le⟩
structure yc(n:Nat)(T:(Nat->Bool)->Nat->Bool)(P:(Nat->Bool)->Nat->Prop):Prop where
 step:∀a r,P a r->¬BEq n (T a) a->P (T a) (r+1)/\r<n
 ext:∀a b r,BEq n a b->P a r->P b r
 le:∀a r,P a r->r<=n
def yc.ar8{a0:Nat->Bool}(hM:G7 n T):yc n T (Di n T a0):=
 ⟨λ_ _ h hne=>h.next hM hne,λ_ _ _ e h=>h.congr hM e,λ_ _ h=>ar h.r SL⟩
def yc.fall{a0:Nat->Bool}(hM:G7 n T):yc n T (Fall n T a0):=
 ⟨λ_ _ h hne=>h.next hM hne,λ_ _ _ e h=>h.congr hM e,λ_ _ h=>by have:=h.r;omega⟩
end
end Go.Proofs.Ins
namespace Go.Proofs.Xe
open Go.RowKit Go.Proofs.Ins
section
variable {n:Nat} {m:Nat→Rat} {cl cl' : Nat→List C5} {al:Nat→List fD} {dl:List pX}
def BG.late(h:BG n m cl al dl)(hl:∀i,i<n->GU (cl i) (cl' i)):BG n m cl' al dl:=by
 have hlen:∀i,i<n->(cl' i).length=(cl i).length:=λi hi=>(hl i hi).1;refine⟨h.n0,h.n4,h.mm,λi hi=>⟨by rw[hlen i hi];exact(h.c i hi).1,λk hk=>?_⟩,λi hi=>by rw[hlen i hi];exact h.a i hi,h.d,λj hj=>?_⟩
 .rw[hlen i hi]at hk;obtain⟨g1,⟨r,g2,g3⟩,g4⟩:=(h.c i hi).2 k hk;obtain⟨e1,e2,e3⟩:=(hl i hi).2 k hk;refine⟨by rw[e1];exact g1,?_,by rw[e2];exact g4⟩;rcases e3 with e|e|e
  .exact⟨r,g2,by rw[e];exact g3⟩
  .exact⟨6,jb,e⟩
  .exact⟨7,jb,e⟩
 .obtain⟨hv,hr,hnd⟩:=h.dg j hj;refine⟨hv,λx hx=>?_,hnd⟩;obtain⟨e,k,h1,h2,h3,h4,h5,h6⟩:=hr x hx;rw[jP]at h2;rw[jm m cl al h2]at h3;have h3:k<(cl e).length:=h3;refine⟨e,k,h1,by rw[jP];exact h2,?_,h4,?_,by rw[jP]at h6⊢;exact h6⟩
  .rw[jm m cl' al h2];show k<(cl' e).length;rw[hlen e h2];exact h3
  .rw[<-h5,h1];show(ix (ix (gK n m cl' al) e).c k).h=(ix (ix (gK n m cl al) e).c k).h;rw[jm m cl' al h2,jm m cl al h2];exact((hl e h2).2 k h3).1
end
def shG(g:fH)(x:Nat->Rat)(i:Nat):Bool:=(List.range (kE g.e i)).any λk=>decide ((ix (ix g.e i).c k).r<6)&&decide (Xv g x i k<(ix (ix g.e i).c k).a.q)
def J3{g:fH}(hg:jX g){x y:Nat->Rat}(hx:Nn g.e.length x)(hxy:Le g.e.length x y):Ik g.e.length (shG g y) (shG g x):=λi hi h=>by unfold shG at h⊢;obtain⟨k,hk,h⟩:=dy.mp h;rw[ap]at h;refine dy.mpr ⟨k,hk,?_⟩;rw[ap];refine⟨h.1,aq ?_⟩;have h1:Xv g x i k<=Xv g y i k:=ES (hg.NJ.nn i hi).rk _ (hx i hi) (hxy i hi);have h2:=cK h.2;grind
def oI(m c:Nat->Rat)(a:Nat->Bool)(i:Nat):Rat:=if a i then sH (m i-c i) 0 else m i
noncomputable def shT(n:Nat)(g:fH)(m c:Nat->Rat)(a:Nat->Bool)(i:Nat):Bool:=@decide (∃x,Sr (n:=n) (g:=bI g) (oI m c a) x/\shG g x i=true) (Classical.propDecidable _)
section
variable {g:fH} {m c:Nat→Rat} {a b:Nat→Bool} {x y:Nat→Rat}
def adn{n:Nat}{gl:GL}{c c' x x':Nat->Rat}(hc:∀i,i<n->c i<=c' i)(h:Sr (n:=n) (g:=gl) c x)(h':Sr (n:=n) (g:=gl) c' x'):∀i,i<n->x i<=x' i:=
 h'.grt x h.nn λj hj=>by rw[h.fix j hj];exact Rat.add_le_add_right.mpr (hc j hj)
def awi(hg:jX g)(hx:Nn g.e.length x)(hy:Nn g.e.length y)(h:∀i,i<g.e.length->x i=y i):BEq g.e.length (shG g x) (shG g y):=
 (J3 hg hy λi hi=>by rw[h i hi];exact aR).antisymm (J3 hg hx λi hi=>by rw[h i hi];exact aR)
def L8(hg:jX g)(h:Sr (n:=g.e.length) (g:=bI g) (oI m c a) x):BEq g.e.length (shT g.e.length g m c a) (shG g x):=λi hi=>by
 rw[gC];unfold shT;constructor
 .intro e;obtain⟨y,h1,h2⟩:=@cK _ (Classical.propDecidable _) e;rw[<-h2];exact(awi hg h.nn h1.nn (Sr.uniq _ h h1)) i hi
 .intro e;exact @aq _ (Classical.propDecidable _) ⟨x,h,e⟩
def afu(hc:∀i,i<g.e.length->0<=c i)(hm:∀i,i<g.e.length->0<=m i)(hab:Ik g.e.length a b):∀i,i<g.e.length->oI m c b i<=oI m c a i:=λi hi=>by have h1:=hc i hi;have h2:=hm i hi;have h3:=hab i hi;unfold oI sH;cases ha:a i<;>cases hb:b i<;>grind
def amP(hg:jX g)(hc:∀i,i<g.e.length->0<=c i)(hm:∀i,i<g.e.length->0<=m i)(hex:∀a,∃x,Sr (n:=g.e.length) (g:=bI g) (oI m c a) x):G7 g.e.length (shT g.e.length g m c):=λa b hab=>by obtain⟨x,hx⟩:=hex a;obtain⟨y,hy⟩:=hex b;have h1:=L8 hg hx;have h2:=L8 hg hy;exact h1.le.trans ((J3 hg hy.nn (adn (afu hc hm hab) hy hx)).trans h2.symm.le)
end
section
variable {J:St} {dv:B} {n eb:Nat} {m m' : Nat→Rat} {cl:Nat→List C5} {bs:Nat→Nat} {A:Nat→B} {al:Nat→List fD} {dl:List pX} {lo hi:Nat}
def jE.reM{h:Tr Bk}(ho:jE h dv n eb m cl bs A al dl lo hi)(m':Nat->Rat):jE (hset h eb ⟨aY n (nY m' cl bs A),some (5,49)⟩) dv n eb m' cl bs A al dl lo hi:=by refine⟨ay _ _ _,ho.elo,ho.ehi,λi hi' h0=>?_,ho.inj,λi hi'=>(ho.a i hi').keep (λb hb=>ak _ _ _ _ hb.2.2.1) λ_ h=>h,ho.d.keep (λb hb=>ak _ _ _ _ hb.2.2.1) λ_ h=>h⟩;obtain⟨c1,c2,c3,c4⟩:=ho.c i hi' h0;exact⟨(ak _ _ _ _ c4).trans c1,c2,c3,c4⟩
def amQ(hW:WF J)(ho:jE J.h dv n eb m cl bs A al dl lo hi)(hG:jX (iW n m' cl al dl)):∃x,Sr (n:=n) (g:=bI (iW n m cl al dl)) m' x:=by
 have hlt:eb<J.aj:=hW.lt ho.e;have hW':WF ⟨hset J.h eb ⟨aY n (nY m' cl bs A),some (5,49)⟩,J.aj⟩:=λb hb=>by have hb:J.aj<=b:=hb;show hset _ _ _ b=none;rw[ak _ _ _ _ jb];exact hW b hb
 obtain⟨_,_,_,-,x,-,-,-,hgt,-⟩:=aft (g:=iW n m' cl al dl) hW' ((ho.reM m').grp .opn) hG;have hn:=iP n m' cl al dl;rw[hn,amO (m:=m)]at hgt;have hcs:∀i,i<n->jG (iW n m' cl al dl) i=m' i:=λi hi=>by unfold jG;rw[wG m' cl al dl hi];exact nU _
 exact⟨x,hgt.nn,λj hj=>by rw[<-hcs j hj];exact hgt.fix j hj,λy hy hp=>hgt.grt y hy λj hj=>by rw[hcs j hj];exact hp j hj⟩
end
def ah0(v u:Nat):Sm 1000 (sH (amt v-amt u) 0)/\jB 60 100 (sH (amt v-amt u) 0):=by
 have h1:=nR v;have h2:=nR u;unfold sH;split
 .next h=>
  have h0:0<=amt v-amt u:=by
   unfold mW at h;rcases nT (amt v-amt u-0)with⟨e,-⟩|⟨-,e⟩|⟨-,e⟩
   .omega
   .grind
   .grind
  refine⟨((jD v).sub (jD u)).mono jj,h1.1.sub h2.1,h0,?_⟩;have:=h1.2.2;have:=h2.2.1;have e1:(30:Rat)<=100:=by decide
  grind
 .exact⟨(Jz▸jD 0).mono jj,(RS jj).zero⟩
section
variable {n:Nat} {m c:Nat→Rat} {cl:Nat→List C5} {al:Nat→List fD} {dl:List pX}
end
end Go.Proofs.Xe
