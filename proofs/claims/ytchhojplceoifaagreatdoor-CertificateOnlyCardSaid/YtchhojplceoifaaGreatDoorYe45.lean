import Derived.Test.YtchhojplceoifaaGreatDoorYe44
set_option linter.all false
set_option maxRecDepth 100000
set_option maxHeartbeats 8000000
namespace Go.Proofs.Xe
open Go.RowKit Go.Proofs.Ins
def VP(i k:Nat):Bool:=if k<i then true else false
def akB{n i:Nat}:ones n (aN (λk=>B.bool (VP i k)) i (.bool true))=ones n λk=>.bool (VP (i+1) k):=bF λk _=>by grind[aN,VP]
def adr(a b:Rat):decide (Int.ofNat 0<oQ a b)=decide (b<a):=by grind[oQ,nM]
def ads{σ:St}(hW:WF σ){sb:Nat}{g:gB}(hs:DW (Lt σ.aj) σ.h sb g)(h:kG g)(gr:Bool):
  aC EN 45 [.c (.ptr sb 0),.c (.bool gr)] σ λr σ'=>∃x,Ql σ σ' r g.e.length x/\ou g x 1/\Aq h.I7 (iE g) (!gr) x 1/\(gr=true->Grt (n:=g.e.length) (g:=aZ g) (iE g) x/\∀S:Nat->Prop,(∃i,i<g.e.length/\S i)->¬Ins.Shut g.e.length (gM g.e.length (aZ g) x) S)/\(gr=false->Ins.yX (n:=g.e.length) (g:=aZ g) (iE g) x)/\Fr σ σ':=by
 refine aO (kS.o _ _) kS.h ?_
 unfold kS
 dsimp only
 have hn8:=h.n
 have hs0:=hs
 obtain⟨⟨ev,gv,lv,bv,hsb,hg,⟨R,P,hL1,hL2⟩,hB⟩,hsl⟩:=hs
 have hsl:sb<σ.aj:=hsl
 have hlk:=hL1.kn
 have hll:=hL1.len
 have hFr:=Fr.refl hW
 have z1:=sz1
 simp(disch:=try exact jz) only[go_sem,z3,ak hsb,hll,hlk]
 refine aF (λq tm σ'=>∃x t xb,q=meas g x t/\Tr.ah tm 0=.c (.ptr sb 0)/\Tr.ah tm 1=.c (.bool gr)/\Tr.ah tm 5=.c (.int .i64 (.ofNat g.e.length))/\Tr.ah tm 6=.c (.sl xb 0 g.e.length (.ex g.e.length))/\Tr.ah tm 7=.c (.ptr (σ.aj+1) 0)/\Tr.ah tm 8=.c (.ptr (σ.aj+1+1) 0)
   /\σ'.h xb=some ⟨cO g.e.length x,none⟩/\σ.aj<=xb/\σ'.h (σ.aj+1)=some ⟨[.bool (rn t),.str (rs t),.str (rd t)],none⟩/\σ'.h (σ.aj+1+1)=some ⟨[.bool (rn 1),.str (rs 1),.str (rd 1)],none⟩/\Aq h.I7 (iE g) (!gr) x t/\ou g x t/\Fr σ σ'/\σ.aj+1+1+1<=σ'.aj) (meas g (λ_=>0) 0) ?_ ?_
 .refine⟨λ_=>0,0,σ.aj,rfl,?_⟩
  simp(disch:=try exact jz) only[go_sem,z3,am]
  exact⟨jp,inv_start h.I7 (iE g) (!gr),JV h,fr,jp⟩
 .rintro q tm σ' ⟨x,t,xb,rfl,t0,t1,t5,t6,t7,t8,q6,hxb,q7,q8,hI,hP,hf,hnx⟩
  have jm:=Fr.refl hf.wf
  obtain⟨D,hMg⟩:=hP.mg h
  simp(disch:=try exact jz) only[go_sem,z3,t0,t1,t5,t6,t7,t8]
  refine(ajw hf.wf (hs0.fr hf) q6 hMg).mono ?_
  rintro _ σ1 ⟨⟨Dv,Sv,rfl,hDv,hSv⟩,hf1⟩
  have hF1:=hf.trans hf1
  have ae2:=Fr.refl hf1.wf
  have k1:=hDv.kn
  have k2:=hSv.kn
  simp(disch:=try exact jz) only[go_sem,z3,t0,t1,t5,t6,t7,t8,k1,k2]
  refine aC.st (Fr σ1) (fr) λhF=>?_
  have hF2:=hF1.trans hF
  refine(SC hF.wf (hs0.fr hF2) (hDv.fr hf1.wf hF) (hSv.fr hf1.wf hF) hMg).mono ?_
  rintro _ σ2 ⟨⟨mb,bs,hi,rfl,hm1,hm2,JM⟩,hf2⟩
  have hF3:=hF2.trans hf2
  have KN:=Fr.refl hf2.wf
  simp(disch:=try exact jz) only[go_sem,z3,t0,t1,t5,t6,t7,t8]
  refine bK.mono (Q:=λex tm σ3=>ex=.exit 2/\Tr.ah tm 0=.c (.ptr sb 0)/\Tr.ah tm 1=.c (.bool gr)/\Tr.ah tm 5=.c (.int .i64 (.ofNat g.e.length))/\Tr.ah tm 6=.c (.sl xb 0 g.e.length (.ex g.e.length))/\Tr.ah tm 7=.c (.ptr (σ.aj+1) 0)/\Tr.ah tm 8=.c (.ptr (σ.aj+1+1) 0)/\Tr.ah tm 9=.c (.ptr σ1.aj 0)/\Tr.ah tm 10=.c (.sl mb 0 g.e.length (.ex g.e.length))/\Tr.ah tm 11=.c (.sl σ2.aj 0 g.e.length (.ex g.e.length))
    /\σ3.h σ2.aj=some ⟨ones g.e.length λk=>.bool (VP g.e.length k),none⟩/\Fr σ2 σ3/\σ2.aj+1<=σ3.aj)
   (aF (λq tm σ3=>∃i,q=g.e.length-i/\i<=g.e.length/\Tr.ah tm 0=.c (.ptr sb 0)/\Tr.ah tm 1=.c (.bool gr)/\Tr.ah tm 5=.c (.int .i64 (.ofNat g.e.length))/\Tr.ah tm 6=.c (.sl xb 0 g.e.length (.ex g.e.length))/\Tr.ah tm 7=.c (.ptr (σ.aj+1) 0)/\Tr.ah tm 8=.c (.ptr (σ.aj+1+1) 0)/\Tr.ah tm 9=.c (.ptr σ1.aj 0)/\Tr.ah tm 10=.c (.sl mb 0 g.e.length (.ex g.e.length))/\Tr.ah tm 11=.c (.sl σ2.aj 0 g.e.length (.ex g.e.length))/\Tr.ah tm 36=.c (.int .i64 (.ofNat g.e.length))/\Tr.ah tm 37=.c (.int .i64 (.ofNat i))
    /\σ3.h σ2.aj=some ⟨ones g.e.length λk=>.bool (VP i k),none⟩/\Fr σ2 σ3/\σ2.aj+1<=σ3.aj) g.e.length ?_ ?_) ?_
  .refine⟨0,jb,jb,?_⟩
   simp(disch:=try exact jz) only[go_sem,z3,t0,t1,t5,t6,t7,t8,am]
   exact⟨bO (λl=>some (Bk.mk l none)) (bF λk _=>by unfold VP;rw[ae jb]),fr,jp⟩
  .rintro q tm3 σ3 ⟨i,rfl,hi1,t0,t1,t5,t6,t7,t8,t9,t10,t11,t36,t37,q11,hf3,hn3⟩
   have aiV:=Fr.refl hf3.wf
   have azY:=hf3.wf.lt q11
   simp(disch:=try exact jz) only[go_sem,z3,t0,t1,t5,t6,t7,t8,t9,t10,t11,t36,t37,aG]
   refine aH (λhlt=>?_) (λhlt=>?_)
   .have hst:=akB (n:=g.e.length) (i:=i)
    simp(disch:=try exact jz) only[go_sem,z3,t0,t1,t5,t6,t7,t8,t9,t10,t11,t36,t37,q11,aI q11,hst]
    exact⟨g.e.length-(i+1),jb,i+1,rfl,jb,rfl,rfl,fr,jb⟩
   .have:i=g.e.length:=jb
    subst this
    simp(disch:=try exact jz) only[go_sem,z3,am]
    exact⟨t0,t1,t5,t6,t7,t8,t9,t10,t11,q11,hf3,hn3⟩
  .rintro _ tm3 σ3 ⟨rfl,t0,t1,t5,t6,t7,t8,t9,t10,t11,q11,hf3,hn3⟩
   have nX:=hF3.trans hf3
   have hle3:=hf3.le
   have hle':=hf.le
   have Y0:=hF.trans (hf2.trans hf3)
   have q63:=(hf1.trans Y0).get hf.wf q6
   have q73:=(hf1.trans Y0).get hf.wf q7
   have q83:=(hf1.trans Y0).get hf.wf q8
   have q93:σ3.h σ1.aj=some ⟨[Dv,Sv],none⟩:=(hf2.trans hf3).get hF.wf (aA _ _ _)
   have hxl:=hf.wf.lt q6
   have ayO:=hf1.trans Y0
   have aza:=ayO.le
   have apC:=JM.b
   have apD:=JM.l
   have hM3:dY (Lt σ3.aj) σ3.h (.sl mb 0 g.e.length (.ex g.e.length)) g.e.length (λ_=>g.e.length) (gM g.e.length (aZ g) x):=((JM.hr (p:=Lt σ2.aj) λb hb=>by show b<σ2.aj;omega).fr hf2.wf hf3).keep (λ_ _=>rfl) λb hb=>aL hb hle3
   obtain⟨m1,m2,m3⟩:=h.mz hI.nn
   have hsub:=h.sub hI.nn
   have m0:∀j i,j<g.e.length->i<g.e.length->0<=gM g.e.length (aZ g) x j i:=λj i hj hi=>hsub.nn j i hj hi
   have hcn:∀j,j<g.e.length->0<=iE g j:=λj hj=>(h.m j hj).2.2.1
   obtain⟨zx,zt,zt1⟩:=hP.sz hI.t0 hI.t1
   by_cases hret:gr=false/\t=1
   .obtain⟨rfl,rfl⟩:=hret
    simp(disch:=try exact jz) only[go_sem,z3,t0,t1,t5,t6,t7,t8,t9,t10,t11,ak q73,ak q83,gP]
    exact⟨x,⟨xb,rfl,q63,hxb,jb⟩,hP,hI,(λe=>by cases e),λ_=>as8 h.I7 (iE g) hI,nX⟩
   .have aiV:=Fr.refl hf3.wf
    refine(show bK EN (.seq _ _) _ _ _ from wR (λtm σ4=>∃(ov:B) (of:Nat->Bool),Tr.ah tm 0=.c (.ptr sb 0)/\Tr.ah tm 1=.c (.bool gr)/\Tr.ah tm 5=.c (.int .i64 (.ofNat g.e.length))/\Tr.ah tm 6=.c (.sl xb 0 g.e.length (.ex g.e.length))/\Tr.ah tm 7=.c (.ptr (σ.aj+1) 0)/\Tr.ah tm 8=.c (.ptr (σ.aj+1+1) 0)/\Tr.ah tm 9=.c (.ptr σ1.aj 0)/\Tr.ah tm 10=.c (.sl mb 0 g.e.length (.ex g.e.length))/\Tr.ah tm 11=.c ov
     /\HL σ4.h 1 ov g.e.length (λi=>[.bool (of i)])/\(∀i j,i<g.e.length->j<g.e.length->of i=true->gM g.e.length (aZ g) x j i≠0->of j=true)/\(∀i,i<g.e.length->0<iE g i->of i=true)/\(gr=true->∀i,i<g.e.length->of i=true)/\(gr=false->t≠1/\∀i,i<g.e.length->of i=true->Vz g.e.length (gM g.e.length (aZ g) x) (λk=>atj g k=true) i)/\Fr σ3 σ4) ?_ ?_)
    .cases gr with
     |true=>
      simp(disch:=try exact jz) only[go_sem,z3,t0,t1,t5,t6,t7,t8,t9,t10,t11]
      have htr:∀i,i<g.e.length->VP g.e.length i=true:=λi hi=>by unfold VP;rw[ab hi]
      exact⟨_,VP g.e.length,rfl,abe q11 rfl,λ_ j _ hj _ _=>htr j hj,λi hi _=>htr i hi,λ_=>htr,(λe=>by cases e),Fr.refl hf3.wf⟩
     |false=>
      have ht1:decide (t=1)=false:=az λe=>hret ⟨rfl,e⟩
      simp(disch:=try exact jz) only[go_sem,z3,t0,t1,t5,t6,t7,t8,t9,t10,t11,ak q73,ak q83,ht1]
      refine(akm hf3.wf (hs0.fr nX) jb λi hi=>(h.m i hi).1).mono ?_
      rintro _ σ4 ⟨⟨b4,rfl,hb4,-,-⟩,hf4⟩
      simp(disch:=try exact jz) only[go_sem,z3,t0,t1,t5,t6,t7,t8,t9,t10,t11]
      refine(ac8 hf4.wf (hM3.fr hf3.wf hf4) jb m1 m0 hb4).mono ?_
      rintro _ σ5 ⟨⟨b5,c5,o5,of,rfl,hb5,ayP,am9,hof⟩,hf5⟩
      simp(disch:=try exact jz) only[go_sem,z3,t0,t1,t5,t6,t7,t8,t9,t10,t11]
      exact⟨_,of,rfl,abe hb5 ayP,λi j hi hj h1 h2=>(hof j hj).mpr (.step ((hof i hi).mp h1) hj h2),λi hi hc=>(hof i hi).mpr (.base (bh hc) hi),(λe=>by cases e),λ_=>⟨λe=>hret ⟨rfl,e⟩,λi hi h1=>(hof i hi).mp h1⟩,hf4.trans hf5⟩
    .rintro tm4 σ4 ⟨ov,of,t0,t1,t5,t6,t7,t8,t9,t10,t11,hov,atB,ayQ,axa,atC,hf4⟩
     simp(disch:=try exact jz) only[go_sem,z3,t0,t1,t5,t6,t7,t8,t9,t10,t11]
     refine(ajZ hf4.wf (hM3.fr hf3.wf hf4) jb m3 m1 m0 hov).mono ?_
     rintro _ σ5 ⟨⟨cv,rfl,hB⟩,hf5⟩
     have gU:=hf4.trans hf5
     have Pm:=nX.trans gU
     have q65:=gU.get hf3.wf q63
     have q75:=gU.get hf3.wf q73
     have q85:=gU.get hf3.wf q83
     have q95:=gU.get hf3.wf q93
     have wO:=gU.le
     have Fa:=Fr.refl hf5.wf
     have hD5:dY (λ_=>True) σ5.h Dv g.e.length (kE g.e) (Qm g x):=(hDv.fr hf1.wf (Y0.trans gU)).keep (λ_ _=>rfl) λ_ _=>trivial
     have hS5:dY (λ_=>True) σ5.h Sv g.e.length (kE g.e) (KO g x):=(hSv.fr hf1.wf (Y0.trans gU)).keep (λ_ _=>rfl) λ_ _=>trivial
     rcases hB with⟨rfl,hnone⟩|⟨i0,hi0,axb,anX,hmin,⟨cb,rfl⟩,hH⟩
     .have aov:∀S:Nat->Prop,(∃i,i<g.e.length/\S i)->(∀i,i<g.e.length->S i->of i=true)->¬Ins.Shut g.e.length (gM g.e.length (aZ g) x) S:=ajT (of:=λi=>of i=true) (R:=λk=>sD g.e.length (gM g.e.length (aZ g) x) λi=>i=k) (λk _ _=>MH _ _ λi=>i=k) hnone
      by_cases ht1:t=1
      .subst ht1
       cases gr with
       |false=>exact absurd rfl (atC rfl).1
       |true=>
        simp(disch:=try exact jz) only[go_sem,z3,t0,t1,t5,t6,t7,t8,t9,t10,t11,ak q75,ak q85,gP]
        exact⟨x,⟨xb,rfl,q65,hxb,jb⟩,hP,hI,(λ_=>⟨abd h.I7 (iE g) hI λS hS=>aov S hS λi hi _=>axa rfl i hi,λS hS=>aov S hS λi hi _=>axa rfl i hi⟩),(λe=>by cases e),Pm⟩
      .have htd:decide (t=1)=false:=az ht1
       simp(disch:=try exact jz) only[go_sem,z3,t0,t1,t5,t6,t7,t8,t9,t10,t11,ak q75,ak q85,htd]
       refine(ajY hf5.wf (hov.fr hf4.wf hf5) jb).mono ?_
       rintro _ σ6 ⟨⟨lb,rfl,hN6⟩,iw⟩
       have lK:=Pm.trans iw
       have hlF:VB σ6.h (aS (dQ of g.e.length).length lb) (dQ of g.e.length):=aY.hl (hN6.hlp jj (λ_ _=>rfl) (p:=λ_=>True) λ_ _ _=>trivial)
       have hmem:∀i,i∈dQ of g.e.length↔i<g.e.length/\of i=true:=λi=>su _ _ _
       have hM6:=(hM3.fr hf3.wf (gU.trans iw))
       simp(disch:=try exact jz) only[go_sem,z3,t0,t1,t5,t6,t7,t8,t9,t10,t11]
       refine(atA iw.wf (hs0.fr lK) h hI.nn hM6 hlF (Gj _ _) (λi hi=>((hmem i).mp hi).1) ?_ (λS hS hi=>aov S hS λi hi2 hSi=>((hmem i).mp (hi i hi2 hSi)).2) ?_).mono ?_
       .intro i hi j hj hjl
        by_cases e:gM g.e.length (aZ g) x j i=0
        .exact e
        .exact absurd ((hmem j).mpr ⟨hj,atB i j ((hmem i).mp hi).1 hj ((hmem i).mp hi).2 e⟩) hjl
       .intro j hj hjl
        by_cases e:0<iE g j
        .exact absurd ((hmem j).mpr ⟨hj,ayQ j hj e⟩) hjl
        .have:=hcn j hj;grind
       rintro _ σ7 ⟨v,⟨vb,rfl,hv1,hv2,hv3⟩,hvn,hvm,hvz,hvZ,oC⟩
       have VQ:=iw.trans oC
       have sJ:=Pm.trans VQ
       have q67:=VQ.get hf5.wf q65
       have q77:=VQ.get hf5.wf q75
       have q87:=VQ.get hf5.wf q85
       have q97:=VQ.get hf5.wf q95
       have ai8:=VQ.le
       obtain⟨D2,hNr⟩:=hP.nr h hvn hvZ (gT FP)
       have hxr:jc (λ_=>True) σ7.h (.sl xb 0 g.e.length (.ex g.e.length)) g.e.length x:=bf (G:=λc=>gy (x c)) _ q67 rfl trivial (λ_=>rfl) jj λ_ _=>rfl
       have hvr:jc (λ_=>True) σ7.h (.sl vb 0 g.e.length (.ex g.e.length)) g.e.length v:=bf (G:=λc=>gy (v c)) _ hv1 rfl trivial (λ_=>rfl) jj λ_ _=>rfl
       have k1:=hD5.kn
       have k2:=hS5.kn
       simp(disch:=try exact jz) only[go_sem,z3,t0,t1,t5,t6,t7,t8,t9,t10,t11,ak q97,k1,k2]
       refine(SV oC.wf (hs0.fr sJ) hxr hvr ((hDv.fr hf1.wf (Y0.trans (gU.trans VQ))).keep (λ_ _=>rfl) λ_ _=>trivial) ((hSv.fr hf1.wf (Y0.trans (gU.trans VQ))).keep (λ_ _=>rfl) λ_ _=>trivial) hNr).mono ?_
       rintro _ σ8 ⟨rfl,oP⟩
       have hD3:∀i,i<g.e.length->Gh ((aZ g).e i) ((aZ g).k i) (x i) (mJ g x i):=λi hi=>(ake h hi (hI.nn i hi)).2
       have htl:t<1:=by have:=hI.t1;grind
       have key:∀w,0<=w->w<=1-t->(∀c∈jR g.e.length (aZ g) (mJ g x) x v,w<=c)->(w∈jR g.e.length (aZ g) (mJ g x) x v\/w=1-t)->Aq h.I7 (iE g) (!gr) (bC x v w) (t+w)/\ou g (bC x v w) (t+w)/\meas g (bC x v w) (t+w)<meas g x t:=λw w0 w1 wc hw=>by
        obtain⟨a1,a2,a3⟩:=ajV h.I7 (iE g) hcn hI hD3 hvn hvm (λS hS hi=>aov S hS λi hi2 hSi=>by
         by_cases e:i∈dQ of g.e.length
         .exact((hmem i).mp e).2
         .have h1:=hi i hi2 hSi;rw[hvz i e]at h1;exact absurd h1 jj) htl w0 w1 wc
        by_cases hwc:w∈jR g.e.length (aZ g) (mJ g x) x v
        .have hm:=a3 hwc;have hms:meas g (bC x v w) (t+w)<meas g x t:=by unfold meas;rw[ae ht1];split<;>omega
         exact⟨a1,(hP.ajL h hvn hvZ (gT FP) hwc (.inr rfl) a1 hms).1,hms⟩
        .have e:=hw.resolve_left hwc;subst e;have e1:t+(1-t)=1:=by grind
         rw[e1]at a1⊢;have hms:meas g (bC x v (1-t)) 1<meas g x t:=by unfold meas;rw[ae ht1,ab rfl];omega
         exact⟨a1,hP.last h hvZ (gT FP) ht1 a1 a2,hms⟩
       have zw:∀w,(w∈jR g.e.length (aZ g) (mJ g x) x v\/w=1-t)->Sz w/\∀i,i<g.e.length->Sz (v i)/\Sz (w*v i):=λw hw=>hP.awO h hvn hvZ (gT FP) hI.t0 hI.t1 hw
       have afJ:=VQ.trans oP
       have LM:=Pm.trans afJ
       have q78:=afJ.get hf5.wf q75
       have q88:=afJ.get hf5.wf q85
       have ajx:=oP.le
       have azb:=LM.le
       have ayh:=Fr.refl oP.wf
       rcases VJ (jR g.e.length (aZ g) (mJ g x) x v)with⟨e,en⟩|⟨u,en,hum,hul⟩
       .rw[en]
        have i0:(none:Option Rat).isSome=false:=rfl
        simp(disch:=try exact jz) only[go_sem,z3,t0,t1,t5,t6,t7,t8,t9,t10,t11,ak q78,ak q88,i0]
        refine aC.st (Fr σ8) (fr) λDN=>?_
        obtain⟨kI,kP,km⟩:=key (1-t) kd bo (by rw[e];intro c hc;cases hc) (.inr rfl)
        obtain⟨z2,z3⟩:=zw (1-t) (.inr rfl)
        have hx9:=(afJ.trans DN).get hf5.wf q65
        have hv9:=(oP.trans DN).get oC.wf hv1
        have hxr:jc (λ_=>True) _ (.sl xb 0 g.e.length (.ex g.e.length)) g.e.length x:=bf (G:=λc=>gy (x c)) _ hx9 rfl trivial (λ_=>rfl) jj λ_ _=>rfl
        have hvr:jc (λ_=>True) _ (.sl vb 0 g.e.length (.ex g.e.length)) g.e.length v:=bf (G:=λc=>gy (v c)) _ hv9 rfl trivial (λ_=>rfl) jj λ_ _=>rfl
        refine(MC DN.wf hxr hvr jb z2 zx (λi hi=>(z3 i hi).1) (λi hi=>(z3 i hi).2) (kP.sz kI.t0 kI.t1).1).mono ?_
        rintro _ σA ⟨⟨rb,rfl,hr1,hr2,hr3⟩,hfA⟩
        have q7A:=(DN.trans hfA).get oP.wf q78
        have q8A:=(DN.trans hfA).get oP.wf q88
        have akC:σA.h σ8.aj=some ⟨[.bool (rn (1-t)),.str (rs (1-t)),.str (rd (1-t))],none⟩:=hfA.get DN.wf (aA _ _ _)
        have hFA:=LM.trans (DN.trans hfA)
        have axc:=hfA.le
        have hr2:σ8.aj+1+1<=rb:=hr2
        have axd:=Fr.refl hfA.wf
        simp(disch:=try exact jz) only[go_sem,z3,t0,t1,t5,t6,t7,t8,t9,t10,t11,ak q7A,ak akC,aI q7A]
        exact⟨meas g (bC x v (1-t)) (t+(1-t)),km,bC x v (1-t),t+(1-t),rb,rfl,rfl,(au _ _ _ _ jb).trans hr1,jb,rfl,q8A,kI,kP,fr,jb⟩
       .rw[en]
        have i0:(some u).isSome=true:=rfl
        have i1:gq0 (some u)=u:=rfl
        have zu:=(zw u (.inl hum)).1
        by_cases hlt:1-t<u
        .have hd:=bh hlt
         simp(disch:=try exact jz) only[go_sem,z3,t0,t1,t5,t6,t7,t8,t9,t10,t11,ak q78,ak q88,i0,i1,adr,hd]
         refine aC.st (Fr σ8) (fr) λDN=>?_
         obtain⟨kI,kP,km⟩:=key (1-t) kd bo (λc hc=>by have:=hul c hc;grind) (.inr rfl)
         obtain⟨z2,z3⟩:=zw (1-t) (.inr rfl)
         have hx9:=(afJ.trans DN).get hf5.wf q65
         have hv9:=(oP.trans DN).get oC.wf hv1
         have hxr:jc (λ_=>True) _ (.sl xb 0 g.e.length (.ex g.e.length)) g.e.length x:=bf (G:=λc=>gy (x c)) _ hx9 rfl trivial (λ_=>rfl) jj λ_ _=>rfl
         have hvr:jc (λ_=>True) _ (.sl vb 0 g.e.length (.ex g.e.length)) g.e.length v:=bf (G:=λc=>gy (v c)) _ hv9 rfl trivial (λ_=>rfl) jj λ_ _=>rfl
         refine(MC DN.wf hxr hvr jb z2 zx (λi hi=>(z3 i hi).1) (λi hi=>(z3 i hi).2) (kP.sz kI.t0 kI.t1).1).mono ?_
         rintro _ σA ⟨⟨rb,rfl,hr1,hr2,hr3⟩,hfA⟩
         have q7A:=(DN.trans hfA).get oP.wf q78
         have q8A:=(DN.trans hfA).get oP.wf q88
         have akC:σA.h σ8.aj=some ⟨[.bool (rn (1-t)),.str (rs (1-t)),.str (rd (1-t))],none⟩:=hfA.get DN.wf (aA _ _ _)
         have hFA:=LM.trans (DN.trans hfA)
         have axc:=hfA.le
         have hr2:σ8.aj+1+1<=rb:=hr2
         have axd:=Fr.refl hfA.wf
         simp(disch:=try exact jz) only[go_sem,z3,t0,t1,t5,t6,t7,t8,t9,t10,t11,ak q7A,ak akC,aI q7A]
         exact⟨meas g (bC x v (1-t)) (t+(1-t)),km,bC x v (1-t),t+(1-t),rb,rfl,rfl,(au _ _ _ _ jb).trans hr1,jb,rfl,q8A,kI,kP,fr,jb⟩
        .have hd:=az hlt
         simp(disch:=try exact jz) only[go_sem,z3,t0,t1,t5,t6,t7,t8,t9,t10,t11,ak q78,ak q88,i0,i1,adr,hd]
         refine aC.st (Fr σ8) (fr) λDN=>?_
         obtain⟨kI,kP,km⟩:=key u (eo (ER hD3 u hum)) kd hul (.inl hum)
         obtain⟨z2,z3⟩:=zw u (.inl hum)
         have hx9:=(afJ.trans DN).get hf5.wf q65
         have hv9:=(oP.trans DN).get oC.wf hv1
         have hxr:jc (λ_=>True) _ (.sl xb 0 g.e.length (.ex g.e.length)) g.e.length x:=bf (G:=λc=>gy (x c)) _ hx9 rfl trivial (λ_=>rfl) jj λ_ _=>rfl
         have hvr:jc (λ_=>True) _ (.sl vb 0 g.e.length (.ex g.e.length)) g.e.length v:=bf (G:=λc=>gy (v c)) _ hv9 rfl trivial (λ_=>rfl) jj λ_ _=>rfl
         refine(MC DN.wf hxr hvr jb z2 zx (λi hi=>(z3 i hi).1) (λi hi=>(z3 i hi).2) (kP.sz kI.t0 kI.t1).1).mono ?_
         rintro _ σA ⟨⟨rb,rfl,hr1,hr2,hr3⟩,hfA⟩
         have q7A:=(DN.trans hfA).get oP.wf q78
         have q8A:=(DN.trans hfA).get oP.wf q88
         have akC:σA.h σ8.aj=some ⟨[.bool (rn u),.str (rs u),.str (rd u)],none⟩:=hfA.get DN.wf ((au _ _ _ _ jb).trans ((au _ _ _ _ jb).trans (aA _ _ _)))
         have hFA:=LM.trans (DN.trans hfA)
         have axc:=hfA.le
         have hr2:σ8.aj+1+1<=rb:=hr2
         have axd:=Fr.refl hfA.wf
         simp(disch:=try exact jz) only[go_sem,z3,t0,t1,t5,t6,t7,t8,t9,t10,t11,ak q7A,ak akC,aI q7A]
         exact⟨meas g (bC x v u) (t+u),km,bC x v u,t+u,rb,rfl,rfl,(au _ _ _ _ jb).trans hr1,jb,rfl,q8A,kI,kP,fr,jb⟩
     .have hcls:=ajS hsub (of:=λi=>of i=true) (λi j hi hj h1 h2=>atB i j hi hj h1 h2) (R:=λk=>sD g.e.length (gM g.e.length (aZ g) x) λi=>i=k) (λk _ _=>MH _ _ λi=>i=k) hi0 axb anX λk hk h1 h2=>hmin k hk h1 h2
      have k1:=hD5.kn
      have k2:=hS5.kn
      simp(disch:=try exact jz) only[go_sem,z3,t0,t1,t5,t6,t7,t8,t9,t10,t11,ak q95,k1,k2]
      refine(aty hf5.wf (hs0.fr Pm) h q65 hP hD5 hS5 (hM3.fr hf3.wf gU) (aY.hl hH) hcls hI (λhl E hE hE0 hEb=>?_) (λhl=>?_)).mono ?_
      .obtain⟨i,hi,hEi,hil⟩:=hE
       have hgr:gr=false:=by cases gr with|false=>rfl|true=>cases hl
       have hof:of i=true:=by
        have h1:=((MH g.e.length (gM g.e.length (aZ g) x) λk=>k=i0).mem i).mp hil;clear hEi hil hi;induction h1 with
        |base e hi=>subst e;exact axb
        |step h1 hj hm ih=>exact atB _ _ h1.lt hj ih hm
       have hr:=(atC hgr).2 i hi hof
       clear hof hil hi
       induction hr with
       |base e hi=>have:=cI e;have e2:=hE0 _ hi hEi;unfold iE at e2;grind
       |step h1 hj hm ih=>exact ih (hEb _ _ hj h1.lt hEi hm)
      .have hgr:gr=false:=by cases gr with|false=>rfl|true=>cases hl
       have h1:=(atC hgr).1
       have h2:=hI.t1
       grind
      rintro _ σ6 ⟨y,⟨yb,rfl,hy1,hy2,hy3⟩,hI',hP',hms,iw⟩
      have lK:=Pm.trans iw
      have Aj:=iw.le
      have q76:=iw.get hf5.wf q75
      have q86:=iw.get hf5.wf q85
      simp(disch:=try exact jz) only[go_sem,z3,t0,t1,t5,t6,t7,t8,t9,t10,t11]
      exact⟨meas g y t,hms,y,t,yb,rfl,rfl,hy1,jb,q76,q86,hI',hP',lK,jb⟩
def atD(p:Nat->Prop)(h:Tr Bk)(r:V)(g:gB)(x:Nat->Rat):Prop:=∃rr,r=.aV rr (.aV (.c (.int .i64 (.ofNat 0))) .tnil)/\aaY p h rr g x
def aaY.keep{p q:Nat->Prop}{h h':Tr Bk}{r:V}{g:gB}{x:Nat->Rat}(hs:aaY p h r g x)(hk:∀b,p b->h' b=h b)(hq:∀b,p b->q b):aaY q h' r g x:=by obtain⟨cm,G,Dv,Rf,Nt,Su,Re,Fu,rfl,h1,h2,h3,h4,h5,h6,h7,h8⟩:=hs;exact⟨cm,G,Dv,Rf,Nt,Su,Re,Fu,rfl,aY.keep h1 hk hq,h2.keep hk hq,h3.keep hk hq,h4.keep hk hq,h5.keep hk hq,aY.keep h6 hk hq,aY.keep h7 hk hq,aY.keep h8 hk hq⟩
def aaY.kn8{p:Nat->Prop}{h:Tr Bk}{r:V}{g:gB}{x:Nat->Rat}(hs:aaY p h r g x):∃cm G Dv Rf Nt Su Re Fu,r=.agg [cm,G,Dv,Rf,Nt,Su,Re,Fu]/\cm.kn=true/\G.kn=true/\Dv.kn=true/\Rf.kn=true/\Nt.kn=true/\Su.kn=true/\Re.kn=true/\Fu.kn=true:=by obtain⟨cm,G,Dv,Rf,Nt,Su,Re,Fu,rfl,h1,h2,h3,h4,h5,h6,h7,h8⟩:=hs;exact⟨cm,G,Dv,Rf,Nt,Su,Re,Fu,rfl,aY.kn h1,h2.kn,h3.kn,h4.kn,h5.kn,aY.kn h6,aY.kn h7,aY.kn h8⟩
def adt{σ:St}(hW:WF σ){p:Nat->Prop}{ev dv:B}{g:gB}(hg:uS p σ.h ev dv g)(h:kG g):
  aC EN 12 [.agg [ev,dv]] σ λr σ'=>∃x,atD (λb=>σ.aj<=b/\b<σ'.aj) σ'.h r g x/\ou g x 1/\Aq h.I7 (iE g) false x 1/\Grt (n:=g.e.length) (g:=aZ g) (iE g) x/\(∀S:Nat->Prop,(∃i,i<g.e.length/\S i)->¬Ins.Shut g.e.length (gM g.e.length (aZ g) x) S)/\Fr σ σ':=by
 refine aO (tq.o _ _) tq.h ?_
 unfold tq
 dsimp only
 obtain⟨_,hM0⟩:=(JV h).map h
 have hek:=hg.e.kn
 have hdk:=hg.d.kn
 have hFr:=Fr.refl hW
 simp(disch:=try exact jz) only[go_sem,z3,hek,hdk]
 refine aC.st (Fr σ) (fr) λhF=>?_
 refine(Md hF.wf (hg.fr hW hF) h.z h.bld (λi hi=>(h.m i hi).1) λd hd=>(h.d d hd).2.1).mono ?_
 rintro _ σ2 ⟨rfl,hf2⟩
 have hF2:=hF.trans hf2
 have q0:=hf2.get hF.wf (aA _ _ _)
 have q00:=hf2.get hF.wf ((au _ _ _ _ jb).trans (aA _ _ _))
 have hd0:decide ((0:Int)=Int.ofNat 0)=true:=rfl
 have hle2:σ.aj+1+1<=σ2.aj:=hf2.le
 simp(disch:=try exact jz) only[go_sem,z3,hek,hdk,hd0,ak q00,q00]
 refine(L6 hf2.wf g (hg.fr hW hF2) hM0.a h.bld).mono ?_
 rintro _ σ3 ⟨⟨sb,rfl,hS⟩,hf3⟩
 have hf3:=hf2.trans hf3
 have hF3:=hF.trans hf3
 simp(disch:=try exact jz) only[go_sem,z3]
 refine(ads hf3.wf hS h true).mono ?_
 rintro _ σ4 ⟨x,⟨xb,rfl,hx1,hx2,hx3⟩,hP,hI,hgt,hls,hf4⟩
 have nX:=hF3.trans hf4
 obtain⟨D,hMg⟩:=hP.mg h
 simp(disch:=try exact jz) only[go_sem,z3]
 refine(O4 hf4.wf (hS.fr hf4) hx1 hMg.A.s).mono ?_
 rintro _ σ5 ⟨hV,hf5⟩
 have gU:=nX.trans hf5
 have hle3:σ.aj+1+1<=σ3.aj:=hf3.le
 have uo:=hf4.le
 have wO:=hf5.le
 have Fa:=Fr.refl hf5.wf
 have q1:=(hf3.trans (hf4.trans hf5)).get hF.wf (aA _ _ _)
 obtain⟨cm,G,Dv,Rf,Nt,Su,Re,Fu,er,k1,k2,k3,k4,k5,k6,k7,k8⟩:=hV.kn8
 subst er
 simp(disch:=try exact jz) only[go_sem,z3,ak q1,aI q1,k1,k2,k3,k4,k5,k6,k7,k8]
 exact⟨x,⟨_,rfl,hV.keep (λb hb=>au _ _ _ _ jb) λb hb=>⟨jb,hb.2⟩⟩,hP,hI,(hgt rfl).1,(hgt rfl).2,fr⟩
def aow{σ:St}(hW:WF σ){p:Nat->Prop}{ev dv:B}{g:gB}(hg:uS p σ.h ev dv g)(h:kG g):
  aC EN 12 [.agg [ev,dv]] σ λr σ'=>∃x,atD (λb=>σ.aj<=b/\b<σ'.aj) σ'.h r g x/\ou g x 1/\Aq h.I7 (iE g) false x 1/\Grt (n:=g.e.length) (g:=aZ g) (iE g) x/\Fr σ σ':=
 (adt hW hg h).mono λ_ _ ⟨x,a,b,c,d,_,e⟩=>⟨x,a,b,c,d,e⟩
def aox{σ:St}(hW:WF σ){p:Nat->Prop}{ev dv:B}{g:gB}(hg:uS p σ.h ev dv g)(h:kG g):
  aC EN 22 [.agg [ev,dv]] σ λr σ'=>∃x,atD (λb=>σ.aj<=b/\b<σ'.aj) σ'.h r g x/\ou g x 1/\Aq h.I7 (iE g) true x 1/\Ins.yX (n:=g.e.length) (g:=aZ g) (iE g) x/\Fr σ σ':=by
 refine aO (tu.o _ _) tu.h ?_
 unfold tu
 dsimp only
 obtain⟨_,hM0⟩:=(JV h).map h
 have hek:=hg.e.kn
 have hdk:=hg.d.kn
 have hFr:=Fr.refl hW
 simp(disch:=try exact jz) only[go_sem,z3,hek,hdk]
 refine aC.st (Fr σ) (fr) λhF=>?_
 refine(Md hF.wf (hg.fr hW hF) h.z h.bld (λi hi=>(h.m i hi).1) λd hd=>(h.d d hd).2.1).mono ?_
 rintro _ σ2 ⟨rfl,hf2⟩
 have hF2:=hF.trans hf2
 have q0:=hf2.get hF.wf (aA _ _ _)
 have q00:=hf2.get hF.wf ((au _ _ _ _ jb).trans (aA _ _ _))
 have hd0:decide ((0:Int)=Int.ofNat 0)=true:=rfl
 have hle2:σ.aj+1+1<=σ2.aj:=hf2.le
 simp(disch:=try exact jz) only[go_sem,z3,hek,hdk,hd0,ak q00,q00]
 refine(L6 hf2.wf g (hg.fr hW hF2) hM0.a h.bld).mono ?_
 rintro _ σ3 ⟨⟨sb,rfl,hS⟩,hf3⟩
 have hf3:=hf2.trans hf3
 have hF3:=hF.trans hf3
 simp(disch:=try exact jz) only[go_sem,z3]
 refine(ads hf3.wf hS h false).mono ?_
 rintro _ σ4 ⟨x,⟨xb,rfl,hx1,hx2,hx3⟩,hP,hI,hgt,hls,hf4⟩
 have nX:=hF3.trans hf4
 obtain⟨D,hMg⟩:=hP.mg h
 simp(disch:=try exact jz) only[go_sem,z3]
 refine(O4 hf4.wf (hS.fr hf4) hx1 hMg.A.s).mono ?_
 rintro _ σ5 ⟨hV,hf5⟩
 have gU:=nX.trans hf5
 have hle3:σ.aj+1+1<=σ3.aj:=hf3.le
 have uo:=hf4.le
 have wO:=hf5.le
 have Fa:=Fr.refl hf5.wf
 have q1:=(hf3.trans (hf4.trans hf5)).get hF.wf (aA _ _ _)
 obtain⟨cm,G,Dv,Rf,Nt,Su,Re,Fu,er,k1,k2,k3,k4,k5,k6,k7,k8⟩:=hV.kn8
 subst er
 simp(disch:=try exact jz) only[go_sem,z3,ak q1,aI q1,k1,k2,k3,k4,k5,k6,k7,k8]
 exact⟨x,⟨_,rfl,hV.keep (λb hb=>au _ _ _ _ jb) λb hb=>⟨jb,hb.2⟩⟩,hP,hI,hls rfl,fr⟩
def afK{σ:St}(hW:WF σ){p:Nat->Prop}{v:B}{n:Nat}{x:Nat->Rat}(hv:jc p σ.h v n x)(hx:∀i,i<n->0<=x i/\Sz (x i))(hn:n<=1000):
  aC EN 102 [.c v,.fn 48 []] σ λr σ'=>r=.c (.int .i64 (.negSucc 0))/\Fr σ σ':=by
 refine aO (cZ.o _ _) cZ.h ?_
 unfold cZ
 dsimp only
 have hlen:=aY.len hv
 have hc:=λ(args:List V) (σ:St) (K:V->St->Prop)=>iL (E:=EN) (K:=K) (mW.o args σ) mW.h
 unfold mW at hc
 dsimp only at hc
 simp(disch:=try exact jz) only[go_sem,z3,hlen]
 refine aF (λq tm σ'=>∃j,q=n-j/\j<=n/\Tr.ah tm 0=.c v/\Tr.ah tm 1=.fn 48 []/\Tr.ah tm 7=.c (.int .i64 (.ofNat n))/\Tr.ah tm 8=.c (.int .i64 (.ofNat j))/\Fr σ σ') n ?_ ?_
 .refine⟨0,jb,jb,?_⟩
  simp(disch:=try exact jz) only[go_sem,z3,am]
  exact Fr.refl hW
 .rintro q tm σ' ⟨j,rfl,hj,t0,t1,t7,t8,hf⟩
  simp(disch:=try exact jz) only[go_sem,z3,t0,t1,t7,t8,aG]
  refine aH (λhlt=>?_) (λhlt=>?_)
  .obtain⟨b,o,c,rfl,-,hld⟩:=aY.at3 hv hlt
   have hld:=hf.ld hW hld
   obtain⟨h1,h2⟩:=hx j hlt
   have h2':=h2.two
   have hsg:=ac1 h1
   have jm:=Fr.refl hf.wf
   simp(disch:=try exact jz) only[go_sem,z3,t0,t1,t7,t8,hld,hc,hsg]
   exact⟨n-(j+1),jb,j+1,rfl,jb,rfl,fr⟩
  .have:j=n:=jb
   subst this
   simp(disch:=try exact jz) only[go_sem,z3,t0]
   exact hf
def akD{σ:St}(hW:WF σ){v:B}{n:Nat}{x:Nat->Int}(hv:HL σ.h 1 v n λa=>[.int .i64 (x a)])(hn:n<=1000)(hx:∀i,i<n->x i=Int.negSucc 0\/∃j:Nat,j<n/\x i=Int.ofNat j){nb:Nat}(hb:σ.h nb=some ⟨[.int .i64 (.ofNat n)],none⟩):
  aC EN 82 [.c v,.fn 50 [.ptr nb 0]] σ λr σ'=>r=.c (.int .i64 (.negSucc 0))/\Fr σ σ':=by
 refine aO (bJ.o _ _) bJ.h ?_
 unfold bJ
 dsimp only
 have hlen:=hv.len
 have hc:=λ(args:List V) (σ:St) (K:V->St->Prop)=>iL (E:=EN) (K:=K) (mX.o args σ) mX.h
 unfold mX at hc
 dsimp only at hc
 simp(disch:=try exact jz) only[go_sem,z3,hlen]
 refine aF (λq tm σ'=>∃j,q=n-j/\j<=n/\Tr.ah tm 0=.c v/\Tr.ah tm 1=.fn 50 [.ptr nb 0]/\Tr.ah tm 7=.c (.int .i64 (.ofNat n))/\Tr.ah tm 8=.c (.int .i64 (.ofNat j))/\Fr σ σ') n ?_ ?_
 .refine⟨0,jb,jb,?_⟩
  simp(disch:=try exact jz) only[go_sem,z3,am]
  exact Fr.refl hW
 .rintro q tm σ' ⟨j,rfl,hj,t0,t1,t7,t8,hf⟩
  simp(disch:=try exact jz) only[go_sem,z3,t0,t1,t7,t8,aG]
  refine aH (λhlt=>?_) (λhlt=>?_)
  .obtain⟨b,o,c,rfl,hld⟩:=hv.one jb
   have hld:=hf.ld hW (hld j hlt)
   have hb':=hf.get hW hb
   have jm:=Fr.refl hf.wf
   rcases hx j hlt with e|⟨k,hk,e⟩
   .rw[e]at hld
    have d1:decide (Int.negSucc 0<Int.negSucc 0)=false:=rfl
    have d2:decide (Int.ofNat n<=Int.negSucc 0)=false:=az λh=>by have:=Int.le_trans (gp n) h;exact absurd this jj
    simp(disch:=try exact jz) only[go_sem,z3,t0,t1,t7,t8,hld,hc,ak hb',d1,d2]
    exact⟨n-(j+1),jb,j+1,rfl,jb,rfl,fr⟩
   .rw[e]at hld
    have d1:decide (Int.ofNat k<Int.negSucc 0)=false:=az λh=>by have:=Int.lt_of_le_of_lt (gp k) h;exact absurd this jj
    have d2:decide (Int.ofNat n<=Int.ofNat k)=false:=az λh=>by have:=Int.ofNat_le.mp h;omega
    simp(disch:=try exact jz) only[go_sem,z3,t0,t1,t7,t8,hld,hc,ak hb',d1,d2]
    exact⟨n-(j+1),jb,j+1,rfl,jb,rfl,fr⟩
  .have:j=n:=jb
   subst this
   simp(disch:=try exact jz) only[go_sem,z3,t0]
   exact hf
def atE(p:Rat):decide (sg p=Int.ofNat 0)=decide (p=0):=by
 rw[fW];rcases nM p with⟨e,h⟩|⟨e,h⟩|⟨e,h⟩
 .rw[e];exact⟨λh2=>(by cases h2),λh2=>by grind⟩
 .exact⟨λ_=>h,λ_=>e⟩
 .rw[e];exact⟨λh2=>(by cases h2),λh2=>by grind⟩
def akE(p q:Rat):decide (oQ p q=Int.ofNat 0)=decide (p=q):=by unfold oQ;rw[atE,fW];exact⟨λ_=>by grind,λ_=>by grind⟩
structure CkA(g:gB)(y:Nat->Rat)(x:Nat->Int)(k:Nat):Prop where
 fx:(∃i,i<g.e.length/\¬JK g y i=y i)->k=22
 ex:(∀i,i<g.e.length->JK g y i=y i)->¬ExC g.e.length (gM g.e.length (aZ g) y) x->k=23
 ok:(∀i,i<g.e.length->JK g y i=y i)->ExC g.e.length (gM g.e.length (aZ g) y) x->k=0
def Kv{σ:St}(hW:WF σ){p p':Nat->Prop}{ev dv mv xv:B}{g:gB}(hg:uS p σ.h ev dv g)(h:kG g){y:Nat->Rat}(hy:jc p' σ.h mv g.e.length y){D:Nat}(hM:anP 60 D g y){x:Nat->Int}(hv:HL σ.h 1 xv g.e.length λa=>[.int .i64 (x a)])(hx:∀i,i<g.e.length->x i=Int.negSucc 0\/∃j:Nat,j<g.e.length/\x i=Int.ofNat j):
  aC EN 15 [.agg [ev,dv],.agg [mv,xv]] σ λr σ'=>(∃k:Nat,r=.c (.int .i64 (.ofNat k))/\CkA g y x k)/\Fr σ σ':=by
 refine aO (oI.o _ _) oI.h ?_
 unfold oI
 dsimp only
 have hek:=hg.e.kn
 have hdk:=hg.d.kn
 have hel:=hg.e.len
 have hmk:=aY.kn hy
 have hxk:=hv.kn
 have hlm:=aY.len hy
 have hlx:=hv.len
 have hn8:=h.n
 have hFr:=Fr.refl hW
 have hy0:∀i,i<g.e.length->0<=y i/\Sz (y i):=hM.M.x
 obtain⟨m1,m2,m3⟩:=h.mz λi hi=>(hy0 i hi).1
 have hcf:=λ(args:List V) (σ:St) (K:V->St->Prop)=>iL (E:=EN) (K:=K) (bI.o args σ) bI.h
 unfold bI at hcf
 dsimp only at hcf
 have hci:=λ(args:List V) (σ:St) (K:V->St->Prop)=>iL (E:=EN) (K:=K) (dO.o args σ) dO.h
 unfold dO at hci
 dsimp only at hci
 simp(disch:=try exact jz) only[go_sem,z3,hek,hdk,hmk,hxk]
 refine aC.st (Fr σ) (fr) λhF=>?_
 refine(Md hF.wf (hg.fr hW hF) h.z h.bld (λi hi=>(h.m i hi).1) λd hd=>(h.d d hd).2.1).mono ?_
 rintro _ σ2 ⟨rfl,hf2⟩
 have hF2:=hF.trans hf2
 have q2:=hf2.get hF.wf ((au _ _ _ _ jb).trans (aA _ _ _))
 have q3:=hf2.get hF.wf (aA _ _ _)
 have hd0:decide ((0:Int)=Int.ofNat 0)=true:=rfl
 have hle2:σ.aj+1+1<=σ2.aj:=hf2.le
 have KN:=Fr.refl hf2.wf
 simp(disch:=try exact jz) only[go_sem,z3,hek,hdk,hel,hmk,hxk,hlm,hlx,hd0,ak q2,q2,ak q3,q3,hcf]
 refine aC.st (Fr σ2) (fr) λhF3=>?_
 have JH:=hF2.trans hF3
 refine(afK hF3.wf (aY.fr hW JH hy) hy0 jb).mono ?_
 rintro _ σ4 ⟨rfl,hf4⟩
 have aa5:=JH.trans hf4
 have q24:=(hF3.trans hf4).get hf2.wf q2
 have q34:=(hF3.trans hf4).get hf2.wf q3
 have q64:=hf4.get hF3.wf (aA _ _ _)
 have Cc:=Fr.refl hf4.wf
 simp(disch:=try exact jz) only[go_sem,z3,DY,ak q34,q34,hxk,hmk,hci]
 refine(akD hf4.wf (hv.fr hW aa5) jb hx q64).mono ?_
 rintro _ σ5 ⟨rfl,hf5⟩
 have Pm:=aa5.trans hf5
 have q25:=hf5.get hf4.wf q24
 have q35:=hf5.get hf4.wf q34
 simp(disch:=try exact jz) only[go_sem,z3,DY,ak q25,q25,ak q35,q35,hek,hdk,hxk,hmk]
 refine(awe hf5.wf (hg.fr hW Pm) (aY.fr hW Pm hy) hM.M).mono ?_
 rintro _ σ6 ⟨⟨ib,rfl,hib,azZ,ayR⟩,iw⟩
 have axe:=Pm.trans iw
 have q26:=iw.get hf5.wf q25
 have q36:=iw.get hf5.wf q35
 have hz:∀i,i<g.e.length->Sz (JK g y i):=λi hi=>(anK hM.M hi).sz hM.M.N.s.hD (by have:=Vo;omega)
 have him:jc (Lt σ6.aj) σ6.h (.sl ib 0 g.e.length (.ex g.e.length)) g.e.length (JK g y):=bf (G:=λc=>gy (JK g y c)) _ hib rfl ayR (λ_=>rfl) jj λ_ _=>rfl
 have hy6:=aY.fr hW axe hy
 have hl6:σ.aj+1+1<=σ6.aj:=by have:=(hF3.trans (hf4.trans (hf5.trans iw))).le;omega
 simp(disch:=try exact jz) only[go_sem,z3]
 refine aF (λq tm σ'=>∃j,q=g.e.length-j/\j<=g.e.length/\Tr.ah tm 2=.c (.ptr σ.aj 0)/\Tr.ah tm 3=.c (.ptr (σ.aj+1) 0)/\Tr.ah tm 52=.c (.sl ib 0 g.e.length (.ex g.e.length))/\Tr.ah tm 53=.c (.int .i64 (.ofNat g.e.length))/\Tr.ah tm 54=.c (.int .i64 (.ofNat j))
  /\(∀i,i<j->JK g y i=y i)/\Fr σ6 σ') g.e.length ?_ ?_
 .refine⟨0,jb,jb,?_⟩
  simp(disch:=try exact jz) only[go_sem,z3,am]
  exact⟨λi hi=>absurd hi jb,Fr.refl iw.wf⟩
 .rintro q tm σ7 ⟨j,rfl,hj,t2,t3,t52,t53,t54,hfx,oC⟩
  have atF:=axe.trans oC
  have ai8:=oC.le
  have q27:=oC.get iw.wf q26
  have q37:=oC.get iw.wf q36
  have az0:=Fr.refl oC.wf
  simp(disch:=try exact jz) only[go_sem,z3,t2,t3,t52,t53,t54,aG]
  refine aH (λhlt=>?_) (λhlt=>?_)
  .obtain⟨b5,o5,c5,e5,-,bP⟩:=aY.at3 him hlt
   cases e5
   obtain⟨b6,o6,c6,rfl,-,bH⟩:=aY.at3 hy6 hlt
   have bP:=oC.ld iw.wf bP
   rw[cP]at bP
   have bH:=oC.ld iw.wf bH
   have l6:=oC.wf.dF bH
   have z1:=hz j hlt
   have z2:=(hy0 j hlt).2
   by_cases he:JK g y j=y j
   .have hd:decide (JK g y j=y j)=true:=bh he
    simp(disch:=try exact jz) only[go_sem,z3,t2,t3,t52,t53,t54,bP,bH,ak q37,q37,hxk,hmk,akE,hd]
    refine⟨g.e.length-(j+1),jb,j+1,rfl,jb,rfl,λi hi=>?_,fr⟩
    rcases cE.mp hi with h|rfl
    .exact hfx i h
    .exact he
   .have hd:decide (JK g y j=y j)=false:=az he
    simp(disch:=try exact jz) only[go_sem,z3,t2,t3,t52,t53,t54,bP,bH,ak q37,q37,hxk,hmk,akE,hd]
    exact⟨⟨22,rfl,⟨λ_=>rfl,λh1=>absurd (h1 j hlt) he,λh1=>absurd (h1 j hlt) he⟩⟩,by have hW0:=hW;exact fr⟩
  .have:j=g.e.length:=jb
   subst this
   simp(disch:=try exact jz) only[go_sem,z3,t2,t3,ak q27,q27,ak q37,q37,hek,hdk,hxk,hmk]
   refine(Pz oC.wf (hg.fr hW atF) (aY.fr hW atF hy) hM).mono ?_
   rintro _ σ8 ⟨⟨mb,bs,hi,rfl,hm1,hm2,JM⟩,oP⟩
   have axf:=atF.trans oP
   have q38:=oP.get oC.wf q37
   have apC:=JM.b
   have apD:=JM.l
   have hMr:=JM.hr (p:=Lt σ8.aj) λb hb=>by show b<σ8.aj;omega
   have hMk:=hMr.kn
   have hv8:=hv.fr hW axf
   simp(disch:=try exact jz) only[go_sem,z3,t3,ak q38,q38,hxk,hmk,hlx]
   refine aF (λq tm σ'=>∃j,q=g.e.length-j/\j<=g.e.length/\Tr.ah tm 3=.c (.ptr (σ.aj+1) 0)/\Tr.ah tm 11=.c (.sl mb 0 g.e.length (.ex g.e.length))/\Tr.ah tm 76=.c xv/\Tr.ah tm 77=.c (.int .i64 (.ofNat g.e.length))/\Tr.ah tm 78=.c (.int .i64 (.ofNat j))
    /\(∀i,i<j->((x i=-1/\iR g.e.length (gM g.e.length (aZ g) y) i)\/(∃j:Nat,j<g.e.length/\x i=(j:Int)/\gM g.e.length (aZ g) y j i≠0))/\endW x g.e.length i=true)/\Fr σ8 σ') g.e.length ?_ ?_
   .refine⟨0,jb,jb,?_⟩
    simp(disch:=try exact jz) only[go_sem,z3,t3,am]
    exact⟨λi hi=>absurd hi jb,Fr.refl oP.wf⟩
   .rintro q tm σ9 ⟨j,rfl,hj,t3,t11,t76,t77,t78,hex,KI⟩
    have akF:=axf.trans KI
    have q39:=KI.get oP.wf q38
    have ase:=Fr.refl KI.wf
    simp(disch:=try exact jz) only[go_sem,z3,t3,t11,t76,t77,t78,aG]
    refine aH (λhlt=>?_) (λhlt=>?_)
    .have no:∀k:Nat,(¬(((x j=-1/\iR g.e.length (gM g.e.length (aZ g) y) j)\/(∃j':Nat,j'<g.e.length/\x j=(j':Int)/\gM g.e.length (aZ g) y j' j≠0))/\endW x g.e.length j=true))->CkA g y x 23:=λ_ hn=>⟨λ⟨i,hi,he⟩=>absurd (hfx i hi) he,λ_ _=>rfl,λ_ h2=>absurd (h2 j hlt) hn⟩
     obtain⟨b,o,c,exv,hld⟩:=hv8.one jb
     have hld:=KI.ld oP.wf (hld j hlt)
     have QA:=t76
     rw[exv]at QA
     have hvl:lenV (.c xv)=some (.c (.int .i64 (.ofNat g.e.length))):=hlx
     have ends:∀{σ':St},Fr σ9 σ'->aC EN 53 [.c xv,.c (.int .i64 (.ofNat j))] σ' λr KD=>r=.c (.bool (endW x g.e.length j))/\Fr σ' KD:=λhf'=>ata hf'.wf (hv.fr hW (akF.trans hf')) jb hx hlt
     rcases hx j hlt with e|⟨k,hk,e⟩
     .rw[e]at hld
      have hd1:decide (Int.negSucc 0=Int.negSucc 0)=true:=rfl
      simp(disch:=try exact jz) only[go_sem,z3,t3,t11,QA,t77,t78,hld,hd1]
      refine(YI KI.wf (hMr.fr oP.wf KI) jb hlt (λk hk=>m3 _ k hlt hk) λj' hj'=>m1 j' _ hj' hlt).mono ?_
      rintro _ σA ⟨rfl,hfA⟩
      have q3A:=hfA.get KI.wf q39
      by_cases hL:iR g.e.length (gM g.e.length (aZ g) y) j
      .have hd2:decide (aB g.e.length (λj'=>gM g.e.length (aZ g) y j' j)<1)=true:=bh (p:=iR _ _ _) hL
       simp(disch:=try exact jz) only[go_sem,z3,t3,t11,QA,t77,t78,hd1,hd2,ak q3A,q3A,hxk,hmk]
       refine(ends hfA).mono ?_
       rintro _ σB ⟨rfl,hfB⟩
       cases hE:endW x g.e.length j with
       |true=>
        simp(disch:=try exact jz) only[go_sem,z3,t3,t11,QA,t77,t78]
        refine⟨g.e.length-(j+1),jb,j+1,rfl,jb,by rw[exv],rfl,λi hi=>?_,KI.trans (hfA.trans hfB)⟩
        rcases cE.mp hi with h|rfl
        .exact hex i h
        .exact⟨.inl ⟨e,hL⟩,hE⟩
       |false=>
        simp(disch:=try exact jz) only[go_sem,z3,t3,t11,QA,t77,t78]
        exact⟨⟨23,rfl,no 0 λh=>by rw[hE]at h;cases h.2⟩,akF.trans (hfA.trans hfB)⟩
      .have hd2:decide (aB g.e.length (λj'=>gM g.e.length (aZ g) y j' j)<1)=false:=az (p:=iR _ _ _) hL
       simp(disch:=try exact jz) only[go_sem,z3,t3,t11,QA,t77,t78,hd1,hd2]
       exact⟨⟨23,rfl,no 0 λh=>by
        rcases h.1 with h|⟨j',h1,h2,-⟩
        .exact hL h.2
        .rw[e]at h2;cases h2⟩,akF.trans hfA⟩
     .rw[e]at hld
      have hd1:decide (Int.ofNat k=Int.negSucc 0)=false:=rfl
      obtain⟨b6,o6,c6,T,e6,-,bH,hT⟩:=hMr.at hk
      cases e6
      obtain⟨b7,o7,c7,rfl,-,dw⟩:=aY.at3 hT hlt
      have bH:=KI.ld oP.wf bH
      rw[cP]at bH
      have dw:=KI.ld oP.wf dw
      have z1:=m1 k j hk hlt
      by_cases hM0:gM g.e.length (aZ g) y k j=0
      .have hd2:decide (gM g.e.length (aZ g) y k j=0)=true:=bh hM0
       simp(disch:=try exact jz) only[go_sem,z3,t3,t11,QA,t77,t78,hld,hd1,bH,dw,atE,hd2]
       exact⟨⟨23,rfl,no 0 λh=>by
        rcases h.1 with h|⟨j',h1,h2,h3⟩
        .rw[e]at h;cases h.1
        .rw[e]at h2;have:=Int.ofNat.inj h2;subst this;exact h3 hM0⟩,by have hW0:=hW;exact fr⟩
      .have hd2:decide (gM g.e.length (aZ g) y k j=0)=false:=az hM0
       simp(disch:=try exact jz) only[go_sem,z3,t3,t11,QA,t77,t78,hld,hd1,bH,dw,atE,hd2,ak q39,q39,hxk,hmk]
       refine(ends (fr)).mono ?_
       rintro _ σB ⟨rfl,hfB⟩
       cases hE:endW x g.e.length j with
       |true=>
        simp(disch:=try exact jz) only[go_sem,z3,t3,t11,QA,t77,t78]
        refine⟨g.e.length-(j+1),jb,j+1,rfl,jb,by rw[exv],rfl,λi hi=>?_,KI.trans hfB⟩
        rcases cE.mp hi with h|rfl
        .exact hex i h
        .exact⟨.inr ⟨k,hk,e,hM0⟩,hE⟩
       |false=>
        simp(disch:=try exact jz) only[go_sem,z3,t3,t11,QA,t77,t78]
        exact⟨⟨23,rfl,no 0 λh=>by rw[hE]at h;cases h.2⟩,akF.trans hfB⟩
    .have:j=g.e.length:=jb
     subst this
     simp(disch:=try exact jz) only[go_sem,z3,am]
     exact⟨⟨0,rfl,⟨λ⟨i,hi,he⟩=>absurd (hfx i hi) he,λ_ h2=>absurd hex h2,λ_ _=>rfl⟩⟩,akF⟩
end Go.Proofs.Xe
