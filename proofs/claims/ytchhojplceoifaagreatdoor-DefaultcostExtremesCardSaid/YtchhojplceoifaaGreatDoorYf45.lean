import Derived.Test.YtchhojplceoifaaGreatDoorYf44
set_option linter.all false
set_option maxRecDepth 100000
set_option maxHeartbeats 8000000
namespace Go.Proofs.Xe
open Go.RowKit Go.Proofs.Ins
def KI(i k:Nat):Bool:=if k<i then true else false
def ZQ{n i:Nat}:ones n (aN (λk=>B.bool (KI i k)) i (.bool true))=ones n λk=>.bool (KI (i+1) k):=cO λk _=>by grind[aN,KI]
def aek(a b:Rat):decide (Int.ofNat 0<pI a b)=decide (b<a):=by grind[pI,qp]
def apA{σ:St}(hW:WF σ){sb:Nat}{g:fC}(hs:FV (Lt σ.aj) σ.h sb g)(h:jJ g)(gr:Bool):
  aC EN 45 [.c (.ptr sb 0),.c (.bool gr)] σ λr σ'=>∃x,Y9 σ σ' r g.e.length x/\uZ g x 1/\Ew h.NG (jq g) (!gr) x 1/\(gr=true->RS (n:=g.e.length) (g:=bI g) (jq g) x/\∀S:Nat->Prop,(∃i,i<g.e.length/\S i)->¬Ins.Shut g.e.length (gM g.e.length (bI g) x) S)/\(gr=false->Ins.Ar (n:=g.e.length) (g:=bI g) (jq g) x)/\Fr σ σ':=by
 refine aO (lX.o _ _) lX.h ?_
 unfold lX
 dsimp only
 have hn8:=h.n
 have hs0:=hs
 obtain⟨⟨ev,gv,lv,bv,hsb,hg,⟨R,P,hL1,hL2⟩,hB⟩,hsl⟩:=hs
 have hsl:sb<σ.aj:=hsl
 have hlk:=hL1.kn
 have hll:=hL1.len
 have hFr:=Fr.refl hW
 have z1:=sz1
 simp(disch:=try exact jz) only[go_sem,au hsb,hll,hlk]
 refine aF (λq tm σ'=>∃x t xb,q=meas g x t/\Tr.ah tm 0=.c (.ptr sb 0)/\Tr.ah tm 1=.c (.bool gr)/\Tr.ah tm 5=jN g.e.length/\Tr.ah tm 6=.c (.sl xb 0 g.e.length (.ex g.e.length))/\Tr.ah tm 7=.c (.ptr (σ.aj+1) 0)/\Tr.ah tm 8=.c (.ptr (σ.aj+1+1) 0)
   /\σ'.h xb=some ⟨cZ g.e.length x,none⟩/\σ.aj<=xb/\σ'.h (σ.aj+1)=some ⟨[.bool (rn t),.str (rs t),.str (rd t)],none⟩/\σ'.h (σ.aj+1+1)=some ⟨[.bool (rn 1),.str (rs 1),.str (rd 1)],none⟩/\Ew h.NG (jq g) (!gr) x t/\uZ g x t/\Fr σ σ'/\σ.aj+1+1+1<=σ'.aj) (meas g (λ_=>0) 0) ?_ ?_
 .refine⟨λ_=>0,0,σ.aj,rfl,?_⟩
  simp(disch:=try exact jz) only[go_sem,am]
  exact⟨jp,inv_start h.NG (jq g) (!gr),Us h,fr,jp⟩
 .rintro q tm σ' ⟨x,t,xb,rfl,t0,t1,t5,t6,t7,t8,q6,hxb,q7,q8,hI,hP,hf,hnx⟩
  have mJ:=Fr.refl hf.wf
  obtain⟨D,hMg⟩:=hP.mg h
  simp(disch:=try exact jz) only[go_sem,t0,t1,t5,t6,t7,t8]
  refine(aum hf.wf (hs0.fr hf) q6 hMg).mono ?_
  rintro _ σ1 ⟨⟨Dv,Sv,rfl,hDv,hSv⟩,hf1⟩
  have hF1:=hf.trans hf1
  have abL:=Fr.refl hf1.wf
  have k1:=hDv.kn
  have k2:=hSv.kn
  simp(disch:=try exact jz) only[go_sem,t0,t1,t5,t6,t7,t8,k1,k2]
  refine aC.st (Fr σ1) (fr) λhF=>?_
  have hF2:=hF1.trans hF
  refine(agu hF.wf (hs0.fr hF2) (hDv.fr hf1.wf hF) (hSv.fr hf1.wf hF) hMg).mono ?_
  rintro _ σ2 ⟨⟨mb,bs,hi,rfl,hm1,hm2,auS⟩,hf2⟩
  have hF3:=hF2.trans hf2
  have Zf:=Fr.refl hf2.wf
  simp(disch:=try exact jz) only[go_sem,t0,t1,t5,t6,t7,t8]
  refine bM.mono (Q:=λex tm σ3=>ex=.exit 2/\Tr.ah tm 0=.c (.ptr sb 0)/\Tr.ah tm 1=.c (.bool gr)/\Tr.ah tm 5=jN g.e.length/\Tr.ah tm 6=.c (.sl xb 0 g.e.length (.ex g.e.length))/\Tr.ah tm 7=.c (.ptr (σ.aj+1) 0)/\Tr.ah tm 8=.c (.ptr (σ.aj+1+1) 0)/\Tr.ah tm 9=.c (.ptr σ1.aj 0)/\Tr.ah tm 10=.c (.sl mb 0 g.e.length (.ex g.e.length))/\Tr.ah tm 11=.c (.sl σ2.aj 0 g.e.length (.ex g.e.length))
    /\σ3.h σ2.aj=some ⟨ones g.e.length λk=>.bool (KI g.e.length k),none⟩/\Fr σ2 σ3/\σ2.aj+1<=σ3.aj)
   (aF (λq tm σ3=>∃i,q=g.e.length-i/\i<=g.e.length/\Tr.ah tm 0=.c (.ptr sb 0)/\Tr.ah tm 1=.c (.bool gr)/\Tr.ah tm 5=jN g.e.length/\Tr.ah tm 6=.c (.sl xb 0 g.e.length (.ex g.e.length))/\Tr.ah tm 7=.c (.ptr (σ.aj+1) 0)/\Tr.ah tm 8=.c (.ptr (σ.aj+1+1) 0)/\Tr.ah tm 9=.c (.ptr σ1.aj 0)/\Tr.ah tm 10=.c (.sl mb 0 g.e.length (.ex g.e.length))/\Tr.ah tm 11=.c (.sl σ2.aj 0 g.e.length (.ex g.e.length))/\Tr.ah tm 36=jN g.e.length/\Tr.ah tm 37=jN i
    /\σ3.h σ2.aj=some ⟨ones g.e.length λk=>.bool (KI i k),none⟩/\Fr σ2 σ3/\σ2.aj+1<=σ3.aj) g.e.length ?_ ?_) ?_
  .refine⟨0,jb,jb,?_⟩
   simp(disch:=try exact jz) only[go_sem,t0,t1,t5,t6,t7,t8,am]
   exact⟨bO (λl=>some (Bk.mk l none)) (cO λk _=>by unfold KI;rw[ab jb]),fr,jp⟩
  .rintro q tm3 σ3 ⟨i,rfl,hi1,t0,t1,t5,t6,t7,t8,t9,t10,t11,t36,t37,q11,hf3,hn3⟩
   have akd:=Fr.refl hf3.wf
   have aBN:=hf3.wf.lt q11
   simp(disch:=try exact jz) only[go_sem,t0,t1,t5,t6,t7,t8,t9,t10,t11,t36,t37,aG]
   refine aH (λhlt=>?_) (λhlt=>?_)
   .have hst:=ZQ (n:=g.e.length) (i:=i)
    simp(disch:=try exact jz) only[go_sem,t0,t1,t5,t6,t7,t8,t9,t10,t11,t36,t37,q11,aI q11,hst]
    exact⟨g.e.length-(i+1),jb,i+1,rfl,jb,rfl,rfl,fr,jb⟩
   .have:i=g.e.length:=jb
    subst this
    simp(disch:=try exact jz) only[go_sem,am]
    exact⟨t0,t1,t5,t6,t7,t8,t9,t10,t11,q11,hf3,hn3⟩
  .rintro _ tm3 σ3 ⟨rfl,t0,t1,t5,t6,t7,t8,t9,t10,t11,q11,hf3,hn3⟩
   have jr:=hF3.trans hf3
   have hle3:=hf3.le
   have hle':=hf.le
   have ZR:=hF.trans (hf2.trans hf3)
   have q63:=(hf1.trans ZR).get hf.wf q6
   have q73:=(hf1.trans ZR).get hf.wf q7
   have q83:=(hf1.trans ZR).get hf.wf q8
   have q93:σ3.h σ1.aj=some ⟨[Dv,Sv],none⟩:=(hf2.trans hf3).get hF.wf (aA _ _ _)
   have hxl:=hf.wf.lt q6
   have aAu:=hf1.trans ZR
   have aAT:=aAu.le
   have aAU:=auS.b
   have aAV:=auS.l
   have hM3:dQ (Lt σ3.aj) σ3.h (.sl mb 0 g.e.length (.ex g.e.length)) g.e.length (λ_=>g.e.length) (gM g.e.length (bI g) x):=((auS.hr (p:=Lt σ2.aj) λb hb=>by show b<σ2.aj;omega).fr hf2.wf hf3).keep (λ_ _=>rfl) λb hb=>aM hb hle3
   obtain⟨m1,m2,m3⟩:=h.mz hI.nn
   have hsub:=h.sub hI.nn
   have m0:∀j i,j<g.e.length->i<g.e.length->0<=gM g.e.length (bI g) x j i:=λj i hj hi=>hsub.nn j i hj hi
   have hcn:∀j,j<g.e.length->0<=jq g j:=λj hj=>(h.m j hj).2.2.1
   obtain⟨zx,zt,zt1⟩:=hP.sz hI.t0 hI.t1
   by_cases hret:gr=false/\t=1
   .obtain⟨rfl,rfl⟩:=hret
    simp(disch:=try exact jz) only[go_sem,t0,t1,t5,t6,t7,t8,t9,t10,t11,au q73,au q83,gn]
    exact⟨x,⟨xb,rfl,q63,hxb,jb⟩,hP,hI,(λe=>by cases e),λ_=>auw h.NG (jq g) hI,jr⟩
   .have akd:=Fr.refl hf3.wf
    refine(show bM EN (.seq _ _) _ _ _ from xI (λtm σ4=>∃(ov:B) (of:Nat->Bool),Tr.ah tm 0=.c (.ptr sb 0)/\Tr.ah tm 1=.c (.bool gr)/\Tr.ah tm 5=jN g.e.length/\Tr.ah tm 6=.c (.sl xb 0 g.e.length (.ex g.e.length))/\Tr.ah tm 7=.c (.ptr (σ.aj+1) 0)/\Tr.ah tm 8=.c (.ptr (σ.aj+1+1) 0)/\Tr.ah tm 9=.c (.ptr σ1.aj 0)/\Tr.ah tm 10=.c (.sl mb 0 g.e.length (.ex g.e.length))/\Tr.ah tm 11=.c ov
     /\HL σ4.h 1 ov g.e.length (λi=>[.bool (of i)])/\(∀i j,i<g.e.length->j<g.e.length->of i=true->gM g.e.length (bI g) x j i≠0->of j=true)/\(∀i,i<g.e.length->0<jq g i->of i=true)/\(gr=true->∀i,i<g.e.length->of i=true)/\(gr=false->t≠1/\∀i,i<g.e.length->of i=true->WC g.e.length (gM g.e.length (bI g) x) (λk=>auz g k=true) i)/\Fr σ3 σ4) ?_ ?_)
    .cases gr with
     |true=>
      simp(disch:=try exact jz) only[go_sem,t0,t1,t5,t6,t7,t8,t9,t10,t11]
      have htr:∀i,i<g.e.length->KI g.e.length i=true:=λi hi=>by unfold KI;rw[ae hi]
      exact⟨_,KI g.e.length,rfl,ab6 q11 rfl,λ_ j _ hj _ _=>htr j hj,λi hi _=>htr i hi,λ_=>htr,(λe=>by cases e),Fr.refl hf3.wf⟩
     |false=>
      have ht1:decide (t=1)=false:=az λe=>hret ⟨rfl,e⟩
      simp(disch:=try exact jz) only[go_sem,t0,t1,t5,t6,t7,t8,t9,t10,t11,au q73,au q83,ht1]
      refine(alc hf3.wf (hs0.fr jr) jb λi hi=>(h.m i hi).1).mono ?_
      rintro _ σ4 ⟨⟨b4,rfl,hb4,-,-⟩,hf4⟩
      simp(disch:=try exact jz) only[go_sem,t0,t1,t5,t6,t7,t8,t9,t10,t11]
      refine(ad5 hf4.wf (hM3.fr hf3.wf hf4) jb m1 m0 hb4).mono ?_
      rintro _ σ5 ⟨⟨b5,c5,o5,of,rfl,hb5,aAv,an3,hof⟩,hf5⟩
      simp(disch:=try exact jz) only[go_sem,t0,t1,t5,t6,t7,t8,t9,t10,t11]
      exact⟨_,of,rfl,ab6 hb5 aAv,λi j hi hj h1 h2=>(hof j hj).mpr (.step ((hof i hi).mp h1) hj h2),λi hi hc=>(hof i hi).mpr (.base (be hc) hi),(λe=>by cases e),λ_=>⟨λe=>hret ⟨rfl,e⟩,λi hi h1=>(hof i hi).mp h1⟩,hf4.trans hf5⟩
    .rintro tm4 σ4 ⟨ov,of,t0,t1,t5,t6,t7,t8,t9,t10,t11,hov,auT,aAw,ayD,auU,hf4⟩
     simp(disch:=try exact jz) only[go_sem,t0,t1,t5,t6,t7,t8,t9,t10,t11]
     refine(ak7 hf4.wf (hM3.fr hf3.wf hf4) jb m3 m1 m0 hov).mono ?_
     rintro _ σ5 ⟨⟨cv,rfl,hB⟩,hf5⟩
     have gy:=hf4.trans hf5
     have RJ:=jr.trans gy
     have q65:=gy.get hf3.wf q63
     have q75:=gy.get hf3.wf q73
     have q85:=gy.get hf3.wf q83
     have q95:=gy.get hf3.wf q93
     have uU:=gy.le
     have Hl:=Fr.refl hf5.wf
     have hD5:dQ (λ_=>True) σ5.h Dv g.e.length (kE g.e) (Ns g x):=(hDv.fr hf1.wf (ZR.trans gy)).keep (λ_ _=>rfl) λ_ _=>trivial
     have hS5:dQ (λ_=>True) σ5.h Sv g.e.length (kE g.e) (LX g x):=(hSv.fr hf1.wf (ZR.trans gy)).keep (λ_ _=>rfl) λ_ _=>trivial
     rcases hB with⟨rfl,hnone⟩|⟨i0,hi0,ayE,ao8,hmin,⟨cb,rfl⟩,hH⟩
     .have apB:∀S:Nat->Prop,(∃i,i<g.e.length/\S i)->(∀i,i<g.e.length->S i->of i=true)->¬Ins.Shut g.e.length (gM g.e.length (bI g) x) S:=ak1 (of:=λi=>of i=true) (R:=λk=>ug g.e.length (gM g.e.length (bI g) x) λi=>i=k) (λk _ _=>ND _ _ λi=>i=k) hnone
      by_cases ht1:t=1
      .subst ht1
       cases gr with
       |false=>exact absurd rfl (auU rfl).1
       |true=>
        simp(disch:=try exact jz) only[go_sem,t0,t1,t5,t6,t7,t8,t9,t10,t11,au q75,au q85,gn]
        exact⟨x,⟨xb,rfl,q65,hxb,jb⟩,hP,hI,(λ_=>⟨auv h.NG (jq g) hI λS hS=>apB S hS λi hi _=>ayD rfl i hi,λS hS=>apB S hS λi hi _=>ayD rfl i hi⟩),(λe=>by cases e),RJ⟩
      .have htd:decide (t=1)=false:=az ht1
       simp(disch:=try exact jz) only[go_sem,t0,t1,t5,t6,t7,t8,t9,t10,t11,au q75,au q85,htd]
       refine(ak6 hf5.wf (hov.fr hf4.wf hf5) jb).mono ?_
       rintro _ σ6 ⟨⟨lb,rfl,hN6⟩,gV⟩
       have kL:=RJ.trans gV
       have hlF:Zx σ6.h (aV (ig of g.e.length).length lb) (ig of g.e.length):=aX.hl (hN6.hlp jj (λ_ _=>rfl) (p:=λ_=>True) λ_ _ _=>trivial)
       have hmem:∀i,i∈ig of g.e.length↔i<g.e.length/\of i=true:=λi=>Bv _ _ _
       have hM6:=(hM3.fr hf3.wf (gy.trans gV))
       simp(disch:=try exact jz) only[go_sem,t0,t1,t5,t6,t7,t8,t9,t10,t11]
       refine(auR gV.wf (hs0.fr kL) h hI.nn hM6 hlF (Hu _ _) (λi hi=>((hmem i).mp hi).1) ?_ (λS hS hi=>apB S hS λi hi2 hSi=>((hmem i).mp (hi i hi2 hSi)).2) ?_).mono ?_
       .intro i hi j hj hjl
        by_cases e:gM g.e.length (bI g) x j i=0
        .exact e
        .exact absurd ((hmem j).mpr ⟨hj,auT i j ((hmem i).mp hi).1 hj ((hmem i).mp hi).2 e⟩) hjl
       .intro j hj hjl
        by_cases e:0<jq g j
        .exact absurd ((hmem j).mpr ⟨hj,aAw j hj e⟩) hjl
        .have:=hcn j hj;grind
       rintro _ σ7 ⟨v,⟨vb,rfl,hv1,hv2,hv3⟩,hvn,hvm,hvz,hvZ,pz⟩
       have WS:=gV.trans pz
       have um:=RJ.trans WS
       have q67:=WS.get hf5.wf q65
       have q77:=WS.get hf5.wf q75
       have q87:=WS.get hf5.wf q85
       have q97:=WS.get hf5.wf q95
       have aoM:=WS.le
       obtain⟨D2,hNr⟩:=hP.nr h hvn hvZ (gx Gs)
       have hxr:kJ (λ_=>True) σ7.h (.sl xb 0 g.e.length (.ex g.e.length)) g.e.length x:=bD (G:=λc=>dO (x c)) _ q67 rfl trivial (λ_=>rfl) jj λ_ _=>rfl
       have hvr:kJ (λ_=>True) σ7.h (.sl vb 0 g.e.length (.ex g.e.length)) g.e.length v:=bD (G:=λc=>dO (v c)) _ hv1 rfl trivial (λ_=>rfl) jj λ_ _=>rfl
       have k1:=hD5.kn
       have k2:=hS5.kn
       simp(disch:=try exact jz) only[go_sem,t0,t1,t5,t6,t7,t8,t9,t10,t11,au q97,k1,k2]
       refine(Uk pz.wf (hs0.fr um) hxr hvr ((hDv.fr hf1.wf (ZR.trans (gy.trans WS))).keep (λ_ _=>rfl) λ_ _=>trivial) ((hSv.fr hf1.wf (ZR.trans (gy.trans WS))).keep (λ_ _=>rfl) λ_ _=>trivial) hNr).mono ?_
       rintro _ σ8 ⟨rfl,oZ⟩
       have hD3:∀i,i<g.e.length->Hr ((bI g).e i) ((bI g).k i) (x i) (nO g x i):=λi hi=>(alv h hi (hI.nn i hi)).2
       have htl:t<1:=by have:=hI.t1;grind
       have key:∀w,0<=w->w<=1-t->(∀c∈kK g.e.length (bI g) (nO g x) x v,w<=c)->(w∈kK g.e.length (bI g) (nO g x) x v\/w=1-t)->Ew h.NG (jq g) (!gr) (bF x v w) (t+w)/\uZ g (bF x v w) (t+w)/\meas g (bF x v w) (t+w)<meas g x t:=λw w0 w1 wc hw=>by
        obtain⟨a1,a2,a3⟩:=ak3 h.NG (jq g) hcn hI hD3 hvn hvm (λS hS hi=>apB S hS λi hi2 hSi=>by
         by_cases e:i∈ig of g.e.length
         .exact((hmem i).mp e).2
         .have h1:=hi i hi2 hSi;rw[hvz i e]at h1;exact absurd h1 jj) htl w0 w1 wc
        by_cases hwc:w∈kK g.e.length (bI g) (nO g x) x v
        .have hm:=a3 hwc;have hms:meas g (bF x v w) (t+w)<meas g x t:=by unfold meas;rw[ab ht1];split<;>omega
         exact⟨a1,(hP.akT h hvn hvZ (gx Gs) hwc (.inr rfl) a1 hms).1,hms⟩
        .have e:=hw.resolve_left hwc;subst e;have e1:t+(1-t)=1:=by grind
         rw[e1]at a1⊢;have hms:meas g (bF x v (1-t)) 1<meas g x t:=by unfold meas;rw[ab ht1,ae rfl];omega
         exact⟨a1,hP.last h hvZ (gx Gs) ht1 a1 a2,hms⟩
       have zw:∀w,(w∈kK g.e.length (bI g) (nO g x) x v\/w=1-t)->Sz w/\∀i,i<g.e.length->Sz (v i)/\Sz (w*v i):=λw hw=>hP.ayx h hvn hvZ (gx Gs) hI.t0 hI.t1 hw
       have agV:=WS.trans oZ
       have Na:=RJ.trans agV
       have q78:=agV.get hf5.wf q75
       have q88:=agV.get hf5.wf q85
       have agt:=oZ.le
       have aAW:=Na.le
       have az7:=Fr.refl oZ.wf
       rcases WE (kK g.e.length (bI g) (nO g x) x v)with⟨e,en⟩|⟨u,en,hum,hul⟩
       .rw[en]
        have i0:(none:Option Rat).isSome=false:=rfl
        simp(disch:=try exact jz) only[go_sem,t0,t1,t5,t6,t7,t8,t9,t10,t11,au q78,au q88,i0]
        refine aC.st (Fr σ8) (fr) λEo=>?_
        obtain⟨kI,kP,km⟩:=key (1-t) kd aY (by rw[e];intro c hc;cases hc) (.inr rfl)
        obtain⟨z2,z3⟩:=zw (1-t) (.inr rfl)
        have hx9:=(agV.trans Eo).get hf5.wf q65
        have hv9:=(oZ.trans Eo).get pz.wf hv1
        have hxr:kJ (λ_=>True) _ (.sl xb 0 g.e.length (.ex g.e.length)) g.e.length x:=bD (G:=λc=>dO (x c)) _ hx9 rfl trivial (λ_=>rfl) jj λ_ _=>rfl
        have hvr:kJ (λ_=>True) _ (.sl vb 0 g.e.length (.ex g.e.length)) g.e.length v:=bD (G:=λc=>dO (v c)) _ hv9 rfl trivial (λ_=>rfl) jj λ_ _=>rfl
        refine(NC Eo.wf hxr hvr jb z2 zx (λi hi=>(z3 i hi).1) (λi hi=>(z3 i hi).2) (kP.sz kI.t0 kI.t1).1).mono ?_
        rintro _ σA ⟨⟨rb,rfl,hr1,hr2,hr3⟩,hfA⟩
        have q7A:=(Eo.trans hfA).get oZ.wf q78
        have q8A:=(Eo.trans hfA).get oZ.wf q88
        have alH:σA.h σ8.aj=some ⟨[.bool (rn (1-t)),.str (rs (1-t)),.str (rd (1-t))],none⟩:=hfA.get Eo.wf (aA _ _ _)
        have hFA:=Na.trans (Eo.trans hfA)
        have ayF:=hfA.le
        have hr2:σ8.aj+1+1<=rb:=hr2
        have ayG:=Fr.refl hfA.wf
        simp(disch:=try exact jz) only[go_sem,t0,t1,t5,t6,t7,t8,t9,t10,t11,au q7A,au alH,aI q7A]
        exact⟨meas g (bF x v (1-t)) (t+(1-t)),km,bF x v (1-t),t+(1-t),rb,rfl,rfl,(ak _ _ _ _ jb).trans hr1,jb,rfl,q8A,kI,kP,fr,jb⟩
       .rw[en]
        have i0:(some u).isSome=true:=rfl
        have i1:gq0 (some u)=u:=rfl
        have zu:=(zw u (.inl hum)).1
        by_cases hlt:1-t<u
        .have hd:=be hlt
         simp(disch:=try exact jz) only[go_sem,t0,t1,t5,t6,t7,t8,t9,t10,t11,au q78,au q88,i0,i1,aek,hd]
         refine aC.st (Fr σ8) (fr) λEo=>?_
         obtain⟨kI,kP,km⟩:=key (1-t) kd aY (λc hc=>by have:=hul c hc;grind) (.inr rfl)
         obtain⟨z2,z3⟩:=zw (1-t) (.inr rfl)
         have hx9:=(agV.trans Eo).get hf5.wf q65
         have hv9:=(oZ.trans Eo).get pz.wf hv1
         have hxr:kJ (λ_=>True) _ (.sl xb 0 g.e.length (.ex g.e.length)) g.e.length x:=bD (G:=λc=>dO (x c)) _ hx9 rfl trivial (λ_=>rfl) jj λ_ _=>rfl
         have hvr:kJ (λ_=>True) _ (.sl vb 0 g.e.length (.ex g.e.length)) g.e.length v:=bD (G:=λc=>dO (v c)) _ hv9 rfl trivial (λ_=>rfl) jj λ_ _=>rfl
         refine(NC Eo.wf hxr hvr jb z2 zx (λi hi=>(z3 i hi).1) (λi hi=>(z3 i hi).2) (kP.sz kI.t0 kI.t1).1).mono ?_
         rintro _ σA ⟨⟨rb,rfl,hr1,hr2,hr3⟩,hfA⟩
         have q7A:=(Eo.trans hfA).get oZ.wf q78
         have q8A:=(Eo.trans hfA).get oZ.wf q88
         have alH:σA.h σ8.aj=some ⟨[.bool (rn (1-t)),.str (rs (1-t)),.str (rd (1-t))],none⟩:=hfA.get Eo.wf (aA _ _ _)
         have hFA:=Na.trans (Eo.trans hfA)
         have ayF:=hfA.le
         have hr2:σ8.aj+1+1<=rb:=hr2
         have ayG:=Fr.refl hfA.wf
         simp(disch:=try exact jz) only[go_sem,t0,t1,t5,t6,t7,t8,t9,t10,t11,au q7A,au alH,aI q7A]
         exact⟨meas g (bF x v (1-t)) (t+(1-t)),km,bF x v (1-t),t+(1-t),rb,rfl,rfl,(ak _ _ _ _ jb).trans hr1,jb,rfl,q8A,kI,kP,fr,jb⟩
        .have hd:=az hlt
         simp(disch:=try exact jz) only[go_sem,t0,t1,t5,t6,t7,t8,t9,t10,t11,au q78,au q88,i0,i1,aek,hd]
         refine aC.st (Fr σ8) (fr) λEo=>?_
         obtain⟨kI,kP,km⟩:=key u (eo (FC hD3 u hum)) kd hul (.inl hum)
         obtain⟨z2,z3⟩:=zw u (.inl hum)
         have hx9:=(agV.trans Eo).get hf5.wf q65
         have hv9:=(oZ.trans Eo).get pz.wf hv1
         have hxr:kJ (λ_=>True) _ (.sl xb 0 g.e.length (.ex g.e.length)) g.e.length x:=bD (G:=λc=>dO (x c)) _ hx9 rfl trivial (λ_=>rfl) jj λ_ _=>rfl
         have hvr:kJ (λ_=>True) _ (.sl vb 0 g.e.length (.ex g.e.length)) g.e.length v:=bD (G:=λc=>dO (v c)) _ hv9 rfl trivial (λ_=>rfl) jj λ_ _=>rfl
         refine(NC Eo.wf hxr hvr jb z2 zx (λi hi=>(z3 i hi).1) (λi hi=>(z3 i hi).2) (kP.sz kI.t0 kI.t1).1).mono ?_
         rintro _ σA ⟨⟨rb,rfl,hr1,hr2,hr3⟩,hfA⟩
         have q7A:=(Eo.trans hfA).get oZ.wf q78
         have q8A:=(Eo.trans hfA).get oZ.wf q88
         have alH:σA.h σ8.aj=some ⟨[.bool (rn u),.str (rs u),.str (rd u)],none⟩:=hfA.get Eo.wf ((ak _ _ _ _ jb).trans ((ak _ _ _ _ jb).trans (aA _ _ _)))
         have hFA:=Na.trans (Eo.trans hfA)
         have ayF:=hfA.le
         have hr2:σ8.aj+1+1<=rb:=hr2
         have ayG:=Fr.refl hfA.wf
         simp(disch:=try exact jz) only[go_sem,t0,t1,t5,t6,t7,t8,t9,t10,t11,au q7A,au alH,aI q7A]
         exact⟨meas g (bF x v u) (t+u),km,bF x v u,t+u,rb,rfl,rfl,(ak _ _ _ _ jb).trans hr1,jb,rfl,q8A,kI,kP,fr,jb⟩
     .have hcls:=ak0 hsub (of:=λi=>of i=true) (λi j hi hj h1 h2=>auT i j hi hj h1 h2) (R:=λk=>ug g.e.length (gM g.e.length (bI g) x) λi=>i=k) (λk _ _=>ND _ _ λi=>i=k) hi0 ayE ao8 λk hk h1 h2=>hmin k hk h1 h2
      have k1:=hD5.kn
      have k2:=hS5.kn
      simp(disch:=try exact jz) only[go_sem,t0,t1,t5,t6,t7,t8,t9,t10,t11,au q95,k1,k2]
      refine(auP hf5.wf (hs0.fr RJ) h q65 hP hD5 hS5 (hM3.fr hf3.wf gy) (aX.hl hH) hcls hI (λhl E hE hE0 hEb=>?_) (λhl=>?_)).mono ?_
      .obtain⟨i,hi,hEi,hil⟩:=hE
       have hgr:gr=false:=by cases gr with|false=>rfl|true=>cases hl
       have hof:of i=true:=by
        have h1:=((ND g.e.length (gM g.e.length (bI g) x) λk=>k=i0).mem i).mp hil;clear hEi hil hi;induction h1 with
        |base e hi=>subst e;exact ayE
        |step h1 hj hm ih=>exact auT _ _ h1.lt hj ih hm
       have hr:=(auU hgr).2 i hi hof
       clear hof hil hi
       induction hr with
       |base e hi=>have:=cQ e;have e2:=hE0 _ hi hEi;unfold jq at e2;grind
       |step h1 hj hm ih=>exact ih (hEb _ _ hj h1.lt hEi hm)
      .have hgr:gr=false:=by cases gr with|false=>rfl|true=>cases hl
       have h1:=(auU hgr).1
       have h2:=hI.t1
       grind
      rintro _ σ6 ⟨y,⟨yb,rfl,hy1,hy2,hy3⟩,hI',hP',hms,gV⟩
      have kL:=RJ.trans gV
      have yZ:=gV.le
      have q76:=gV.get hf5.wf q75
      have q86:=gV.get hf5.wf q85
      simp(disch:=try exact jz) only[go_sem,t0,t1,t5,t6,t7,t8,t9,t10,t11]
      exact⟨meas g y t,hms,y,t,yb,rfl,rfl,hy1,jb,q76,q86,hI',hP',kL,jb⟩
def ayH(p:Nat->Prop)(h:Tr Bk)(r:V)(g:fC)(x:Nat->Rat):Prop:=∃rr,r=.aZ rr (.aZ (jN 0) .tnil)/\Wi p h rr g x
def Wi.keep{p q:Nat->Prop}{h h':Tr Bk}{r:V}{g:fC}{x:Nat->Rat}(hs:Wi p h r g x)(hk:∀b,p b->h' b=h b)(hq:∀b,p b->q b):Wi q h' r g x:=by obtain⟨cm,G,Dv,Rf,Nt,Su,Re,Fu,rfl,h1,h2,h3,h4,h5,h6,h7,h8⟩:=hs;exact⟨cm,G,Dv,Rf,Nt,Su,Re,Fu,rfl,aX.keep h1 hk hq,h2.keep hk hq,h3.keep hk hq,h4.keep hk hq,h5.keep hk hq,aX.keep h6 hk hq,aX.keep h7 hk hq,aX.keep h8 hk hq⟩
def Wi.kn8{p:Nat->Prop}{h:Tr Bk}{r:V}{g:fC}{x:Nat->Rat}(hs:Wi p h r g x):∃cm G Dv Rf Nt Su Re Fu,r=.agg [cm,G,Dv,Rf,Nt,Su,Re,Fu]/\cm.kn=true/\G.kn=true/\Dv.kn=true/\Rf.kn=true/\Nt.kn=true/\Su.kn=true/\Re.kn=true/\Fu.kn=true:=by obtain⟨cm,G,Dv,Rf,Nt,Su,Re,Fu,rfl,h1,h2,h3,h4,h5,h6,h7,h8⟩:=hs;exact⟨cm,G,Dv,Rf,Nt,Su,Re,Fu,rfl,aX.kn h1,h2.kn,h3.kn,h4.kn,h5.kn,aX.kn h6,aX.kn h7,aX.kn h8⟩
def apC{σ:St}(hW:WF σ){p:Nat->Prop}{ev dv:B}{g:fC}(hg:qy p σ.h ev dv g)(h:jJ g):
  aC EN 12 [.agg [ev,dv]] σ λr σ'=>∃x,ayH (λb=>σ.aj<=b/\b<σ'.aj) σ'.h r g x/\uZ g x 1/\Ew h.NG (jq g) false x 1/\RS (n:=g.e.length) (g:=bI g) (jq g) x/\(∀S:Nat->Prop,(∃i,i<g.e.length/\S i)->¬Ins.Shut g.e.length (gM g.e.length (bI g) x) S)/\Fr σ σ':=by
 refine aO (uI.o _ _) uI.h ?_
 unfold uI
 dsimp only
 obtain⟨_,hM0⟩:=(Us h).map h
 have hek:=hg.e.kn
 have hdk:=hg.d.kn
 have hFr:=Fr.refl hW
 simp(disch:=try exact jz) only[go_sem,hek,hdk]
 refine aC.st (Fr σ) (fr) λhF=>?_
 refine(Wu hF.wf (hg.fr hW hF) h.z h.bld (λi hi=>(h.m i hi).1) λd hd=>(h.d d hd).2.1).mono ?_
 rintro _ σ2 ⟨rfl,hf2⟩
 have hF2:=hF.trans hf2
 have q0:=hf2.get hF.wf (aA _ _ _)
 have q00:=hf2.get hF.wf ((ak _ _ _ _ jb).trans (aA _ _ _))
 have hd0:decide ((0:Int)=Int.ofNat 0)=true:=rfl
 have hle2:σ.aj+1+1<=σ2.aj:=hf2.le
 simp(disch:=try exact jz) only[go_sem,hek,hdk,hd0,au q00,q00]
 refine(aoK hf2.wf g (hg.fr hW hF2) hM0.a h.bld).mono ?_
 rintro _ σ3 ⟨⟨sb,rfl,hS⟩,hf3⟩
 have hf3:=hf2.trans hf3
 have hF3:=hF.trans hf3
 simp(disch:=try exact jz) only[go_sem]
 refine(apA hf3.wf hS h true).mono ?_
 rintro _ σ4 ⟨x,⟨xb,rfl,hx1,hx2,hx3⟩,hP,hI,hgt,hls,hf4⟩
 have jr:=hF3.trans hf4
 obtain⟨D,hMg⟩:=hP.mg h
 simp(disch:=try exact jz) only[go_sem]
 refine(akn hf4.wf (hS.fr hf4) hx1 hMg.A.s).mono ?_
 rintro _ σ5 ⟨hV,hf5⟩
 have gy:=jr.trans hf5
 have hle3:σ.aj+1+1<=σ3.aj:=hf3.le
 have pY:=hf4.le
 have uU:=hf5.le
 have Hl:=Fr.refl hf5.wf
 have q1:=(hf3.trans (hf4.trans hf5)).get hF.wf (aA _ _ _)
 obtain⟨cm,G,Dv,Rf,Nt,Su,Re,Fu,er,k1,k2,k3,k4,k5,k6,k7,k8⟩:=hV.kn8
 subst er
 simp(disch:=try exact jz) only[go_sem,au q1,aI q1,k1,k2,k3,k4,k5,k6,k7,k8]
 exact⟨x,⟨_,rfl,hV.keep (λb hb=>ak _ _ _ _ jb) λb hb=>⟨jb,hb.2⟩⟩,hP,hI,(hgt rfl).1,(hgt rfl).2,fr⟩
def WT{σ:St}(hW:WF σ){p:Nat->Prop}{ev dv:B}{g:fC}(hg:qy p σ.h ev dv g)(h:jJ g):
  aC EN 12 [.agg [ev,dv]] σ λr σ'=>∃x,ayH (λb=>σ.aj<=b/\b<σ'.aj) σ'.h r g x/\uZ g x 1/\Ew h.NG (jq g) false x 1/\RS (n:=g.e.length) (g:=bI g) (jq g) x/\Fr σ σ':=
 (apC hW hg h).mono λ_ _ ⟨x,a,b,c,d,_,e⟩=>⟨x,a,b,c,d,e⟩
section
variable {n:Nat} {m:Nat→Rat} {cl:Nat→List C5} {al:Nat→List fD} {dl:List qx}
def mQ.c60{A:Nat}{q:Rat}(h:mQ A 30 q):mQ A 100 q:=⟨h.1,h.2.1,cM h.2.2 jj⟩
def BG.Ag(h:BG n m cl al dl):jJ (iJ n m cl al dl):=by
 have hn:=jW n m cl al dl;have hz:=PY h.zero;have hix:∀i,i<(iJ n m cl al dl).e.length->ix (iJ n m cl al dl).e i=⟨mP (m i),cl i,al i⟩:=λi hi=>Bo m cl al dl jb;refine⟨by have:=h.n4;omega,h.bld,h.small,h.zero,λi hi=>?_,λi hi=>?_,λi hi=>?_,λi hi=>?_,λi hi k=>?_,λi hi c hc=>?_,λi hi=>?_,by show dl.length<=3;exact h.d.1,λd hd=>?_⟩
 .rw[h.kE jb];exact(h.c i jb).1
 .rw[h.kE jb,hix i hi];have e:=h.ed (i:=i) jb;exact⟨λt ht p hp=>⟨(e.rk t ht p hp).1,mQ.c60 (e.rk t ht p hp).2⟩,λq hq t ht p hp=>⟨(e.ps q hq t ht p hp).1,mQ.c60 (e.ps q hq t ht p hp).2⟩⟩
 .rw[h.kE jb,hix i hi];exact(h.eb jb).1
 .rw[hix i hi];obtain⟨-,e1,e2,e3⟩:=h.eb (i:=i) jb;refine⟨e1,by show(QT (cl i) (cl i).length).length<=8;grind[QT],e2,λp hp=>⟨e3 p hp,?_⟩⟩;obtain⟨a,ha,rfl⟩:=cW.mp hp;obtain⟨j,hj,rfl⟩:=aL ha;rw[<-dU hj];obtain⟨h3,hT⟩:=h.tl (show i<n by omega) hj;obtain⟨l1,-⟩:=adW (cs:=cl i) hT;grind[qc]
 .rw[hix i hi];exact mQ.c60 (h.cap jb k)
 .rw[h.kE jb]at hc;rw[hix i hi];rcases((h.c i jb).2 c hc).1 with h1|⟨j,hj,-,h1⟩
  .grind
  grind
 .rw[hix i hi];obtain⟨v,e⟩:=h.mm i jb;show(mP (m i)).fits _/\mQ 60 100 (mP (m i)).q;grind[og,uX,vI]
 .obtain⟨hl,v,e⟩:=h.d.2 d hd;show(ix dl d).l.length<=4/\(ix dl d).w.fits _/\mQ 60 100 (ix dl d).w.q;grind[og,uX,vI]
end
section
variable {n:Nat} {m m' : Nat→Rat} {cl:Nat→List C5} {al:Nat→List fD} {dl:List qx}
def agW(i:Nat):(ix (iJ n m' cl al dl).e i).c=(ix (iJ n m cl al dl).e i).c/\(ix (iJ n m' cl al dl).e i).a=(ix (iJ n m cl al dl).e i).a:=by
 by_cases h:i<n
 .rw[Bo m cl al dl h,Bo m' cl al dl h];exact⟨rfl,rfl⟩
 .have e:∀m:Nat->Rat,ix (iJ n m cl al dl).e i=default:=λm=>by unfold ix;rw[cG,List.getElem?_eq_none (by have:=jW n m cl al dl;omega)];rfl
  rw[e,e];exact⟨rfl,rfl⟩
def aco(i:Nat):bY (ix (iJ n m' cl al dl).e i)=bY (ix (iJ n m cl al dl).e i):=by obtain⟨h1,h2⟩:=agW (n:=n) (m:=m) (m':=m') (cl:=cl) (al:=al) (dl:=dl) i;unfold bY;rw[h1,h2]
def aqP:bI (iJ n m' cl al dl)=bI (iJ n m cl al dl):=by
 unfold bI;congr 1
 .funext i;exact aco i
 .funext i;rw[(agW (m:=m) i).1]
 .funext i c;rw[(agW (m:=m) i).1]
def jJ.apD(h:jJ (iJ n m cl al dl))(hm:∀i,i<n->Sm 1000 (m' i)/\mQ 60 100 (m' i)):jJ (iJ n m' cl al dl):=by
 have hn:=jW n m cl al dl;have hn':=jW n m' cl al dl;have hc:=λi=>(agW (n:=n) (m:=m) (m':=m') (cl:=cl) (al:=al) (dl:=dl) i).1;have ha:=λi=>(agW (n:=n) (m:=m) (m':=m') (cl:=cl) (al:=al) (dl:=dl) i).2;have hl:=λi=>aco (n:=n) (m:=m) (m':=m') (cl:=cl) (al:=al) (dl:=dl) i;have hk:∀i,kE (iJ n m' cl al dl).e i=kE (iJ n m cl al dl).e i:=λi=>by unfold kE;rw[hc]
 have hme:∀i,i<n->(ix (iJ n m' cl al dl).e i).m=mP (m' i):=λi hi=>by rw[Bo m' cl al dl hi]
 have hd:(iJ n m' cl al dl).d=(iJ n m cl al dl).d:=rfl;have hf:∀i,i<n->(mP (m' i)).fits 1000000:=λi hi=>xX ((hm i hi).1.mono jb);have hq:∀i,i<n->¬sg (ix (iJ n m' cl al dl).e i).m.q<0:=λi hi=>by rw[hme i hi,og];exact vW (hm i hi).2.2.1
 have hq0:∀i,i<n->¬sg (ix (iJ n m cl al dl).e i).m.q<0:=λi hi=>vW (h.m i jb).2.2.1;have hE:∀i,i<n->C9 (ix (iJ n m' cl al dl).e i)=C9 (ix (iJ n m cl al dl).e i):=λi hi=>by unfold C9;rw[ab (hq i hi),ab (hq0 i hi),hc,ha]
 refine⟨by have:=h.n;omega,⟨by have:=h.bld.n;omega,h.bld.d,λi hi=>?_,h.bld.l,λd hd k hk=>?_⟩,⟨λi hi=>?_,h.sm.w,by have:=h.sm.le;omega,h.sm.ld,h.sm.ll⟩,?_,λi hi=>?_,λi hi=>?_,λi hi=>?_,λi hi=>?_,λi hi k=>?_,λi hi c hc'=>?_,λi hi=>?_,h.d3,h.d⟩
 .have:=h.bld.e i jb;exact⟨by rw[hc];exact this.nc,by rw[ha];exact this.na,by rw[hc];exact this.r,by rw[hc];exact this.fc,by rw[hc];exact this.c,by rw[hc,ha];exact this.a⟩
 .obtain⟨e,c,h1,h2,h3⟩:=h.bld.lg d hd k hk;exact⟨e,c,h1,jb,by rw[hc];exact h3⟩
 .have:=h.sm.e i jb;refine⟨by rw[hme i jb];have:=hf i jb;exact⟨by have:=this.1;omega,by have:=this.2;omega⟩,by rw[hc];exact this.c,by rw[ha];exact this.a,by rw[hc];exact this.lc,by rw[ha];exact this.la,by rw[ha];exact this.lt,by rw[ha];exact this.lp⟩
 .rw[<-h.z];unfold LC OV Ri aa3 holdL;simp only[hc,hn,hn',hd];rw[Tm hE]
 .rw[hk];exact h.k6 i jb
 .rw[hk,hl];exact h.ed i jb
 .rw[hk,hl];exact h.eb i jb
 .rw[hl];exact h.er i jb
 .rw[hc];exact h.cap i jb k
 .rw[hk]at hc';rw[hc];rcases h.hold i jb c hc' with h1|⟨j,h1,h2⟩
  .exact .inl h1
  .exact .inr ⟨j,h1,jb⟩
 .rw[hme i jb,og];exact⟨hf i jb,(hm i jb).2⟩
end
end Go.Proofs.Xe
namespace Go.Proofs.Ins
def apE(n:Nat)(M:Nat->Nat->Rat)(i:Nat):Prop:=aB n (λj=>M j i)<1
instance ay0(n:Nat)(M:Nat->Nat->Rat)(i:Nat):Decidable (apE n M i):=inferInstanceAs (Decidable (_<_))
def CW(n:Nat)(dn:Nat->Bool):Nat:=((List.range n).filter dn).length
section
variable {n:Nat} {M:Nat→Nat→Rat} {dn:Nat→Bool} {l:List Nat} {x:Nat→Int} {i:Nat}
def QH:CW n dn<=n:=by unfold CW;have:=List.length_filter_le dn (List.range n);rw[ie]at this;exact this
structure ExI(n:Nat)(M:Nat->Nat->Rat)(x:Nat->Int)(dn:Nat->Bool)(l:List Nat)(ds:Nat->Nat)(t:Nat):Prop where
 d:∀i,i<n->dn i=true->ds i<=t/\((apE n M i/\x i=-1/\ds i=0)\/(¬apE n M i/\∃j:Nat,j<n/\x i=(j:Int)/\0<M j i/\dn j=true/\ds j<ds i))
 lk:∀i,i<n->apE n M i->dn i=true
 la:∀j,j∈l↔j<n/\dn j=true/\ds j=t
 cl:∀j,j<n->dn j=true->ds j<t->∀i,i<n->0<M j i->dn i=true
 cnt:t<=CW n dn
 cnt1:l≠[]->t+1<=CW n dn
end
section
variable {n:Nat} {M:Nat→Nat→Rat} {x:Nat→Int}
end
def Lh(n:Nat)(a b:Nat->Bool):Prop:=∀i,i<n->a i=true->b i=true
def BEq(n:Nat)(a b:Nat->Bool):Prop:=∀i,i<n->a i=b i
def Gt(n:Nat)(T:(Nat->Bool)->Nat->Bool):Prop:=∀a b,Lh n a b->Lh n (T a) (T b)
section
variable {n:Nat} {a b c:Nat→Bool} {T:(Nat→Bool)→Nat→Bool} {r:Nat}
def Lh.trans(h:Lh n a b)(h':Lh n b c):Lh n a c:=λi hi ha=>h' i hi (h i hi ha)
def BEq.le(h:BEq n a b):Lh n a b:=λi hi ha=>by rw[<-h i hi];exact ha
def BEq.symm(h:BEq n a b):BEq n b a:=λi hi=>(h i hi).symm
def BEq.trans(h:BEq n a b)(h':BEq n b c):BEq n a c:=λi hi=>(h i hi).trans (h' i hi)
def Lh.antisymm(h:Lh n a b)(h':Lh n b a):BEq n a b:=λi hi=>by rw[gT];exact⟨h i hi,h' i hi⟩
def Gt.eq(hM:Gt n T)(h:BEq n a b):BEq n (T a) (T b):=(hM a b h.le).antisymm (hM b a h.symm.le)
def QI(h:Lh n a b):CW n a<=CW n b:=by
 unfold CW;have key:∀l:List Nat,(∀i∈l,i<n)->(l.filter a).length<=(l.filter b).length:=λl=>by
  induction l with
  |nil=>exact λ_=>jp
  |cons i l ih=>
   intro hl
   have h1:=ih λj hj=>hl j (by simp[hj])
   have h2:=h i (hl i kc)
   cases ha:a i<;>cases hb:b i<;>simp_all<;>omega
 exact key _ λi hi=>fX.mp hi
def ZT(h:Lh n a b)(h':¬Lh n b a):CW n a<CW n b:=by
 refine Nat.lt_of_not_le λhc=>h' λi hi hb=>bz λha=>?_;have key:∀l:List Nat,(∀i∈l,i<n)->i∈l->(l.filter a).length<(l.filter b).length:=λl=>by
  induction l with
  |nil=>exact λ_ h=>by cases h
  |cons j l ih=>
   intro hl hil
   have hle:(l.filter a).length<=(l.filter b).length:=by
    have k2:∀l:List Nat,(∀i∈l,i<n)->(l.filter a).length<=(l.filter b).length:=λl=>by
     induction l with
     |nil=>exact λ_=>jp
     |cons i l ih=>
      intro hl
      have h1:=ih λj hj=>hl j (by simp[hj])
      have h2:=h i (hl i kc)
      cases ha:a i<;>cases hb:b i<;>simp_all<;>omega
    exact k2 l λk hk=>hl k (by simp[hk])
   have h2:=h j (hl j kc)
   by_cases e:i=j
   .subst e
    simp only[List.filter_cons,hb,if_true,bL]
    rw[ab ha]
    omega
   .have h3:=ih (λk hk=>hl k (by simp[hk])) (by rcases bA.mp hil with h|h;exact absurd h e;exact h)
    cases ha:a j<;>cases hb:b j<;>simp_all<;>omega
 have:=key (List.range n) (λi hi=>fX.mp hi) (fX.mpr hi);unfold CW at hc;omega
structure EF(n:Nat)(T:(Nat->Bool)->Nat->Bool)(a0 a:Nat->Bool)(r:Nat):Prop where
 c:Lh n a (T a)
 r:r<=CW n a
 f:∀S,Lh n (T S) S->Lh n a0 S->Lh n a S
def EF.start{a0:Nat->Bool}(h:Lh n a0 (T a0)):EF n T a0 a0 0:=⟨h,br _,λ_ _ h=>h⟩
def EF.next{a0:Nat->Bool}(hM:Gt n T)(h:EF n T a0 a r)(hne:¬BEq n (T a) a):EF n T a0 (T a) (r+1)/\r<n:=by have hlt:=ZT h.c λe=>hne (e.antisymm h.c);have hr:=h.r;have hn:=QH (n:=n) (dn:=T a);exact⟨⟨hM _ _ h.c,jb,λS hS h0=>(hM _ _ (h.f S hS h0)).trans hS⟩,jb⟩
structure Fall(n:Nat)(T:(Nat->Bool)->Nat->Bool)(a0 a:Nat->Bool)(r:Nat):Prop where
 c:Lh n (T a) a
 r:r+CW n a<=n
 f:∀S,Lh n S (T S)->Lh n S a0->Lh n S a
def Fall.start{a0:Nat->Bool}(h:Lh n (T a0) a0):Fall n T a0 a0 0:=⟨h,by rw[cL];exact QH,λ_ _ h=>h⟩
def Fall.next{a0:Nat->Bool}(hM:Gt n T)(h:Fall n T a0 a r)(hne:¬BEq n (T a) a):Fall n T a0 (T a) (r+1)/\r<n:=by have hlt:=ZT h.c λe=>hne (h.c.antisymm e);have hr:=h.r;exact⟨⟨hM _ _ h.c,jb,λS hS h0=>hS.trans (hM _ _ (h.f S hS h0))⟩,jb⟩
def EF.congr{a0:Nat->Bool}(hM:Gt n T)(h:EF n T a0 a r)(e:BEq n a b):EF n T a0 b r:=
 ⟨e.symm.le.trans (h.c.trans (hM.eq e).le),ap h.r (QI e.le),λS hS h0=>e.symm.le.trans (h.f S hS h0)⟩
def Fall.congr{a0:Nat->Bool}(hM:Gt n T)(h:Fall n T a0 a r)(e:BEq n a b):Fall n T a0 b r:=
 ⟨((hM.eq e).symm.le.trans h.c).trans e.le,by have:=QI e.symm.le;have:=h.r;omega,λS hS h0=>(h.f S hS h0).trans e.le⟩
structure xK(n:Nat)(T:(Nat->Bool)->Nat->Bool)(P:(Nat->Bool)->Nat->Prop):Prop where
 step:∀a r,P a r->¬BEq n (T a) a->P (T a) (r+1)/\r<n
 ext:∀a b r,BEq n a b->P a r->P b r
 le:∀a r,P a r->r<=n
def xK.aqQ{a0:Nat->Bool}(hM:Gt n T):xK n T (EF n T a0):=
 ⟨λ_ _ h hne=>h.next hM hne,λ_ _ _ e h=>h.congr hM e,λ_ _ h=>ap h.r QH⟩
def xK.fall{a0:Nat->Bool}(hM:Gt n T):xK n T (Fall n T a0):=
 ⟨λ_ _ h hne=>h.next hM hne,λ_ _ _ e h=>h.congr hM e,λ_ _ h=>by have:=h.r;omega⟩
end
end Go.Proofs.Ins
namespace Go.Proofs.Xe
open Go.RowKit Go.Proofs.Ins
section
variable {n:Nat} {m:Nat→Rat} {cl cl' : Nat→List C5} {al:Nat→List fD} {dl:List qx}
def BG.late(h:BG n m cl al dl)(hl:∀i,i<n->Gi (cl i) (cl' i)):BG n m cl' al dl:=by
 have hlen:∀i,i<n->(cl' i).length=(cl i).length:=λi hi=>(hl i hi).1;refine⟨h.n0,h.n4,h.mm,λi hi=>⟨by rw[hlen i hi];exact(h.c i hi).1,λk hk=>?_⟩,λi hi=>by rw[hlen i hi];exact h.a i hi,h.d,λj hj=>?_⟩
 .rw[hlen i hi]at hk;obtain⟨g1,⟨r,g2,g3⟩,g4⟩:=(h.c i hi).2 k hk;obtain⟨e1,e2,e3⟩:=(hl i hi).2 k hk;refine⟨by rw[e1];exact g1,?_,by rw[e2];exact g4⟩;rcases e3 with e|e|e
  .exact⟨r,g2,by rw[e];exact g3⟩
  .exact⟨6,jb,e⟩
  .exact⟨7,jb,e⟩
 .obtain⟨hv,hr,hnd⟩:=h.dg j hj;refine⟨hv,λx hx=>?_,hnd⟩;obtain⟨e,k,h1,h2,h3,h4,h5,h6⟩:=hr x hx;rw[jD]at h2;rw[je m cl al h2]at h3;have h3:k<(cl e).length:=h3;refine⟨e,k,h1,by rw[jD];exact h2,?_,h4,?_,by rw[jD]at h6⊢;exact h6⟩
  .rw[je m cl' al h2];show k<(cl' e).length;rw[hlen e h2];exact h3
  .rw[<-h5,h1];show(ix (ix (gu n m cl' al) e).c k).h=(ix (ix (gu n m cl al) e).c k).h;rw[je m cl' al h2,je m cl al h2];exact((hl e h2).2 k h3).1
end
def shG(g:fC)(x:Nat->Rat)(i:Nat):Bool:=(List.range (kE g.e i)).any λk=>decide ((ix (ix g.e i).c k).r<6)&&decide (Nr g x i k<(ix (ix g.e i).c k).a.q)
def QJ{g:fC}(hg:jJ g){x y:Nat->Rat}(hx:Nn g.e.length x)(hxy:Le g.e.length x y):Lh g.e.length (shG g y) (shG g x):=λi hi h=>by unfold shG at h⊢;obtain⟨k,hk,h⟩:=dy.mp h;rw[af]at h;refine dy.mpr ⟨k,hk,?_⟩;rw[af];refine⟨h.1,be ?_⟩;have h1:Nr g x i k<=Nr g y i k:=Ei (hg.NG.nn i hi).rk _ (hx i hi) (hxy i hi);have h2:=cQ h.2;grind
def qU(m c:Nat->Rat)(a:Nat->Bool)(i:Nat):Rat:=if a i then vY (m i-c i) 0 else m i
noncomputable def shT(n:Nat)(g:fC)(m c:Nat->Rat)(a:Nat->Bool)(i:Nat):Bool:=@decide (∃x,RS (n:=n) (g:=bI g) (qU m c a) x/\shG g x i=true) (Classical.propDecidable _)
section
variable {g:fC} {m c:Nat→Rat} {a b:Nat→Bool} {x y:Nat→Rat}
def auV{n:Nat}{gl:GL}{c c' x x':Nat->Rat}(hc:∀i,i<n->c i<=c' i)(h:RS (n:=n) (g:=gl) c x)(h':RS (n:=n) (g:=gl) c' x'):∀i,i<n->x i<=x' i:=
 h'.grt x h.nn λj hj=>by rw[h.fix j hj];exact Rat.add_le_add_right.mpr (hc j hj)
def auW(hg:jJ g)(hx:Nn g.e.length x)(hy:Nn g.e.length y)(h:∀i,i<g.e.length->x i=y i):BEq g.e.length (shG g x) (shG g y):=
 (QJ hg hy λi hi=>by rw[h i hi];exact aY).antisymm (QJ hg hx λi hi=>by rw[h i hi];exact aY)
def QL(hg:jJ g)(h:RS (n:=g.e.length) (g:=bI g) (qU m c a) x):BEq g.e.length (shT g.e.length g m c a) (shG g x):=λi hi=>by
 rw[gT];unfold shT;constructor
 .intro e;obtain⟨y,h1,h2⟩:=@cQ _ (Classical.propDecidable _) e;rw[<-h2];exact(auW hg h.nn h1.nn (RS.uniq _ h h1)) i hi
 .intro e;exact @be _ (Classical.propDecidable _) ⟨x,h,e⟩
def apG(hc:∀i,i<g.e.length->0<=c i)(hm:∀i,i<g.e.length->0<=m i)(hab:Lh g.e.length a b):∀i,i<g.e.length->qU m c b i<=qU m c a i:=λi hi=>by have h1:=hc i hi;have h2:=hm i hi;have h3:=hab i hi;unfold qU vY;cases ha:a i<;>cases hb:b i<;>grind
def alI(hg:jJ g)(hc:∀i,i<g.e.length->0<=c i)(hm:∀i,i<g.e.length->0<=m i)(hex:∀a,∃x,RS (n:=g.e.length) (g:=bI g) (qU m c a) x):Gt g.e.length (shT g.e.length g m c):=λa b hab=>by obtain⟨x,hx⟩:=hex a;obtain⟨y,hy⟩:=hex b;have h1:=QL hg hx;have h2:=QL hg hy;exact h1.le.trans ((QJ hg hy.nn (auV (apG hc hm hab) hy hx)).trans h2.symm.le)
end
section
variable {σ:St} {dv:B} {n eb:Nat} {m m' : Nat→Rat} {cl:Nat→List C5} {bs:Nat→Nat} {A:Nat→B} {al:Nat→List fD} {dl:List qx} {lo hi:Nat}
def lN.reM{h:Tr Bk}(ho:lN h dv n eb m cl bs A al dl lo hi)(m':Nat->Rat):lN (hset h eb ⟨bC n (rF m' cl bs A),some (5,60)⟩) dv n eb m' cl bs A al dl lo hi:=by refine⟨aA _ _ _,ho.elo,ho.ehi,λi hi' h0=>?_,ho.inj,λi hi'=>(ho.a i hi').keep (λb hb=>ak _ _ _ _ hb.2.2.1) λ_ h=>h,ho.d.keep (λb hb=>ak _ _ _ _ hb.2.2.1) λ_ h=>h⟩;obtain⟨c1,c2,c3,c4⟩:=ho.c i hi' h0;exact⟨(ak _ _ _ _ c4).trans c1,c2,c3,c4⟩
def auX(hW:WF σ)(ho:lN σ.h dv n eb m cl bs A al dl lo hi)(hG:jJ (iJ n m' cl al dl)):∃x,RS (n:=n) (g:=bI (iJ n m cl al dl)) m' x:=by
 have hlt:eb<σ.aj:=hW.lt ho.e;have hW':WF ⟨hset σ.h eb ⟨bC n (rF m' cl bs A),some (5,60)⟩,σ.aj⟩:=λb hb=>by have hb:σ.aj<=b:=hb;show hset _ _ _ b=none;rw[ak _ _ _ _ jb];exact hW b hb
 obtain⟨_,_,_,-,x,-,-,-,hgt,-⟩:=WT (g:=iJ n m' cl al dl) hW' ((ho.reM m').grp .opn) hG;have hn:=jW n m' cl al dl;rw[hn,aqP (m:=m)]at hgt;have hcs:∀i,i<n->jq (iJ n m' cl al dl) i=m' i:=λi hi=>by unfold jq;rw[Bo m' cl al dl hi];exact og _
 exact⟨x,hgt.nn,λj hj=>by rw[<-hcs j hj];exact hgt.fix j hj,λy hy hp=>hgt.grt y hy λj hj=>by rw[hcs j hj];exact hp j hj⟩
end
def agX(v u:Nat):Sm 1000 (vY (amt v-amt u) 0)/\mQ 60 100 (vY (amt v-amt u) 0):=by
 have h1:=vI v;have h2:=vI u;unfold vY;split
 .next h=>
  have h0:0<=amt v-amt u:=by
   unfold pI at h;rcases qp (amt v-amt u-0)with⟨e,-⟩|⟨-,e⟩|⟨-,e⟩
   .omega
   .grind
   .grind
  refine⟨((qZ v).sub (qZ u)).mono jj,h1.1.sub h2.1,h0,?_⟩;have:=h1.2.2;have:=h2.2.1;have e1:(30:Rat)<=100:=by decide
  grind
 .exact⟨(Pj▸qZ 0).mono jj,(Wv jj).zero⟩
section
variable {n:Nat} {m c:Nat→Rat} {cl:Nat→List C5} {al:Nat→List fD} {dl:List qx}
end
end Go.Proofs.Xe
