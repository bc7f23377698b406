import Derived.Test.YthkggcakedkboaaGreatDoorYa44
set_option linter.all false
set_option maxRecDepth 100000
set_option maxHeartbeats 8000000
namespace Go.Proofs.Xe
open Go.RowKit Go.Proofs.Ins
def VQ(i k:Nat):Bool:=if k<i then true else false
def ak6{n i:Nat}:ones n (aP (λk=>B.bool (VQ i k)) i (.bool true))=ones n λk=>.bool (VQ (i+1) k):=dU λk _=>by grind[aP,VQ]
def adW(a b:Rat):decide (Int.ofNat 0<qj a b)=decide (b<a):=by grind[qj,qC]
def adZ{σ:St}(hW:WF σ){sb:Nat}{g:fP}(hs:E5 (Lt σ.aj) σ.h sb g)(h:kL g)(gr:Bool):
  aC EN 33 [.c (.ptr sb 0),.c (.bool gr)] σ λr σ'=>∃x,Yu σ σ' r g.e.length x/\sD g x 1/\BN h.KA (iT g) (!gr) x 1/\(gr=true->Grt (n:=g.e.length) (g:=aZ g) (iT g) x)/\(gr=false->Ins.yx (n:=g.e.length) (g:=aZ g) (iT g) x)/\Fr σ σ':=by
 refine aN (lu.o _ _) lu.h ?_
 unfold lu
 dsimp only
 have hn8:=h.n
 have hs0:=hs
 obtain⟨⟨ev,gv,lv,bv,hsb,hg,⟨R,P,hL1,hL2⟩,hB⟩,hsl⟩:=hs
 have hsl:sb<σ.aj:=hsl
 have hlk:=hL1.kn
 have hll:=hL1.len
 have hFr:=Fr.refl hW
 have z1:=sz1
 simp(disch:=try exact jz) only[go_sem,z3,ak hsb,hll,hlk]
 refine aF (λq tm σ'=>∃x t xb,q=meas g x t/\Tr.ah tm 0=.c (.ptr sb 0)/\Tr.ah tm 1=.c (.bool gr)/\Tr.ah tm 5=.c (.int .i64 (.ofNat g.e.length))/\Tr.ah tm 6=.c (.sl xb 0 g.e.length (.ex g.e.length))/\Tr.ah tm 7=.c (.ptr (σ.aj+1) 0)/\Tr.ah tm 8=.c (.ptr (σ.aj+1+1) 0)
   /\σ'.h xb=some ⟨cZ g.e.length x,none⟩/\σ.aj<=xb/\σ'.h (σ.aj+1)=some ⟨[.bool (rn t),.str (rs t),.str (rd t)],none⟩/\σ'.h (σ.aj+1+1)=some ⟨[.bool (rn 1),.str (rs 1),.str (rd 1)],none⟩/\BN h.KA (iT g) (!gr) x t/\sD g x t/\Fr σ σ'/\σ.aj+1+1+1<=σ'.aj) (meas g (λ_=>0) 0) ?_ ?_
 .refine⟨λ_=>0,0,σ.aj,rfl,?_⟩
  simp(disch:=try exact jz) only[go_sem,z3,am]
  exact⟨jp,inv_start h.KA (iT g) (!gr),J3 h,fr,jp⟩
 .rintro q tm σ' ⟨x,t,xb,rfl,t0,t1,t5,t6,t7,t8,q6,hxb,q7,q8,hI,hP,hf,hnx⟩
  have jM:=Fr.refl hf.wf
  obtain⟨D,hMg⟩:=hP.mg h
  simp(disch:=try exact jz) only[go_sem,z3,t0,t1,t5,t6,t7,t8]
  refine(as2 hf.wf (hs0.fr hf) q6 hMg).mono ?_
  rintro _ σ1 ⟨⟨Dv,Sv,rfl,hDv,hSv⟩,hf1⟩
  have hF1:=hf.trans hf1
  have afy:=Fr.refl hf1.wf
  have k1:=hDv.kn
  have k2:=hSv.kn
  simp(disch:=try exact jz) only[go_sem,z3,t0,t1,t5,t6,t7,t8,k1,k2]
  refine aC.st (Fr σ1) (fr) λhF=>?_
  have hF2:=hF1.trans hF
  refine(afO hF.wf (hs0.fr hF2) (hDv.fr hf1.wf hF) (hSv.fr hf1.wf hF) hMg).mono ?_
  rintro _ σ2 ⟨⟨mb,bs,hi,rfl,hm1,hm2,atK⟩,hf2⟩
  have hF3:=hF2.trans hf2
  have abn:=Fr.refl hf2.wf
  simp(disch:=try exact jz) only[go_sem,z3,t0,t1,t5,t6,t7,t8]
  refine bI.mono (Q:=λex tm σ3=>ex=.exit 2/\Tr.ah tm 0=.c (.ptr sb 0)/\Tr.ah tm 1=.c (.bool gr)/\Tr.ah tm 5=.c (.int .i64 (.ofNat g.e.length))/\Tr.ah tm 6=.c (.sl xb 0 g.e.length (.ex g.e.length))/\Tr.ah tm 7=.c (.ptr (σ.aj+1) 0)/\Tr.ah tm 8=.c (.ptr (σ.aj+1+1) 0)/\Tr.ah tm 9=.c (.ptr σ1.aj 0)/\Tr.ah tm 10=.c (.sl mb 0 g.e.length (.ex g.e.length))/\Tr.ah tm 11=.c (.sl σ2.aj 0 g.e.length (.ex g.e.length))
    /\σ3.h σ2.aj=some ⟨ones g.e.length λk=>.bool (VQ g.e.length k),none⟩/\Fr σ2 σ3/\σ2.aj+1<=σ3.aj)
   (aF (λq tm σ3=>∃i,q=g.e.length-i/\i<=g.e.length/\Tr.ah tm 0=.c (.ptr sb 0)/\Tr.ah tm 1=.c (.bool gr)/\Tr.ah tm 5=.c (.int .i64 (.ofNat g.e.length))/\Tr.ah tm 6=.c (.sl xb 0 g.e.length (.ex g.e.length))/\Tr.ah tm 7=.c (.ptr (σ.aj+1) 0)/\Tr.ah tm 8=.c (.ptr (σ.aj+1+1) 0)/\Tr.ah tm 9=.c (.ptr σ1.aj 0)/\Tr.ah tm 10=.c (.sl mb 0 g.e.length (.ex g.e.length))/\Tr.ah tm 11=.c (.sl σ2.aj 0 g.e.length (.ex g.e.length))/\Tr.ah tm 36=.c (.int .i64 (.ofNat g.e.length))/\Tr.ah tm 37=.c (.int .i64 (.ofNat i))
    /\σ3.h σ2.aj=some ⟨ones g.e.length λk=>.bool (VQ i k),none⟩/\Fr σ2 σ3/\σ2.aj+1<=σ3.aj) g.e.length ?_ ?_) ?_
  .refine⟨0,jb,jb,?_⟩
   simp(disch:=try exact jz) only[go_sem,z3,t0,t1,t5,t6,t7,t8,am]
   exact⟨cf (λl=>some (Bk.mk l none)) (dU λk _=>by unfold VQ;rw[ae jb]),fr,jp⟩
  .rintro q tm3 σ3 ⟨i,rfl,hi1,t0,t1,t5,t6,t7,t8,t9,t10,t11,t36,t37,q11,hf3,hn3⟩
   have Yt:=Fr.refl hf3.wf
   have aAB:=hf3.wf.lt q11
   simp(disch:=try exact jz) only[go_sem,z3,t0,t1,t5,t6,t7,t8,t9,t10,t11,t36,t37,aG]
   refine aH (λhlt=>?_) (λhlt=>?_)
   .have hst:=ak6 (n:=g.e.length) (i:=i)
    simp(disch:=try exact jz) only[go_sem,z3,t0,t1,t5,t6,t7,t8,t9,t10,t11,t36,t37,q11,aJ q11,hst]
    exact⟨g.e.length-(i+1),jb,i+1,rfl,jb,rfl,rfl,fr,jb⟩
   .have:i=g.e.length:=jb
    subst this
    simp(disch:=try exact jz) only[go_sem,z3,am]
    exact⟨t0,t1,t5,t6,t7,t8,t9,t10,t11,q11,hf3,hn3⟩
  .rintro _ tm3 σ3 ⟨rfl,t0,t1,t5,t6,t7,t8,t9,t10,t11,q11,hf3,hn3⟩
   have ni:=hF3.trans hf3
   have hle3:=hf3.le
   have hle':=hf.le
   have Zi:=hF.trans (hf2.trans hf3)
   have q63:=(hf1.trans Zi).get hf.wf q6
   have q73:=(hf1.trans Zi).get hf.wf q7
   have q83:=(hf1.trans Zi).get hf.wf q8
   have q93:σ3.h σ1.aj=some ⟨[Dv,Sv],none⟩:=(hf2.trans hf3).get hF.wf (aA _ _ _)
   have hxl:=hf.wf.lt q6
   have azj:=hf1.trans Zi
   have azJ:=azj.le
   have azK:=atK.b
   have azL:=atK.l
   have hM3:dR (Lt σ3.aj) σ3.h (.sl mb 0 g.e.length (.ex g.e.length)) g.e.length (λ_=>g.e.length) (gM g.e.length (aZ g) x):=((atK.hr (p:=Lt σ2.aj) λb hb=>by show b<σ2.aj;omega).fr hf2.wf hf3).keep (λ_ _=>rfl) λb hb=>aL hb hle3
   obtain⟨m1,m2,m3⟩:=h.mz hI.nn
   have hsub:=h.sub hI.nn
   have m0:∀j i,j<g.e.length->i<g.e.length->0<=gM g.e.length (aZ g) x j i:=λj i hj hi=>hsub.nn j i hj hi
   have hcn:∀j,j<g.e.length->0<=iT g j:=λj hj=>(h.m j hj).2.2.1
   obtain⟨zx,zt,zt1⟩:=hP.sz hI.t0 hI.t1
   by_cases hret:gr=false/\t=1
   .obtain⟨rfl,rfl⟩:=hret
    simp(disch:=try exact jz) only[go_sem,z3,t0,t1,t5,t6,t7,t8,t9,t10,t11,ak q73,ak q83,gn]
    exact⟨x,⟨xb,rfl,q63,hxb,jb⟩,hP,hI,(λe=>by cases e),λ_=>atm h.KA (iT g) hI,ni⟩
   .have Yt:=Fr.refl hf3.wf
    refine(show bI EN (.seq _ _) _ _ _ from wK (λtm σ4=>∃(ov:B) (of:Nat->Bool),Tr.ah tm 0=.c (.ptr sb 0)/\Tr.ah tm 1=.c (.bool gr)/\Tr.ah tm 5=.c (.int .i64 (.ofNat g.e.length))/\Tr.ah tm 6=.c (.sl xb 0 g.e.length (.ex g.e.length))/\Tr.ah tm 7=.c (.ptr (σ.aj+1) 0)/\Tr.ah tm 8=.c (.ptr (σ.aj+1+1) 0)/\Tr.ah tm 9=.c (.ptr σ1.aj 0)/\Tr.ah tm 10=.c (.sl mb 0 g.e.length (.ex g.e.length))/\Tr.ah tm 11=.c ov
     /\HL σ4.h 1 ov g.e.length (λi=>[.bool (of i)])/\(∀i j,i<g.e.length->j<g.e.length->of i=true->gM g.e.length (aZ g) x j i≠0->of j=true)/\(∀i,i<g.e.length->0<iT g i->of i=true)/\(gr=true->∀i,i<g.e.length->of i=true)/\(gr=false->t≠1/\∀i,i<g.e.length->of i=true->VA g.e.length (gM g.e.length (aZ g) x) (λk=>atu g k=true) i)/\Fr σ3 σ4) ?_ ?_)
    .cases gr with
     |true=>
      simp(disch:=try exact jz) only[go_sem,z3,t0,t1,t5,t6,t7,t8,t9,t10,t11]
      have htr:∀i,i<g.e.length->VQ g.e.length i=true:=λi hi=>by unfold VQ;rw[ab hi]
      exact⟨_,VQ g.e.length,rfl,abB q11 rfl,λ_ j _ hj _ _=>htr j hj,λi hi _=>htr i hi,λ_=>htr,(λe=>by cases e),Fr.refl hf3.wf⟩
     |false=>
      have ht1:decide (t=1)=false:=ap λe=>hret ⟨rfl,e⟩
      simp(disch:=try exact jz) only[go_sem,z3,t0,t1,t5,t6,t7,t8,t9,t10,t11,ak q73,ak q83,ht1]
      refine(akR hf3.wf (hs0.fr ni) jb λi hi=>(h.m i hi).1).mono ?_
      rintro _ σ4 ⟨⟨b4,rfl,hb4,-,-⟩,hf4⟩
      simp(disch:=try exact jz) only[go_sem,z3,t0,t1,t5,t6,t7,t8,t9,t10,t11]
      refine(adw hf4.wf (hM3.fr hf3.wf hf4) jb m1 m0 hb4).mono ?_
      rintro _ σ5 ⟨⟨b5,c5,o5,of,rfl,hb5,azk,anu,hof⟩,hf5⟩
      simp(disch:=try exact jz) only[go_sem,z3,t0,t1,t5,t6,t7,t8,t9,t10,t11]
      exact⟨_,of,rfl,abB hb5 azk,λi j hi hj h1 h2=>(hof j hj).mpr (.step ((hof i hi).mp h1) hj h2),λi hi hc=>(hof i hi).mpr (.base (bh hc) hi),(λe=>by cases e),λ_=>⟨λe=>hret ⟨rfl,e⟩,λi hi h1=>(hof i hi).mp h1⟩,hf4.trans hf5⟩
    .rintro tm4 σ4 ⟨ov,of,t0,t1,t5,t6,t7,t8,t9,t10,t11,hov,atL,azl,azm,atM,hf4⟩
     simp(disch:=try exact jz) only[go_sem,z3,t0,t1,t5,t6,t7,t8,t9,t10,t11]
     refine(aku hf4.wf (hM3.fr hf3.wf hf4) jb m3 m1 m0 hov).mono ?_
     rintro _ σ5 ⟨⟨cv,rfl,hB⟩,hf5⟩
     have iw:=hf4.trans hf5
     have abr:=ni.trans iw
     have q65:=iw.get hf3.wf q63
     have q75:=iw.get hf3.wf q73
     have q85:=iw.get hf3.wf q83
     have q95:=iw.get hf3.wf q93
     have uM:=iw.le
     have Gn:=Fr.refl hf5.wf
     have hD5:dR (λ_=>True) σ5.h Dv g.e.length (kE g.e) (L8 g x):=(hDv.fr hf1.wf (Zi.trans iw)).keep (λ_ _=>rfl) λ_ _=>trivial
     have hS5:dR (λ_=>True) σ5.h Sv g.e.length (kE g.e) (KP g x):=(hSv.fr hf1.wf (Zi.trans iw)).keep (λ_ _=>rfl) λ_ _=>trivial
     rcases hB with⟨rfl,hnone⟩|⟨i0,hi0,axk,aon,hmin,⟨cb,rfl⟩,hH⟩
     .have atN:∀S:Nat->Prop,(∃i,i<g.e.length/\S i)->(∀i,i<g.e.length->S i->of i=true)->¬Ins.Shut g.e.length (gM g.e.length (aZ g) x) S:=akn (of:=λi=>of i=true) (R:=λk=>rX g.e.length (gM g.e.length (aZ g) x) λi=>i=k) (λk _ _=>MC _ _ λi=>i=k) hnone
      by_cases ht1:t=1
      .subst ht1
       cases gr with
       |false=>exact absurd rfl (atM rfl).1
       |true=>
        simp(disch:=try exact jz) only[go_sem,z3,t0,t1,t5,t6,t7,t8,t9,t10,t11,ak q75,ak q85,gn]
        exact⟨x,⟨xb,rfl,q65,hxb,jb⟩,hP,hI,(λ_=>akq h.KA (iT g) hI λS hS=>atN S hS λi hi _=>azm rfl i hi),(λe=>by cases e),abr⟩
      .have htd:decide (t=1)=false:=ap ht1
       simp(disch:=try exact jz) only[go_sem,z3,t0,t1,t5,t6,t7,t8,t9,t10,t11,ak q75,ak q85,htd]
       refine(akt hf5.wf (hov.fr hf4.wf hf5) jb).mono ?_
       rintro _ σ6 ⟨⟨lb,rfl,hN6⟩,gJ⟩
       have jF:=abr.trans gJ
       have hlF:YT σ6.h (aU (ig of g.e.length).length lb) (ig of g.e.length):=aY.hl (hN6.hlp jj (λ_ _=>rfl) (p:=λ_=>True) λ_ _ _=>trivial)
       have hmem:∀i,i∈ig of g.e.length↔i<g.e.length/\of i=true:=λi=>Af _ _ _
       have hM6:=(hM3.fr hf3.wf (iw.trans gJ))
       simp(disch:=try exact jz) only[go_sem,z3,t0,t1,t5,t6,t7,t8,t9,t10,t11]
       refine(atJ gJ.wf (hs0.fr jF) h hI.nn hM6 hlF (Gv _ _) (λi hi=>((hmem i).mp hi).1) ?_ (λS hS hi=>atN S hS λi hi2 hSi=>((hmem i).mp (hi i hi2 hSi)).2) ?_).mono ?_
       .intro i hi j hj hjl
        by_cases e:gM g.e.length (aZ g) x j i=0
        .exact e
        .exact absurd ((hmem j).mpr ⟨hj,atL i j ((hmem i).mp hi).1 hj ((hmem i).mp hi).2 e⟩) hjl
       .intro j hj hjl
        by_cases e:0<iT g j
        .exact absurd ((hmem j).mpr ⟨hj,azl j hj e⟩) hjl
        .have:=hcn j hj;grind
       rintro _ σ7 ⟨v,⟨vb,rfl,hv1,hv2,hv3⟩,hvn,hvm,hvz,hvZ,nC⟩
       have VR:=gJ.trans nC
       have su:=abr.trans VR
       have q67:=VR.get hf5.wf q65
       have q77:=VR.get hf5.wf q75
       have q87:=VR.get hf5.wf q85
       have q97:=VR.get hf5.wf q95
       have anY:=VR.le
       obtain⟨D2,hNr⟩:=hP.nr h hvn hvZ (gH FQ)
       have hxr:jC (λ_=>True) σ7.h (.sl xb 0 g.e.length (.ex g.e.length)) g.e.length x:=bD (G:=λc=>fE (x c)) _ q67 rfl trivial (λ_=>rfl) jj λ_ _=>rfl
       have hvr:jC (λ_=>True) σ7.h (.sl vb 0 g.e.length (.ex g.e.length)) g.e.length v:=bD (G:=λc=>fE (v c)) _ hv1 rfl trivial (λ_=>rfl) jj λ_ _=>rfl
       have k1:=hD5.kn
       have k2:=hS5.kn
       simp(disch:=try exact jz) only[go_sem,z3,t0,t1,t5,t6,t7,t8,t9,t10,t11,ak q97,k1,k2]
       refine(Tc nC.wf (hs0.fr su) hxr hvr ((hDv.fr hf1.wf (Zi.trans (iw.trans VR))).keep (λ_ _=>rfl) λ_ _=>trivial) ((hSv.fr hf1.wf (Zi.trans (iw.trans VR))).keep (λ_ _=>rfl) λ_ _=>trivial) hNr).mono ?_
       rintro _ σ8 ⟨rfl,oC⟩
       have hD3:∀i,i<g.e.length->Gt ((aZ g).e i) ((aZ g).k i) (x i) (mJ g x i):=λi hi=>(akJ h hi (hI.nn i hi)).2
       have htl:t<1:=by have:=hI.t1;grind
       have key:∀w,0<=w->w<=1-t->(∀c∈jX g.e.length (aZ g) (mJ g x) x v,w<=c)->(w∈jX g.e.length (aZ g) (mJ g x) x v\/w=1-t)->BN h.KA (iT g) (!gr) (bf x v w) (t+w)/\sD g (bf x v w) (t+w)/\meas g (bf x v w) (t+w)<meas g x t:=λw w0 w1 wc hw=>by
        obtain⟨a1,a2,a3⟩:=akp h.KA (iT g) hcn hI hD3 hvn hvm (λS hS hi=>atN S hS λi hi2 hSi=>by
         by_cases e:i∈ig of g.e.length
         .exact((hmem i).mp e).2
         .have h1:=hi i hi2 hSi;rw[hvz i e]at h1;exact absurd h1 jj) htl w0 w1 wc
        by_cases hwc:w∈jX g.e.length (aZ g) (mJ g x) x v
        .have hm:=a3 hwc;have hms:meas g (bf x v w) (t+w)<meas g x t:=by unfold meas;rw[ae ht1];split<;>omega
         exact⟨a1,(hP.aj7 h hvn hvZ (gH FQ) hwc (.inr rfl) a1 hms).1,hms⟩
        .have e:=hw.resolve_left hwc;subst e;have e1:t+(1-t)=1:=by grind
         rw[e1]at a1⊢;have hms:meas g (bf x v (1-t)) 1<meas g x t:=by unfold meas;rw[ae ht1,ab rfl];omega
         exact⟨a1,hP.last h hvZ (gH FQ) ht1 a1 a2,hms⟩
       have zw:∀w,(w∈jX g.e.length (aZ g) (mJ g x) x v\/w=1-t)->Sz w/\∀i,i<g.e.length->Sz (v i)/\Sz (w*v i):=λw hw=>hP.awY h hvn hvZ (gH FQ) hI.t0 hI.t1 hw
       have agk:=VR.trans oC
       have LM:=abr.trans agk
       have q78:=agk.get hf5.wf q75
       have q88:=agk.get hf5.wf q85
       have ajV:=oC.le
       have azM:=LM.le
       have ayR:=Fr.refl oC.wf
       rcases VK (jX g.e.length (aZ g) (mJ g x) x v)with⟨e,en⟩|⟨u,en,hum,hul⟩
       .rw[en]
        have i0:(none:Option Rat).isSome=false:=rfl
        simp(disch:=try exact jz) only[go_sem,z3,t0,t1,t5,t6,t7,t8,t9,t10,t11,ak q78,ak q88,i0]
        refine aC.st (Fr σ8) (fr) λDT=>?_
        obtain⟨kI,kP,km⟩:=key (1-t) kd be (by rw[e];intro c hc;cases hc) (.inr rfl)
        obtain⟨z2,z3⟩:=zw (1-t) (.inr rfl)
        have hx9:=(agk.trans DT).get hf5.wf q65
        have hv9:=(oC.trans DT).get nC.wf hv1
        have hxr:jC (λ_=>True) _ (.sl xb 0 g.e.length (.ex g.e.length)) g.e.length x:=bD (G:=λc=>fE (x c)) _ hx9 rfl trivial (λ_=>rfl) jj λ_ _=>rfl
        have hvr:jC (λ_=>True) _ (.sl vb 0 g.e.length (.ex g.e.length)) g.e.length v:=bD (G:=λc=>fE (v c)) _ hv9 rfl trivial (λ_=>rfl) jj λ_ _=>rfl
        refine(MB DT.wf hxr hvr jb z2 zx (λi hi=>(z3 i hi).1) (λi hi=>(z3 i hi).2) (kP.sz kI.t0 kI.t1).1).mono ?_
        rintro _ σA ⟨⟨rb,rfl,hr1,hr2,hr3⟩,hfA⟩
        have q7A:=(DT.trans hfA).get oC.wf q78
        have q8A:=(DT.trans hfA).get oC.wf q88
        have ak7:σA.h σ8.aj=some ⟨[.bool (rn (1-t)),.str (rs (1-t)),.str (rd (1-t))],none⟩:=hfA.get DT.wf (aA _ _ _)
        have hFA:=LM.trans (DT.trans hfA)
        have axl:=hfA.le
        have hr2:σ8.aj+1+1<=rb:=hr2
        have axn:=Fr.refl hfA.wf
        simp(disch:=try exact jz) only[go_sem,z3,t0,t1,t5,t6,t7,t8,t9,t10,t11,ak q7A,ak ak7,aJ q7A]
        exact⟨meas g (bf x v (1-t)) (t+(1-t)),km,bf x v (1-t),t+(1-t),rb,rfl,rfl,(au _ _ _ _ jb).trans hr1,jb,rfl,q8A,kI,kP,fr,jb⟩
       .rw[en]
        have i0:(some u).isSome=true:=rfl
        have i1:gq0 (some u)=u:=rfl
        have zu:=(zw u (.inl hum)).1
        by_cases hlt:1-t<u
        .have hd:=bh hlt
         simp(disch:=try exact jz) only[go_sem,z3,t0,t1,t5,t6,t7,t8,t9,t10,t11,ak q78,ak q88,i0,i1,adW,hd]
         refine aC.st (Fr σ8) (fr) λDT=>?_
         obtain⟨kI,kP,km⟩:=key (1-t) kd be (λc hc=>by have:=hul c hc;grind) (.inr rfl)
         obtain⟨z2,z3⟩:=zw (1-t) (.inr rfl)
         have hx9:=(agk.trans DT).get hf5.wf q65
         have hv9:=(oC.trans DT).get nC.wf hv1
         have hxr:jC (λ_=>True) _ (.sl xb 0 g.e.length (.ex g.e.length)) g.e.length x:=bD (G:=λc=>fE (x c)) _ hx9 rfl trivial (λ_=>rfl) jj λ_ _=>rfl
         have hvr:jC (λ_=>True) _ (.sl vb 0 g.e.length (.ex g.e.length)) g.e.length v:=bD (G:=λc=>fE (v c)) _ hv9 rfl trivial (λ_=>rfl) jj λ_ _=>rfl
         refine(MB DT.wf hxr hvr jb z2 zx (λi hi=>(z3 i hi).1) (λi hi=>(z3 i hi).2) (kP.sz kI.t0 kI.t1).1).mono ?_
         rintro _ σA ⟨⟨rb,rfl,hr1,hr2,hr3⟩,hfA⟩
         have q7A:=(DT.trans hfA).get oC.wf q78
         have q8A:=(DT.trans hfA).get oC.wf q88
         have ak7:σA.h σ8.aj=some ⟨[.bool (rn (1-t)),.str (rs (1-t)),.str (rd (1-t))],none⟩:=hfA.get DT.wf (aA _ _ _)
         have hFA:=LM.trans (DT.trans hfA)
         have axl:=hfA.le
         have hr2:σ8.aj+1+1<=rb:=hr2
         have axn:=Fr.refl hfA.wf
         simp(disch:=try exact jz) only[go_sem,z3,t0,t1,t5,t6,t7,t8,t9,t10,t11,ak q7A,ak ak7,aJ q7A]
         exact⟨meas g (bf x v (1-t)) (t+(1-t)),km,bf x v (1-t),t+(1-t),rb,rfl,rfl,(au _ _ _ _ jb).trans hr1,jb,rfl,q8A,kI,kP,fr,jb⟩
        .have hd:=ap hlt
         simp(disch:=try exact jz) only[go_sem,z3,t0,t1,t5,t6,t7,t8,t9,t10,t11,ak q78,ak q88,i0,i1,adW,hd]
         refine aC.st (Fr σ8) (fr) λDT=>?_
         obtain⟨kI,kP,km⟩:=key u (dT (EC hD3 u hum)) kd hul (.inl hum)
         obtain⟨z2,z3⟩:=zw u (.inl hum)
         have hx9:=(agk.trans DT).get hf5.wf q65
         have hv9:=(oC.trans DT).get nC.wf hv1
         have hxr:jC (λ_=>True) _ (.sl xb 0 g.e.length (.ex g.e.length)) g.e.length x:=bD (G:=λc=>fE (x c)) _ hx9 rfl trivial (λ_=>rfl) jj λ_ _=>rfl
         have hvr:jC (λ_=>True) _ (.sl vb 0 g.e.length (.ex g.e.length)) g.e.length v:=bD (G:=λc=>fE (v c)) _ hv9 rfl trivial (λ_=>rfl) jj λ_ _=>rfl
         refine(MB DT.wf hxr hvr jb z2 zx (λi hi=>(z3 i hi).1) (λi hi=>(z3 i hi).2) (kP.sz kI.t0 kI.t1).1).mono ?_
         rintro _ σA ⟨⟨rb,rfl,hr1,hr2,hr3⟩,hfA⟩
         have q7A:=(DT.trans hfA).get oC.wf q78
         have q8A:=(DT.trans hfA).get oC.wf q88
         have ak7:σA.h σ8.aj=some ⟨[.bool (rn u),.str (rs u),.str (rd u)],none⟩:=hfA.get DT.wf ((au _ _ _ _ jb).trans ((au _ _ _ _ jb).trans (aA _ _ _)))
         have hFA:=LM.trans (DT.trans hfA)
         have axl:=hfA.le
         have hr2:σ8.aj+1+1<=rb:=hr2
         have axn:=Fr.refl hfA.wf
         simp(disch:=try exact jz) only[go_sem,z3,t0,t1,t5,t6,t7,t8,t9,t10,t11,ak q7A,ak ak7,aJ q7A]
         exact⟨meas g (bf x v u) (t+u),km,bf x v u,t+u,rb,rfl,rfl,(au _ _ _ _ jb).trans hr1,jb,rfl,q8A,kI,kP,fr,jb⟩
     .have hcls:=akm hsub (of:=λi=>of i=true) (λi j hi hj h1 h2=>atL i j hi hj h1 h2) (R:=λk=>rX g.e.length (gM g.e.length (aZ g) x) λi=>i=k) (λk _ _=>MC _ _ λi=>i=k) hi0 axk aon λk hk h1 h2=>hmin k hk h1 h2
      have k1:=hD5.kn
      have k2:=hS5.kn
      simp(disch:=try exact jz) only[go_sem,z3,t0,t1,t5,t6,t7,t8,t9,t10,t11,ak q95,k1,k2]
      refine(atH hf5.wf (hs0.fr abr) h q65 hP hD5 hS5 (hM3.fr hf3.wf iw) (aY.hl hH) hcls hI (λhl E hE hE0 hEb=>?_) (λhl=>?_)).mono ?_
      .obtain⟨i,hi,hEi,hil⟩:=hE
       have hgr:gr=false:=by cases gr with|false=>rfl|true=>cases hl
       have hof:of i=true:=by
        have h1:=((MC g.e.length (gM g.e.length (aZ g) x) λk=>k=i0).mem i).mp hil;clear hEi hil hi;induction h1 with
        |base e hi=>subst e;exact axk
        |step h1 hj hm ih=>exact atL _ _ h1.lt hj ih hm
       have hr:=(atM hgr).2 i hi hof
       clear hof hil hi
       induction hr with
       |base e hi=>have:=cR e;have e2:=hE0 _ hi hEi;unfold iT at e2;grind
       |step h1 hj hm ih=>exact ih (hEb _ _ hj h1.lt hEi hm)
      .have hgr:gr=false:=by cases gr with|false=>rfl|true=>cases hl
       have h1:=(atM hgr).1
       have h2:=hI.t1
       grind
      rintro _ σ6 ⟨y,⟨yb,rfl,hy1,hy2,hy3⟩,hI',hP',hms,gJ⟩
      have jF:=abr.trans gJ
      have yg:=gJ.le
      have q76:=gJ.get hf5.wf q75
      have q86:=gJ.get hf5.wf q85
      simp(disch:=try exact jz) only[go_sem,z3,t0,t1,t5,t6,t7,t8,t9,t10,t11]
      exact⟨meas g y t,hms,y,t,yb,rfl,rfl,hy1,jb,q76,q86,hI',hP',jF,jb⟩
def axo(p:Nat->Prop)(h:Tr Bk)(r:V)(g:fP)(x:Nat->Rat):Prop:=∃rr,r=.aW rr (.aW (.c (.int .i64 (.ofNat 0))) .tnil)/\abm p h rr g x
def abm.keep{p q:Nat->Prop}{h h':Tr Bk}{r:V}{g:fP}{x:Nat->Rat}(hs:abm p h r g x)(hk:∀b,p b->h' b=h b)(hq:∀b,p b->q b):abm q h' r g x:=by obtain⟨cm,G,Dv,Rf,Nt,Su,Re,Fu,rfl,h1,h2,h3,h4,h5,h6,h7,h8⟩:=hs;exact⟨cm,G,Dv,Rf,Nt,Su,Re,Fu,rfl,aY.keep h1 hk hq,h2.keep hk hq,h3.keep hk hq,h4.keep hk hq,h5.keep hk hq,aY.keep h6 hk hq,aY.keep h7 hk hq,aY.keep h8 hk hq⟩
def abm.kn8{p:Nat->Prop}{h:Tr Bk}{r:V}{g:fP}{x:Nat->Rat}(hs:abm p h r g x):∃cm G Dv Rf Nt Su Re Fu,r=.agg [cm,G,Dv,Rf,Nt,Su,Re,Fu]/\cm.kn=true/\G.kn=true/\Dv.kn=true/\Rf.kn=true/\Nt.kn=true/\Su.kn=true/\Re.kn=true/\Fu.kn=true:=by obtain⟨cm,G,Dv,Rf,Nt,Su,Re,Fu,rfl,h1,h2,h3,h4,h5,h6,h7,h8⟩:=hs;exact⟨cm,G,Dv,Rf,Nt,Su,Re,Fu,rfl,aY.kn h1,h2.kn,h3.kn,h4.kn,h5.kn,aY.kn h6,aY.kn h7,aY.kn h8⟩
def VT{σ:St}(hW:WF σ){p:Nat->Prop}{ev dv:B}{g:fP}(hg:sS p σ.h ev dv g)(h:kL g):
  aC EN 13 [.agg [ev,dv]] σ λr σ'=>∃x,axo (λb=>σ.aj<=b/\b<σ'.aj) σ'.h r g x/\sD g x 1/\BN h.KA (iT g) false x 1/\Grt (n:=g.e.length) (g:=aZ g) (iT g) x/\Fr σ σ':=by
 refine aN (sU.o _ _) sU.h ?_
 unfold sU
 dsimp only
 obtain⟨_,hM0⟩:=(J3 h).map h
 have hek:=hg.e.kn
 have hdk:=hg.d.kn
 have hFr:=Fr.refl hW
 simp(disch:=try exact jz) only[go_sem,z3,hek,hdk]
 refine aC.st (Fr σ) (fr) λhF=>?_
 refine(ado hF.wf (hg.fr hW hF) h.z h.bld (λi hi=>(h.m i hi).1) λd hd=>(h.d d hd).2.1).mono ?_
 rintro _ σ2 ⟨rfl,hf2⟩
 have hF2:=hF.trans hf2
 have q0:=hf2.get hF.wf (aA _ _ _)
 have q00:=hf2.get hF.wf ((au _ _ _ _ jb).trans (aA _ _ _))
 have hd0:decide ((0:Int)=Int.ofNat 0)=true:=rfl
 have hle2:σ.aj+1+1<=σ2.aj:=hf2.le
 simp(disch:=try exact jz) only[go_sem,z3,hek,hdk,hd0,ak q00,q00]
 refine(adk hf2.wf g (hg.fr hW hF2) hM0.a h.bld).mono ?_
 rintro _ σ3 ⟨⟨sb,rfl,hS⟩,hf3⟩
 have hf3:=hf2.trans hf3
 have hF3:=hF.trans hf3
 simp(disch:=try exact jz) only[go_sem,z3]
 refine(adZ hf3.wf hS h true).mono ?_
 rintro _ σ4 ⟨x,⟨xb,rfl,hx1,hx2,hx3⟩,hP,hI,hgt,hls,hf4⟩
 have ni:=hF3.trans hf4
 obtain⟨D,hMg⟩:=hP.mg h
 simp(disch:=try exact jz) only[go_sem,z3]
 refine(YB hf4.wf (hS.fr hf4) hx1 hMg.A.s).mono ?_
 rintro _ σ5 ⟨hV,hf5⟩
 have iw:=ni.trans hf5
 have hle3:σ.aj+1+1<=σ3.aj:=hf3.le
 have uO:=hf4.le
 have uM:=hf5.le
 have Gn:=Fr.refl hf5.wf
 have q1:=(hf3.trans (hf4.trans hf5)).get hF.wf (aA _ _ _)
 obtain⟨cm,G,Dv,Rf,Nt,Su,Re,Fu,er,k1,k2,k3,k4,k5,k6,k7,k8⟩:=hV.kn8
 subst er
 simp(disch:=try exact jz) only[go_sem,z3,ak q1,aJ q1,k1,k2,k3,k4,k5,k6,k7,k8]
 exact⟨x,⟨_,rfl,hV.keep (λb hb=>au _ _ _ _ jb) λb hb=>⟨jb,hb.2⟩⟩,hP,hI,hgt rfl,fr⟩
def ad1{σ:St}(hW:WF σ){p:Nat->Prop}{ev dv:B}{g:fP}(hg:sS p σ.h ev dv g)(h:kL g):
  aC EN 14 [.agg [ev,dv]] σ λr σ'=>∃x,axo (λb=>σ.aj<=b/\b<σ'.aj) σ'.h r g x/\sD g x 1/\BN h.KA (iT g) true x 1/\Ins.yx (n:=g.e.length) (g:=aZ g) (iT g) x/\Fr σ σ':=by
 refine aN (sV.o _ _) sV.h ?_
 unfold sV
 dsimp only
 obtain⟨_,hM0⟩:=(J3 h).map h
 have hek:=hg.e.kn
 have hdk:=hg.d.kn
 have hFr:=Fr.refl hW
 simp(disch:=try exact jz) only[go_sem,z3,hek,hdk]
 refine aC.st (Fr σ) (fr) λhF=>?_
 refine(ado hF.wf (hg.fr hW hF) h.z h.bld (λi hi=>(h.m i hi).1) λd hd=>(h.d d hd).2.1).mono ?_
 rintro _ σ2 ⟨rfl,hf2⟩
 have hF2:=hF.trans hf2
 have q0:=hf2.get hF.wf (aA _ _ _)
 have q00:=hf2.get hF.wf ((au _ _ _ _ jb).trans (aA _ _ _))
 have hd0:decide ((0:Int)=Int.ofNat 0)=true:=rfl
 have hle2:σ.aj+1+1<=σ2.aj:=hf2.le
 simp(disch:=try exact jz) only[go_sem,z3,hek,hdk,hd0,ak q00,q00]
 refine(adk hf2.wf g (hg.fr hW hF2) hM0.a h.bld).mono ?_
 rintro _ σ3 ⟨⟨sb,rfl,hS⟩,hf3⟩
 have hf3:=hf2.trans hf3
 have hF3:=hF.trans hf3
 simp(disch:=try exact jz) only[go_sem,z3]
 refine(adZ hf3.wf hS h false).mono ?_
 rintro _ σ4 ⟨x,⟨xb,rfl,hx1,hx2,hx3⟩,hP,hI,hgt,hls,hf4⟩
 have ni:=hF3.trans hf4
 obtain⟨D,hMg⟩:=hP.mg h
 simp(disch:=try exact jz) only[go_sem,z3]
 refine(YB hf4.wf (hS.fr hf4) hx1 hMg.A.s).mono ?_
 rintro _ σ5 ⟨hV,hf5⟩
 have iw:=ni.trans hf5
 have hle3:σ.aj+1+1<=σ3.aj:=hf3.le
 have uO:=hf4.le
 have uM:=hf5.le
 have Gn:=Fr.refl hf5.wf
 have q1:=(hf3.trans (hf4.trans hf5)).get hF.wf (aA _ _ _)
 obtain⟨cm,G,Dv,Rf,Nt,Su,Re,Fu,er,k1,k2,k3,k4,k5,k6,k7,k8⟩:=hV.kn8
 subst er
 simp(disch:=try exact jz) only[go_sem,z3,ak q1,aJ q1,k1,k2,k3,k4,k5,k6,k7,k8]
 exact⟨x,⟨_,rfl,hV.keep (λb hb=>au _ _ _ _ jb) λb hb=>⟨jb,hb.2⟩⟩,hP,hI,hls rfl,fr⟩
section
variable {n:Nat} {m:Nat→Rat} {cl:Nat→List C5} {al:Nat→List gV} {dl:List uU}
def pV.c60{A:Nat}{q:Rat}(h:pV A 30 q):pV A 60 q:=⟨h.1,h.2.1,cI h.2.2 jj⟩
def BG.y7(h:BG n m cl al dl):kL (V5 n m cl al dl):=by
 have hn:=zD n m cl al dl;have hz:=DK h.zero;have hix:∀i,i<(V5 n m cl al dl).e.length->ix (V5 n m cl al dl).e i=⟨vS (m i),cl i,al i⟩:=λi hi=>YM m cl al dl jb;refine⟨by have:=h.n4;omega,h.bld,h.small,h.zero,λi hi=>?_,λi hi=>?_,λi hi=>?_,λi hi=>?_,λi hi k=>?_,λi hi c hc=>?_,λi hi=>?_,by show dl.length<=3;exact h.d.1,λd hd=>?_⟩
 .rw[h.kE jb];exact(h.c i jb).1
 .rw[h.kE jb,hix i hi];have e:=h.ed (i:=i) jb;exact⟨λt ht p hp=>⟨(e.rk t ht p hp).1,pV.c60 (e.rk t ht p hp).2⟩,λq hq t ht p hp=>⟨(e.ps q hq t ht p hp).1,pV.c60 (e.ps q hq t ht p hp).2⟩⟩
 .rw[h.kE jb,hix i hi];exact(h.eb jb).1
 .rw[hix i hi];obtain⟨-,e1,e2,e3⟩:=h.eb (i:=i) jb;refine⟨e1,by show(Va (cl i) (cl i).length).length<=8;grind[Va],e2,λp hp=>⟨e3 p hp,?_⟩⟩;obtain⟨a,ha,rfl⟩:=cC.mp hp;obtain⟨j,hj,rfl⟩:=aM ha;rw[<-dV hj];obtain⟨h3,hT⟩:=h.tl (show i<n by omega) hj;obtain⟨l1,-⟩:=adf (cs:=cl i) hT;grind[oD]
 .rw[hix i hi];exact pV.c60 (h.cap jb k)
 .rw[h.kE jb]at hc;rw[hix i hi];rcases((h.c i jb).2 c hc).1 with h1|⟨j,hj,-,h1⟩
  .grind
  grind
 .rw[hix i hi];obtain⟨v,e⟩:=h.mm i jb;show(vS (m i)).fits _/\pV 60 60 (vS (m i)).q;grind[J8,ug,Eu]
 .obtain⟨hl,v,e⟩:=h.d.2 d hd;show(ix dl d).l.length<=4/\(ix dl d).w.fits _/\pV 60 60 (ix dl d).w.q;grind[J8,ug,Eu]
end
def GI.bg{σ σ':St}{t11 n eb:Nat}{dv:B}{m:Nat->Rat}{cl:Nat->List C5}{bs:Nat->Nat}{A:Nat->B}{al:Nat->List gV}{dl:List uU}(h:GI σ σ' t11 n eb dv m cl bs A al dl)(h0:0<n)(h4:n<=4):BG n m cl al dl:=⟨h0,h4,h.m,h.c,h.a,h.d,h.dg⟩
def atO(c:Nat)(i:Nat):Rat:=if i=0 then(c:Rat)else 0
def atP(more:Bool)(i:Nat):List C5:=if i=0 then⟨1,2,vS 10⟩::(if more then [⟨-1,2,vS 10⟩]else [])else [⟨0,2,vS 10⟩]
def Fg(c:Nat)(more:Bool):fP:=V5 2 (atO c) (atP more) (λ_=>[]) []
def atQ:amt 6=10:=by rfl
def VU{c:Nat}(hc:∃v,(c:Rat)=amt v)(more:Bool):BG 2 (atO c) (atP more) (λ_=>[]) []:=by
 have h10:∃v,vS 10=vS (amt v):=⟨6,by rw[atQ]⟩
 refine⟨jb,jb,λi _=>?_,λi hi=>?_,λi _=>⟨jj,λj hj=>by cases hj⟩,⟨jj,λj hj=>by cases hj⟩,λj hj=>by cases hj⟩
 .unfold atO;split
  .exact hc
  .exact⟨2,by rfl⟩
 .unfold atP;split
  .next e=>
   subst e;cases more with
   |false=>
    refine⟨jj,λk hk=>?_⟩
    match k,hk with
    |0,_=>exact⟨.inr ⟨1,jb,jb,rfl⟩,⟨2,jb,rfl⟩,h10⟩
   |true=>
    refine⟨jj,λk hk=>?_⟩
    match k,hk with
    |0,_=>exact⟨.inr ⟨1,jb,jb,rfl⟩,⟨2,jb,rfl⟩,h10⟩
    |1,_=>exact⟨.inl rfl,⟨2,jb,rfl⟩,h10⟩
  .next e=>
   refine⟨jj,λk hk=>?_⟩;match k,hk with
   |0,_=>exact⟨.inr ⟨0,jb,jb,rfl⟩,⟨2,jb,rfl⟩,h10⟩
def two(a b:Rat)(i:Nat):Rat:=if i=0 then a else b
def ak8{P:Nat->Prop}(h0:P 0)(h1:P 1):∀i,i<2->P i:=λi hi=>by grind
def ad2{g:fP}(h:kL g)(hn:g.e.length=2){a b:Rat}(ha:0<=a)(hb:0<=b)(e0:a=iT g 0+gG 2 (aZ g) (two a b) 0)(e1:b=iT g 1+gG 2 (aZ g) (two a b) 1)
  (hs:aB 2 (λj=>gM 2 (aZ g) (two a b) j 0)≠1) (hs1:aB 2 (λj=>gM 2 (aZ g) (two a b) j 1)≠1\/gM 2 (aZ g) (two a b) 0 1≠0){x:Nat->Rat}(hx:Grt (n:=g.e.length) (g:=aZ g) (iT g) x):x 0=a/\x 1=b:=by
 have hI:BN h.KA (iT g) false (two a b) 1:=by
  refine⟨?_,jj,be,?_,λe=>by cases e⟩
  .rw[hn];exact ak8 ha hb
  .intro j hj;rw[hJ];show two a b j=iT g j+gG g.e.length (aZ g) (two a b) j;grind[two]
 have hno:∀S:Nat->Prop,(∃i,i<g.e.length/\S i)->¬Ins.Shut g.e.length (gM g.e.length (aZ g) (two a b)) S:=by
  rw[hn];rintro S ⟨i,hi,hSi⟩ hS;have n0:¬S 0:=λh0=>hs (hS 0 jb h0).1;have n1:¬S 1:=λh1=>by obtain⟨s1,s2⟩:=hS 1 jb h1;grind
  grind
 have hu:=Grt.uniq _ hx (akq h.KA (iT g) hI hno)
 exact⟨hu 0 jb,hu 1 jb⟩
def axq{x:Nat->Rat}(hx:Grt (n:=(Fg 0 false).e.length) (g:=aZ (Fg 0 false)) (iT (Fg 0 false)) x):x 0=10/\x 1=10:=
 ad2 (VU ⟨2,by rfl⟩ false).y7 (zD ..) jj jj (by decide+kernel) (by decide+kernel) (by decide+kernel) (.inl (by decide+kernel)) hx
def axr{x:Nat->Rat}(hx:Grt (n:=(Fg 3 true).e.length) (g:=aZ (Fg 3 true)) (iT (Fg 3 true)) x):x 0=6/\x 1=3:=
 ad2 (VU ⟨17,by rfl⟩ true).y7 (zD ..) jj jj (by decide+kernel) (by decide+kernel) (by decide+kernel) (.inr (by decide+kernel)) hx
def axt{x:Nat->Rat}(hx:Ins.yx (n:=(Fg 0 false).e.length) (g:=aZ (Fg 0 false)) (iT (Fg 0 false)) x):x 0=0/\x 1=0:=by have hn:(Fg 0 false).e.length=2:=zD ..;have h:=hx.lst (λ_=>0) (λ_ _=>be) (by rw[hn];exact ak8 (by decide+kernel) (by decide+kernel));have h0:=hx.nn;rw[hn]at h h0;exact⟨Rat.le_antisymm (h 0 jb) (h0 0 jb),Rat.le_antisymm (h 1 jb) (h0 1 jb)⟩
def VW{σ:St}(hW:WF σ){p:Nat->Prop}{cm G Dv Rf Nt Su Re Fu:B}{x:Nat->Rat}(hv:jC p σ.h cm 2 x)(k1:G.kn=true)(k2:Dv.kn=true)(k3:Rf.kn=true)(k4:Nt.kn=true)(k5:Su.kn=true)(k6:Re.kn=true)(k7:Fu.kn=true){a b:Nat}(ha:a<=1000)(hb:b<=1000)(h0:x 0=((Int.ofNat a:Int):Rat))(h1:x 1=((Int.ofNat b:Int):Rat)):
  aC EN 43 [.agg [cm,G,Dv,Rf,Nt,Su,Re,Fu],.c (.int .i64 (.ofNat a)),.c (.int .i64 (.ofNat b))] σ λr σ'=>r=.c (.bool true)/\Fr σ σ':=by
 refine aN (Df.o _ _) Df.h ?_
 unfold Df
 dsimp only
 have hk:=aY.kn hv
 have hl:=aY.len hv
 obtain⟨b5,o5,c5,rfl,-,l0⟩:=aY.at3 hv (c:=0) jb
 obtain⟨b6,o6,c6,e,-,l1⟩:=aY.at3 hv (c:=1) jb
 cases e
 rw[h0]at l0
 rw[h1]at l1
 have m0:=hW.bV l0
 have i1: -9223372036854775808<=Int.ofNat a:=by simp
 have i2:Int.ofNat a<=9223372036854775807:=by grind
 have i3: -9223372036854775808<=Int.ofNat b:=by simp
 have i4:Int.ofNat b<=9223372036854775807:=by grind
 have hFr:=Fr.refl hW
 have d2:decide (Int.ofNat 2=Int.ofNat 2)=true:=rfl
 have d3:decide (((Int.ofNat a:Int):Rat)=((Int.ofNat a:Int):Rat))=true:=bh rfl
 have d4:decide (((Int.ofNat b:Int):Rat)=((Int.ofNat b:Int):Rat))=true:=bh rfl
 simp(disch:=try exact jz) only[go_sem,z3,hk,hl,k1,k2,k3,k4,k5,k6,k7,l0,l1,d2,d3,d4]
 exact fr
def Zj{σ:St}(hW:WF σ):aC EN 42 [.c (.int .i64 (.ofNat 0)),.c (.bool false)] σ λr σ'=>(∃ev dv,r=.agg [ev,dv]/\sS (Lt σ'.aj) σ'.h ev dv (Fg 0 false))/\Fr σ σ':=by
 refine aN (nP.o _ _) nP.h ?_;unfold nP;dsimp only;have hFr:=Fr.refl hW;simp(disch:=try exact jz) only[go_sem,z3];refine⟨⟨_,_,rfl,⟨⟨λi=>if i=0 then .sl (σ.aj+1+1+1) 0 1 (.ex 1)else .sl (σ.aj+1+1+1+1) 0 1 (.ex 1),λ_=>.aX,?_,?_⟩,⟨λ_=>.aX,.inl ⟨rfl,rfl⟩,λi hi=>by cases hi⟩⟩⟩,fr⟩
 .refine bD (n:=2) (e:=5) _ ((au _ _ _ _ jb).trans (aA _ _ _)) rfl (by show σ.aj+1<σ.aj+1+1+1+1+1;omega) (λ_=>rfl) jj ?_;intro j hj;match j,hj with
  |0,_=>rfl
  |1,_=>rfl
 .intro i hi;match i,hi with
  |0,_=>exact⟨bD (n:=1) (e:=5) _ ((au _ _ _ _ jb).trans ((au _ _ _ _ jb).trans ((au _ _ _ _ jb).trans ((au _ _ _ _ jb).trans (aA _ _ _))))) rfl (by show σ.aj+1+1+1<σ.aj+1+1+1+1+1;omega) (λ_=>rfl) jj (λ_ _=>rfl),λ_=>.aX,.inl ⟨rfl,rfl⟩,λi hi=>by cases hi⟩
  |1,_=>exact⟨bD (n:=1) (e:=5) _ ((au _ _ _ _ jb).trans ((au _ _ _ _ jb).trans (aA _ _ _))) rfl (by show σ.aj+1+1+1+1<σ.aj+1+1+1+1+1;omega) (λ_=>rfl) jj (λ_ _=>rfl),λ_=>.aX,.inl ⟨rfl,rfl⟩,λi hi=>by cases hi⟩
def agl{σ:St}{ty gU bytes b:Nat}{cs news:List B}(hb:σ.h b=some ⟨cs,none⟩)(hl:cs.length=gU)(hk:cs.all B.kn=true)(h2:0<gU)(h3:2*bytes<=140737488355328):qF ty gU bytes (.c (.sl b 0 1 (.ex 1))) 1 news σ=some (.c (.sl σ.aj 0 2 .opn),⟨hset σ.h σ.aj ⟨cs++news,some (gU,ty)⟩,σ.aj+1⟩):=by
 unfold qF;dsimp only;rw[NU (by omega:1≠0),hb];have e1:Nat.beq gU gU=true:=by simp
 simp only[fj,Bk.rd,Nat.one_mul,gp,<-hl,bR,hk,FD (hl▸h2),vW h3,dy,cB,jS,qE,Bool.true_and];rw[show(0+cs.length).ble cs.length=true by simp];rfl
def ak9{σ:St}(hW:WF σ):aC EN 42 [.c (.int .i64 (.ofNat 3)),.c (.bool true)] σ λr σ'=>(∃ev dv,r=.agg [ev,dv]/\sS (Lt σ'.aj) σ'.h ev dv (Fg 3 true))/\Fr σ σ':=by
 refine aN (nP.o _ _) nP.h ?_;unfold nP;dsimp only;have hFr:=Fr.refl hW;simp(disch:=try exact jz) only[go_sem,z3];rw[agl (gU:=5) (cs:=[.int .i64 (.ofNat 1),.int .i64 (.ofNat 2),.bool (rn ((Int.ofNat 10:Int):Rat)),.str (rs ((Int.ofNat 10:Int):Rat)),.str (rd ((Int.ofNat 10:Int):Rat))]) ?hb rfl rfl jj jj]
 case hb=>grind[au,aA]
 simp(disch:=try exact jz) only[go_sem,z3];refine⟨⟨_,_,rfl,⟨⟨λi=>if i=0 then .sl (σ.aj+1+1+1+1+1+1) 0 2 .opn else .sl (σ.aj+1+1+1+1) 0 1 (.ex 1),λ_=>.aX,?_,?_⟩,⟨λ_=>.aX,.inl ⟨rfl,rfl⟩,λi hi=>by cases hi⟩⟩⟩,fr⟩
 .refine bD (n:=2) (e:=5) _ ((au _ _ _ _ jb).trans (aA _ _ _)) rfl (by show σ.aj+1<σ.aj+1+1+1+1+1+1+1;omega) (λ_=>rfl) jj ?_;intro j hj;match j,hj with
  |0,_=>rfl
  |1,_=>rfl
 .intro i hi;match i,hi with
  |0,_=>
   refine⟨bD (n:=2) (e:=5) _ ((au _ _ _ _ jb).trans ((au _ _ _ _ jb).trans (aA _ _ _))) (CQ _ _ jj) (by show σ.aj+1+1+1+1+1+1<σ.aj+1+1+1+1+1+1+1;omega) (λ_=>rfl) jj ?_,λ_=>.aX,.inl ⟨rfl,rfl⟩,λi hi=>by cases hi⟩
   intro j hj
   rfl
  |1,_=>exact⟨bD (n:=1) (e:=5) _ ((au _ _ _ _ jb).trans ((au _ _ _ _ jb).trans ((au _ _ _ _ jb).trans ((au _ _ _ _ jb).trans ((au _ _ _ _ jb).trans (aA _ _ _)))))) rfl (by show σ.aj+1+1+1+1<σ.aj+1+1+1+1+1+1+1;omega) (λ_=>rfl) jj (λ_ _=>rfl),λ_=>.aX,.inl ⟨rfl,rfl⟩,λi hi=>by cases hi⟩
def aoQ{σ:St}(hW:WF σ):aC EN 18 [] σ λr σ'=>r=.c (.bool true)/\Fr σ σ':=by refine aN (Dc.o _ _) Dc.h ?_;unfold Dc;dsimp only;have g0:kL (Fg 0 false):=(VU ⟨2,by rfl⟩ false).y7;have g3:kL (Fg 3 true):=(VU ⟨17,by rfl⟩ true).y7;have n0:(Fg 0 false).e.length=2:=zD ..;have n3:(Fg 3 true).e.length=2:=zD ..;simp(disch:=try exact jz) only[go_sem,z3];refine(Zj hW).mono ?_;rintro _ σ1 ⟨⟨ev,dv,rfl,hg⟩,hf1⟩;have ek:=hg.e.kn;have dk:=hg.d.kn;simp(disch:=try exact jz) only[go_sem,z3,ek,dk];refine(VT hf1.wf hg g0).mono ?_;rintro _ σ2 ⟨x,⟨rr,rfl,hV⟩,-,-,hx,hf2⟩;obtain⟨cm,G,Dv,Rf,Nt,Su,Re,Fu,rfl,v1,v2,v3,v4,v5,v6,v7,v8⟩:=hV;have k1:=aY.kn v1;have k2:=v2.kn;have k3:=v3.kn;have k4:=v4.kn;have k5:=v5.kn;have k6:=aY.kn v6;have k7:=aY.kn v7;have k8:=aY.kn v8;have abn:=Fr.refl hf2.wf;simp(disch:=try exact jz) only[go_sem,z3,k1,k2,k3,k4,k5,k6,k7,k8];refine aC.st (Fr σ2) (fr) λhFa=>?_;refine(Zj hFa.wf).mono ?_;rintro _ σ3 ⟨⟨ev,dv,rfl,hg⟩,hf3⟩;have ek:=hg.e.kn;have dk:=hg.d.kn;simp(disch:=try exact jz) only[go_sem,z3,ek,dk];refine(ad1 hf3.wf hg g0).mono ?_;rintro _ σ4 ⟨y,⟨rr,rfl,hV⟩,-,-,hy,hf4⟩;obtain⟨cm',G',Dv',Rf',Nt',Su',Re',Fu',rfl,w1,w2,w3,w4,w5,w6,w7,w8⟩:=hV;have j1:=aY.kn w1;have j2:=w2.kn;have j3:=w3.kn;have j4:=w4.kn;have j5:=w5.kn;have j6:=aY.kn w6;have j7:=aY.kn w7;have j8:=aY.kn w8;have ER:=Fr.refl hf4.wf;simp(disch:=try exact jz) only[go_sem,z3,j1,j2,j3,j4,j5,j6,j7,j8];refine aC.st (Fr σ4) (fr) λhFb=>?_;refine(ak9 hFb.wf).mono ?_;rintro _ σ5 ⟨⟨ev,dv,rfl,hg⟩,hf5⟩;have ek:=hg.e.kn;have dk:=hg.d.kn;simp(disch:=try exact jz) only[go_sem,z3,ek,dk];refine(VT hf5.wf hg g3).mono ?_;rintro _ σ6 ⟨z,⟨rr,rfl,hV⟩,-,-,hz,gJ⟩;obtain⟨cq,Gq,Dq,Rq,Nq,Sq,Eq,Fq,rfl,u1,u2,u3,u4,u5,u6,u7,u8⟩:=hV;have i1:=aY.kn u1;have i2:=u2.kn;have i3:=u3.kn;have i4:=u4.kn;have i5:=u5.kn;have i6:=aY.kn u6;have i7:=aY.kn u7;have i8:=aY.kn u8;have abL:=hFa.trans (hf3.trans hf4);have aoR:=hFb.trans (hf5.trans gJ);have q1:=(hf3.trans (hf4.trans aoR)).get hFa.wf (aA _ _ _);have q3:=(hf5.trans gJ).get hFb.wf (aA _ _ _);have awt:=Fr.refl gJ.wf;have l2:=gJ.wf.lt q1;have l4:=gJ.wf.lt q3;have d0:decide (Int.ofNat 0=Int.ofNat 0)=true:=rfl;have d1:decide ((0:Int)=Int.ofNat 0)=true:=rfl;rw[n0]at v1 w1;rw[n3]at u1;simp(disch:=try exact jz) only[go_sem,z3,i1,i2,i3,i4,i5,i6,i7,i8,ak q1,q1,k1,k2,k3,k4,k5,k6,k7,k8,d0,d1];refine aC.st (Fr σ6) (fr) λhFc=>?_;obtain⟨x0,x1⟩:=axq hx;obtain⟨y0,y1⟩:=axt hy;obtain⟨z0,z1⟩:=axr hz;refine(VW (a:=10) (b:=10) hFc.wf (aY.fr hf2.wf (abL.trans (aoR.trans hFc)) v1) k2 k3 k4 k5 k6 k7 k8 jj jj x0 x1).mono ?_;rintro _ σ7 ⟨rfl,nC⟩;have q37:=(hFc.trans nC).get gJ.wf q3;have q57:=nC.get hFc.wf (aA _ _ _);have aoS:=abL.trans (aoR.trans (hFc.trans nC));have aAC:=Fr.refl nC.wf;simp(disch:=try exact jz) only[go_sem,z3,ak q37,q37,j1,j2,j3,j4,j5,j6,j7,j8];refine(VW (a:=0) (b:=0) nC.wf (aY.fr hf4.wf (aoR.trans (hFc.trans nC)) w1) j2 j3 j4 j5 j6 j7 j8 jj jj y0 y1).mono ?_;rintro _ σ8 ⟨rfl,oC⟩;have q58:=oC.get nC.wf q57;simp(disch:=try exact jz) only[go_sem,z3,ak q58,q58,i1,i2,i3,i4,i5,i6,i7,i8];refine(VW (a:=6) (b:=3) oC.wf (aY.fr gJ.wf (hFc.trans (nC.trans oC)) u1) i2 i3 i4 i5 i6 i7 i8 jj jj z0 z1).mono ?_;rintro _ σ9 ⟨rfl,YK⟩;have hFz:=hf1.trans (hf2.trans (aoS.trans (oC.trans YK)));simp(disch:=try exact jz) only[go_sem,z3];exact hFz
def GH{σ:St}(hW:WF σ){p p':Nat->Prop}{av bv:B}{n:Nat}{f g:Nat->Rat}(ha:jC p σ.h av n f)(hb:jC p' σ.h bv n g)(hn:n<=1000)(he:∀i,i<n->f i=g i):
  aC EN 19 [.c av,.c bv] σ λr σ'=>r=.c (.bool true)/\Fr σ σ':=by
 refine aN (yV.o _ _) yV.h ?_
 unfold yV
 dsimp only
 have hla:=aY.len ha
 have hlb:=aY.len hb
 have hka:=aY.kn ha
 have hkb:=aY.kn hb
 have hFr:=Fr.refl hW
 have hd0:decide (Int.ofNat n=Int.ofNat n)=true:=bh rfl
 simp(disch:=try exact jz) only[go_sem,z3,hla,hlb,hd0]
 refine aF (λx tm σ'=>∃j,x=n-j/\j<=n/\Tr.ah tm 0=.c av/\Tr.ah tm 1=.c bv/\Tr.ah tm 5=.c (.int .i64 (.ofNat j))/\Fr σ σ') n ?_ ?_
 .refine⟨0,jb,jb,?_⟩
  simp(disch:=try exact jz) only[go_sem,z3,am]
  exact hFr
 .rintro x tm σ' ⟨j,rfl,hj,t0,t1,t5,hF⟩
  simp(disch:=try exact jz) only[go_sem,z3,t0,t1,t5,hla,aG]
  refine aH (λhlt=>?_) (λhlt=>?_)
  .obtain⟨b5,o5,c5,rfl,-,bF⟩:=aY.at3 ha hlt
   obtain⟨b6,o6,c6,rfl,-,bZ⟩:=aY.at3 hb hlt
   have bF:=hF.ld hW bF
   have bZ:=hF.ld hW bZ
   have hq:decide (f j=g j)=true:=bh (he j hlt)
   have jM:=Fr.refl hF.wf
   simp(disch:=try exact jz) only[go_sem,z3,t0,t1,t5,bF,bZ,hq]
   exact⟨n-(j+1),jb,j+1,rfl,jb,rfl,hF⟩
  .simp(disch:=try exact jz) only[go_sem,z3,am]
   exact hF
end Go.Proofs.Xe
