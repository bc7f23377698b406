import Derived.Test.YthkggcakedkboaaGreatDoorY39
set_option linter.all false
set_option maxRecDepth 100000
set_option maxHeartbeats 8000000
namespace Go.Proofs.Xe
open Go.RowKit Go.Proofs.Ins
def TN(i k:Nat):Bool:=if k<i then true else false
def aix{n i:Nat}:ones n (aT (λk=>B.bool (TN i k)) i (.bool true))=ones n λk=>.bool (TN (i+1) k):=dQ λk _=>by grind[aT,TN]
def abq(a b:Rat):decide (Int.ofNat 0<oJ a b)=decide (b<a):=by grind[oJ,nO]
def abr{σ:St}(hW:WF σ){sb:Nat}{g:iD}(hs:DC (Lt σ.aj) σ.h sb g)(h:kK g)(gr:Bool):
  aC EN 33 [.c (.ptr sb 0),.c (.bool gr)] σ λr σ'=>∃x,SV σ σ' r g.e.length x/\uT g x 1/\Ag h.Jk (iG g) (!gr) x 1/\(gr=true->Grt (n:=g.e.length) (g:=aY g) (iG g) x)/\(gr=false->Ins.vG (n:=g.e.length) (g:=aY g) (iG g) x)/\Fr σ σ':=by
 refine aN (jW.o _ _) jW.h ?_
 unfold jW
 dsimp only
 have hn8:=h.n
 have hs0:=hs
 obtain⟨⟨ev,gv,lv,bv,hsb,hg,⟨R,P,hL1,hL2⟩,hB⟩,hsl⟩:=hs
 have hsl:sb<σ.aj:=hsl
 have hlk:=hL1.kn
 have hll:=hL1.len
 have hFr:=Fr.refl hW
 have z1:=sz1
 simp(disch:=try exact jz) only[go_sem,z3,ak hsb,hll,hlk]
 refine aF (λq tm σ'=>∃x t xb,q=meas g x t/\Tr.ah tm 0=.c (.ptr sb 0)/\Tr.ah tm 1=.c (.bool gr)/\Tr.ah tm 5=.c (.int .i64 (.ofNat g.e.length))/\Tr.ah tm 6=.c (.sl xb 0 g.e.length (.ex g.e.length))/\Tr.ah tm 7=.c (.ptr (σ.aj+1) 0)/\Tr.ah tm 8=.c (.ptr (σ.aj+1+1) 0)
   /\σ'.h xb=some ⟨bU g.e.length x,none⟩/\σ.aj<=xb/\σ'.h (σ.aj+1)=some ⟨[.bool (rn t),.str (rs t),.str (rd t)],none⟩/\σ'.h (σ.aj+1+1)=some ⟨[.bool (rn 1),.str (rs 1),.str (rd 1)],none⟩/\Ag h.Jk (iG g) (!gr) x t/\uT g x t/\Fr σ σ'/\σ.aj+1+1+1<=σ'.aj) (meas g (λ_=>0) 0) ?_ ?_
 .refine⟨λ_=>0,0,σ.aj,rfl,?_⟩
  simp(disch:=try exact jz) only[go_sem,z3,ap]
  exact⟨jp,inv_start h.Jk (iG g) (!gr),IB h,fr,jp⟩
 .rintro q tm σ' ⟨x,t,xb,rfl,t0,t1,t5,t6,t7,t8,q6,hxb,q7,q8,hI,hP,hf,hnx⟩
  have jQ:=Fr.refl hf.wf
  obtain⟨D,hMg⟩:=hP.mg h
  simp(disch:=try exact jz) only[go_sem,z3,t0,t1,t5,t6,t7,t8]
  refine(apV hf.wf (hs0.fr hf) q6 hMg).mono ?_
  rintro _ σ1 ⟨⟨Dv,Sv,rfl,hDv,hSv⟩,hf1⟩
  have hF1:=hf.trans hf1
  have ac3:=Fr.refl hf1.wf
  have k1:=hDv.kn
  have k2:=hSv.kn
  simp(disch:=try exact jz) only[go_sem,z3,t0,t1,t5,t6,t7,t8,k1,k2]
  refine aC.st (Fr σ1) (fr) λhF=>?_
  have hF2:=hF1.trans hF
  refine(ado hF.wf (hs0.fr hF2) (hDv.fr hf1.wf hF) (hSv.fr hf1.wf hF) hMg).mono ?_
  rintro _ σ2 ⟨⟨mb,bs,hi,rfl,hm1,hm2,aqs⟩,hf2⟩
  have hF3:=hF2.trans hf2
  have Zc:=Fr.refl hf2.wf
  simp(disch:=try exact jz) only[go_sem,z3,t0,t1,t5,t6,t7,t8]
  refine bK.mono (Q:=λex tm σ3=>ex=.exit 2/\Tr.ah tm 0=.c (.ptr sb 0)/\Tr.ah tm 1=.c (.bool gr)/\Tr.ah tm 5=.c (.int .i64 (.ofNat g.e.length))/\Tr.ah tm 6=.c (.sl xb 0 g.e.length (.ex g.e.length))/\Tr.ah tm 7=.c (.ptr (σ.aj+1) 0)/\Tr.ah tm 8=.c (.ptr (σ.aj+1+1) 0)/\Tr.ah tm 9=.c (.ptr σ1.aj 0)/\Tr.ah tm 10=.c (.sl mb 0 g.e.length (.ex g.e.length))/\Tr.ah tm 11=.c (.sl σ2.aj 0 g.e.length (.ex g.e.length))
    /\σ3.h σ2.aj=some ⟨ones g.e.length λk=>.bool (TN g.e.length k),none⟩/\Fr σ2 σ3/\σ2.aj+1<=σ3.aj)
   (aF (λq tm σ3=>∃i,q=g.e.length-i/\i<=g.e.length/\Tr.ah tm 0=.c (.ptr sb 0)/\Tr.ah tm 1=.c (.bool gr)/\Tr.ah tm 5=.c (.int .i64 (.ofNat g.e.length))/\Tr.ah tm 6=.c (.sl xb 0 g.e.length (.ex g.e.length))/\Tr.ah tm 7=.c (.ptr (σ.aj+1) 0)/\Tr.ah tm 8=.c (.ptr (σ.aj+1+1) 0)/\Tr.ah tm 9=.c (.ptr σ1.aj 0)/\Tr.ah tm 10=.c (.sl mb 0 g.e.length (.ex g.e.length))/\Tr.ah tm 11=.c (.sl σ2.aj 0 g.e.length (.ex g.e.length))/\Tr.ah tm 36=.c (.int .i64 (.ofNat g.e.length))/\Tr.ah tm 37=.c (.int .i64 (.ofNat i))
    /\σ3.h σ2.aj=some ⟨ones g.e.length λk=>.bool (TN i k),none⟩/\Fr σ2 σ3/\σ2.aj+1<=σ3.aj) g.e.length ?_ ?_) ?_
  .refine⟨0,jb,jb,?_⟩
   simp(disch:=try exact jz) only[go_sem,z3,t0,t1,t5,t6,t7,t8,ap]
   exact⟨bM (λl=>some (Bk.mk l none)) (dQ λk _=>by unfold TN;rw[ab jb]),fr,jp⟩
  .rintro q tm3 σ3 ⟨i,rfl,hi1,t0,t1,t5,t6,t7,t8,t9,t10,t11,t36,t37,q11,hf3,hn3⟩
   have agY:=Fr.refl hf3.wf
   have awT:=hf3.wf.lt q11
   simp(disch:=try exact jz) only[go_sem,z3,t0,t1,t5,t6,t7,t8,t9,t10,t11,t36,t37,aH]
   refine aJ (λhlt=>?_) (λhlt=>?_)
   .have hst:=aix (n:=g.e.length) (i:=i)
    simp(disch:=try exact jz) only[go_sem,z3,t0,t1,t5,t6,t7,t8,t9,t10,t11,t36,t37,q11,aI q11,hst]
    exact⟨g.e.length-(i+1),jb,i+1,rfl,jb,rfl,rfl,fr,jb⟩
   .have:i=g.e.length:=jb
    subst this
    simp(disch:=try exact jz) only[go_sem,z3,ap]
    exact⟨t0,t1,t5,t6,t7,t8,t9,t10,t11,q11,hf3,hn3⟩
  .rintro _ tm3 σ3 ⟨rfl,t0,t1,t5,t6,t7,t8,t9,t10,t11,q11,hf3,hn3⟩
   have wK:=hF3.trans hf3
   have hle3:=hf3.le
   have hle':=hf.le
   have Xc:=hF.trans (hf2.trans hf3)
   have q63:=(hf1.trans Xc).get hf.wf q6
   have q73:=(hf1.trans Xc).get hf.wf q7
   have q83:=(hf1.trans Xc).get hf.wf q8
   have q93:σ3.h σ1.aj=some ⟨[Dv,Sv],none⟩:=(hf2.trans hf3).get hF.wf (aB _ _ _)
   have hxl:=hf.wf.lt q6
   have aiy:=hf1.trans Xc
   have av1:=aiy.le
   have av2:=aqs.b
   have av3:=aqs.l
   have hM3:dN (Lt σ3.aj) σ3.h (.sl mb 0 g.e.length (.ex g.e.length)) g.e.length (λ_=>g.e.length) (gM g.e.length (aY g) x):=((aqs.hr (p:=Lt σ2.aj) λb hb=>by show b<σ2.aj;omega).fr hf2.wf hf3).keep (λ_ _=>rfl) λb hb=>aD hb hle3
   obtain⟨m1,m2,m3⟩:=h.mz hI.nn
   have hsub:=h.sub hI.nn
   have m0:∀j i,j<g.e.length->i<g.e.length->0<=gM g.e.length (aY g) x j i:=λj i hj hi=>hsub.nn j i hj hi
   have hcn:∀j,j<g.e.length->0<=iG g j:=λj hj=>(h.m j hj).2.2.1
   obtain⟨zx,zt,zt1⟩:=hP.sz hI.t0 hI.t1
   by_cases hret:gr=false/\t=1
   .obtain⟨rfl,rfl⟩:=hret
    simp(disch:=try exact jz) only[go_sem,z3,t0,t1,t5,t6,t7,t8,t9,t10,t11,ak q73,ak q83,gb]
    exact⟨x,⟨xb,rfl,q63,hxb,jb⟩,hP,hI,(λe=>by cases e),λ_=>ap5 h.Jk (iG g) hI,wK⟩
   .have agY:=Fr.refl hf3.wf
    refine(show bK EN (.seq _ _) _ _ _ from uP (λtm σ4=>∃(ov:B) (of:Nat->Bool),Tr.ah tm 0=.c (.ptr sb 0)/\Tr.ah tm 1=.c (.bool gr)/\Tr.ah tm 5=.c (.int .i64 (.ofNat g.e.length))/\Tr.ah tm 6=.c (.sl xb 0 g.e.length (.ex g.e.length))/\Tr.ah tm 7=.c (.ptr (σ.aj+1) 0)/\Tr.ah tm 8=.c (.ptr (σ.aj+1+1) 0)/\Tr.ah tm 9=.c (.ptr σ1.aj 0)/\Tr.ah tm 10=.c (.sl mb 0 g.e.length (.ex g.e.length))/\Tr.ah tm 11=.c ov
     /\HL σ4.h 1 ov g.e.length (λi=>[.bool (of i)])/\(∀i j,i<g.e.length->j<g.e.length->of i=true->gM g.e.length (aY g) x j i≠0->of j=true)/\(∀i,i<g.e.length->0<iG g i->of i=true)/\(gr=true->∀i,i<g.e.length->of i=true)/\(gr=false->t≠1/\∀i,i<g.e.length->of i=true->Tq g.e.length (gM g.e.length (aY g) x) (λk=>ap7 g k=true) i)/\Fr σ3 σ4) ?_ ?_)
    .cases gr with
     |true=>
      simp(disch:=try exact jz) only[go_sem,z3,t0,t1,t5,t6,t7,t8,t9,t10,t11]
      have htr:∀i,i<g.e.length->TN g.e.length i=true:=λi hi=>by unfold TN;rw[ae hi]
      exact⟨_,TN g.e.length,rfl,Zn q11 rfl,λ_ j _ hj _ _=>htr j hj,λi hi _=>htr i hi,λ_=>htr,(λe=>by cases e),Fr.refl hf3.wf⟩
     |false=>
      have ht1:decide (t=1)=false:=aw λe=>hret ⟨rfl,e⟩
      simp(disch:=try exact jz) only[go_sem,z3,t0,t1,t5,t6,t7,t8,t9,t10,t11,ak q73,ak q83,ht1]
      refine(ah1 hf3.wf (hs0.fr wK) jb λi hi=>(h.m i hi).1).mono ?_
      rintro _ σ4 ⟨⟨b4,rfl,hb4,-,-⟩,hf4⟩
      simp(disch:=try exact jz) only[go_sem,z3,t0,t1,t5,t6,t7,t8,t9,t10,t11]
      refine(aa8 hf4.wf (hM3.fr hf3.wf hf4) jb m1 m0 hb4).mono ?_
      rintro _ σ5 ⟨⟨b5,c5,o5,of,rfl,hb5,avD,au4,hof⟩,hf5⟩
      simp(disch:=try exact jz) only[go_sem,z3,t0,t1,t5,t6,t7,t8,t9,t10,t11]
      exact⟨_,of,rfl,Zn hb5 avD,λi j hi hj h1 h2=>(hof j hj).mpr (.step ((hof i hi).mp h1) hj h2),λi hi hc=>(hof i hi).mpr (.base (bj hc) hi),(λe=>by cases e),λ_=>⟨λe=>hret ⟨rfl,e⟩,λi hi h1=>(hof i hi).mp h1⟩,hf4.trans hf5⟩
    .rintro tm4 σ4 ⟨ov,of,t0,t1,t5,t6,t7,t8,t9,t10,t11,hov,aqt,avE,avF,aqu,hf4⟩
     simp(disch:=try exact jz) only[go_sem,z3,t0,t1,t5,t6,t7,t8,t9,t10,t11]
     refine(ahW hf4.wf (hM3.fr hf3.wf hf4) jb m3 m1 m0 hov).mono ?_
     rintro _ σ5 ⟨⟨cv,rfl,hB⟩,hf5⟩
     have gZ:=hf4.trans hf5
     have Zg:=wK.trans gZ
     have q65:=gZ.get hf3.wf q63
     have q75:=gZ.get hf3.wf q73
     have q85:=gZ.get hf3.wf q83
     have q95:=gZ.get hf3.wf q93
     have yJ:=gZ.le
     have En:=Fr.refl hf5.wf
     have hD5:dN (λ_=>True) σ5.h Dv g.e.length (kE g.e) (Oq g x):=(hDv.fr hf1.wf (Xc.trans gZ)).keep (λ_ _=>rfl) λ_ _=>trivial
     have hS5:dN (λ_=>True) σ5.h Sv g.e.length (kE g.e) (Jg g x):=(hSv.fr hf1.wf (Xc.trans gZ)).keep (λ_ _=>rfl) λ_ _=>trivial
     rcases hB with⟨rfl,hnone⟩|⟨i0,hi0,atY,alv,hmin,⟨cb,rfl⟩,hH⟩
     .have aqv:∀S:Nat->Prop,(∃i,i<g.e.length/\S i)->(∀i,i<g.e.length->S i->of i=true)->¬Ins.Shut g.e.length (gM g.e.length (aY g) x) S:=ahP (of:=λi=>of i=true) (R:=λk=>qA g.e.length (gM g.e.length (aY g) x) λi=>i=k) (λk _ _=>JZ _ _ λi=>i=k) hnone
      by_cases ht1:t=1
      .subst ht1
       cases gr with
       |false=>exact absurd rfl (aqu rfl).1
       |true=>
        simp(disch:=try exact jz) only[go_sem,z3,t0,t1,t5,t6,t7,t8,t9,t10,t11,ak q75,ak q85,gb]
        exact⟨x,⟨xb,rfl,q65,hxb,jb⟩,hP,hI,(λ_=>ahS h.Jk (iG g) hI λS hS=>aqv S hS λi hi _=>avF rfl i hi),(λe=>by cases e),Zg⟩
      .have htd:decide (t=1)=false:=aw ht1
       simp(disch:=try exact jz) only[go_sem,z3,t0,t1,t5,t6,t7,t8,t9,t10,t11,ak q75,ak q85,htd]
       refine(ahV hf5.wf (hov.fr hf4.wf hf5) jb).mono ?_
       rintro _ σ6 ⟨⟨lb,rfl,hN6⟩,gX⟩
       have kH:=Zg.trans gX
       have hlF:WI σ6.h (aQ (gB of g.e.length).length lb) (gB of g.e.length):=aZ.hl (hN6.hlp jj (λ_ _=>rfl) (p:=λ_=>True) λ_ _ _=>trivial)
       have hmem:∀i,i∈gB of g.e.length↔i<g.e.length/\of i=true:=λi=>yN _ _ _
       have hM6:=(hM3.fr hf3.wf (gZ.trans gX))
       simp(disch:=try exact jz) only[go_sem,z3,t0,t1,t5,t6,t7,t8,t9,t10,t11]
       refine(aqr gX.wf (hs0.fr kH) h hI.nn hM6 hlF (Eu _ _) (λi hi=>((hmem i).mp hi).1) ?_ (λS hS hi=>aqv S hS λi hi2 hSi=>((hmem i).mp (hi i hi2 hSi)).2) ?_).mono ?_
       .intro i hi j hj hjl
        by_cases e:gM g.e.length (aY g) x j i=0
        .exact e
        .exact absurd ((hmem j).mpr ⟨hj,aqt i j ((hmem i).mp hi).1 hj ((hmem i).mp hi).2 e⟩) hjl
       .intro j hj hjl
        by_cases e:0<iG g j
        .exact absurd ((hmem j).mpr ⟨hj,avE j hj e⟩) hjl
        .have:=hcn j hj;grind
       rintro _ σ7 ⟨v,⟨vb,rfl,hv1,hv2,hv3⟩,hvn,hvm,hvz,hvZ,oI⟩
       have TP:=gX.trans oI
       have qG:=Zg.trans TP
       have q67:=TP.get hf5.wf q65
       have q77:=TP.get hf5.wf q75
       have q87:=TP.get hf5.wf q85
       have q97:=TP.get hf5.wf q95
       have ak7:=TP.le
       obtain⟨D2,hNr⟩:=hP.nr h hvn hvZ (gj D8)
       have hxr:jB (λ_=>True) σ7.h (.sl xb 0 g.e.length (.ex g.e.length)) g.e.length x:=bf (G:=λc=>gK (x c)) _ q67 rfl trivial (λ_=>rfl) jj λ_ _=>rfl
       have hvr:jB (λ_=>True) σ7.h (.sl vb 0 g.e.length (.ex g.e.length)) g.e.length v:=bf (G:=λc=>gK (v c)) _ hv1 rfl trivial (λ_=>rfl) jj λ_ _=>rfl
       have k1:=hD5.kn
       have k2:=hS5.kn
       simp(disch:=try exact jz) only[go_sem,z3,t0,t1,t5,t6,t7,t8,t9,t10,t11,ak q97,k1,k2]
       refine(Qc oI.wf (hs0.fr qG) hxr hvr ((hDv.fr hf1.wf (Xc.trans (gZ.trans TP))).keep (λ_ _=>rfl) λ_ _=>trivial) ((hSv.fr hf1.wf (Xc.trans (gZ.trans TP))).keep (λ_ _=>rfl) λ_ _=>trivial) hNr).mono ?_
       rintro _ σ8 ⟨rfl,qE⟩
       have hD3:∀i,i<g.e.length->Es ((aY g).e i) ((aY g).k i) (x i) (lM g x i):=λi hi=>(ail h hi (hI.nn i hi)).2
       have htl:t<1:=by have:=hI.t1;grind
       have key:∀w,0<=w->w<=1-t->(∀c∈jC g.e.length (aY g) (lM g x) x v,w<=c)->(w∈jC g.e.length (aY g) (lM g x) x v\/w=1-t)->Ag h.Jk (iG g) (!gr) (aX x v w) (t+w)/\uT g (aX x v w) (t+w)/\meas g (aX x v w) (t+w)<meas g x t:=λw w0 w1 wc hw=>by
        obtain⟨a1,a2,a3⟩:=ahR h.Jk (iG g) hcn hI hD3 hvn hvm (λS hS hi=>aqv S hS λi hi2 hSi=>by
         by_cases e:i∈gB of g.e.length
         .exact((hmem i).mp e).2
         .have h1:=hi i hi2 hSi;rw[hvz i e]at h1;exact absurd h1 jj) htl w0 w1 wc
        by_cases hwc:w∈jC g.e.length (aY g) (lM g x) x v
        .have hm:=a3 hwc;have hms:meas g (aX x v w) (t+w)<meas g x t:=by unfold meas;rw[ab ht1];split<;>omega
         exact⟨a1,(hP.ahH h hvn hvZ (gj D8) hwc (.inr rfl) a1 hms).1,hms⟩
        .have e:=hw.resolve_left hwc;subst e;have e1:t+(1-t)=1:=by grind
         rw[e1]at a1⊢;have hms:meas g (aX x v (1-t)) 1<meas g x t:=by unfold meas;rw[ab ht1,ae rfl];omega
         exact⟨a1,hP.last h hvZ (gj D8) ht1 a1 a2,hms⟩
       have zw:∀w,(w∈jC g.e.length (aY g) (lM g x) x v\/w=1-t)->Sz w/\∀i,i<g.e.length->Sz (v i)/\Sz (w*v i):=λw hw=>hP.atS h hvn hvZ (gj D8) hI.t0 hI.t1 hw
       have adQ:=TP.trans qE
       have JG:=Zg.trans adQ
       have q78:=adQ.get hf5.wf q75
       have q88:=adQ.get hf5.wf q85
       have ahu:=qE.le
       have av4:=JG.le
       have ave:=Fr.refl qE.wf
       rcases Tv (jC g.e.length (aY g) (lM g x) x v)with⟨e,en⟩|⟨u,en,hum,hul⟩
       .rw[en]
        have i0:(none:Option Rat).isSome=false:=rfl
        simp(disch:=try exact jz) only[go_sem,z3,t0,t1,t5,t6,t7,t8,t9,t10,t11,ak q78,ak q88,i0]
        refine aC.st (Fr σ8) (fr) λBO=>?_
        obtain⟨kI,kP,km⟩:=key (1-t) kd aM (by rw[e];intro c hc;cases hc) (.inr rfl)
        obtain⟨z2,z3⟩:=zw (1-t) (.inr rfl)
        have hx9:=(adQ.trans BO).get hf5.wf q65
        have hv9:=(qE.trans BO).get oI.wf hv1
        have hxr:jB (λ_=>True) _ (.sl xb 0 g.e.length (.ex g.e.length)) g.e.length x:=bf (G:=λc=>gK (x c)) _ hx9 rfl trivial (λ_=>rfl) jj λ_ _=>rfl
        have hvr:jB (λ_=>True) _ (.sl vb 0 g.e.length (.ex g.e.length)) g.e.length v:=bf (G:=λc=>gK (v c)) _ hv9 rfl trivial (λ_=>rfl) jj λ_ _=>rfl
        refine(JY BO.wf hxr hvr jb z2 zx (λi hi=>(z3 i hi).1) (λi hi=>(z3 i hi).2) (kP.sz kI.t0 kI.t1).1).mono ?_
        rintro _ σA ⟨⟨rb,rfl,hr1,hr2,hr3⟩,hfA⟩
        have q7A:=(BO.trans hfA).get qE.wf q78
        have q8A:=(BO.trans hfA).get qE.wf q88
        have aiz:σA.h σ8.aj=some ⟨[.bool (rn (1-t)),.str (rs (1-t)),.str (rd (1-t))],none⟩:=hfA.get BO.wf (aB _ _ _)
        have hFA:=JG.trans (BO.trans hfA)
        have atZ:=hfA.le
        have hr2:σ8.aj+1+1<=rb:=hr2
        have at1:=Fr.refl hfA.wf
        simp(disch:=try exact jz) only[go_sem,z3,t0,t1,t5,t6,t7,t8,t9,t10,t11,ak q7A,ak aiz,aI q7A]
        exact⟨meas g (aX x v (1-t)) (t+(1-t)),km,aX x v (1-t),t+(1-t),rb,rfl,rfl,(au _ _ _ _ jb).trans hr1,jb,rfl,q8A,kI,kP,fr,jb⟩
       .rw[en]
        have i0:(some u).isSome=true:=rfl
        have i1:gq0 (some u)=u:=rfl
        have zu:=(zw u (.inl hum)).1
        by_cases hlt:1-t<u
        .have hd:=bj hlt
         simp(disch:=try exact jz) only[go_sem,z3,t0,t1,t5,t6,t7,t8,t9,t10,t11,ak q78,ak q88,i0,i1,abq,hd]
         refine aC.st (Fr σ8) (fr) λBO=>?_
         obtain⟨kI,kP,km⟩:=key (1-t) kd aM (λc hc=>by have:=hul c hc;grind) (.inr rfl)
         obtain⟨z2,z3⟩:=zw (1-t) (.inr rfl)
         have hx9:=(adQ.trans BO).get hf5.wf q65
         have hv9:=(qE.trans BO).get oI.wf hv1
         have hxr:jB (λ_=>True) _ (.sl xb 0 g.e.length (.ex g.e.length)) g.e.length x:=bf (G:=λc=>gK (x c)) _ hx9 rfl trivial (λ_=>rfl) jj λ_ _=>rfl
         have hvr:jB (λ_=>True) _ (.sl vb 0 g.e.length (.ex g.e.length)) g.e.length v:=bf (G:=λc=>gK (v c)) _ hv9 rfl trivial (λ_=>rfl) jj λ_ _=>rfl
         refine(JY BO.wf hxr hvr jb z2 zx (λi hi=>(z3 i hi).1) (λi hi=>(z3 i hi).2) (kP.sz kI.t0 kI.t1).1).mono ?_
         rintro _ σA ⟨⟨rb,rfl,hr1,hr2,hr3⟩,hfA⟩
         have q7A:=(BO.trans hfA).get qE.wf q78
         have q8A:=(BO.trans hfA).get qE.wf q88
         have aiz:σA.h σ8.aj=some ⟨[.bool (rn (1-t)),.str (rs (1-t)),.str (rd (1-t))],none⟩:=hfA.get BO.wf (aB _ _ _)
         have hFA:=JG.trans (BO.trans hfA)
         have atZ:=hfA.le
         have hr2:σ8.aj+1+1<=rb:=hr2
         have at1:=Fr.refl hfA.wf
         simp(disch:=try exact jz) only[go_sem,z3,t0,t1,t5,t6,t7,t8,t9,t10,t11,ak q7A,ak aiz,aI q7A]
         exact⟨meas g (aX x v (1-t)) (t+(1-t)),km,aX x v (1-t),t+(1-t),rb,rfl,rfl,(au _ _ _ _ jb).trans hr1,jb,rfl,q8A,kI,kP,fr,jb⟩
        .have hd:=aw hlt
         simp(disch:=try exact jz) only[go_sem,z3,t0,t1,t5,t6,t7,t8,t9,t10,t11,ak q78,ak q88,i0,i1,abq,hd]
         refine aC.st (Fr σ8) (fr) λBO=>?_
         obtain⟨kI,kP,km⟩:=key u (dt (Dk hD3 u hum)) kd hul (.inl hum)
         obtain⟨z2,z3⟩:=zw u (.inl hum)
         have hx9:=(adQ.trans BO).get hf5.wf q65
         have hv9:=(qE.trans BO).get oI.wf hv1
         have hxr:jB (λ_=>True) _ (.sl xb 0 g.e.length (.ex g.e.length)) g.e.length x:=bf (G:=λc=>gK (x c)) _ hx9 rfl trivial (λ_=>rfl) jj λ_ _=>rfl
         have hvr:jB (λ_=>True) _ (.sl vb 0 g.e.length (.ex g.e.length)) g.e.length v:=bf (G:=λc=>gK (v c)) _ hv9 rfl trivial (λ_=>rfl) jj λ_ _=>rfl
         refine(JY BO.wf hxr hvr jb z2 zx (λi hi=>(z3 i hi).1) (λi hi=>(z3 i hi).2) (kP.sz kI.t0 kI.t1).1).mono ?_
         rintro _ σA ⟨⟨rb,rfl,hr1,hr2,hr3⟩,hfA⟩
         have q7A:=(BO.trans hfA).get qE.wf q78
         have q8A:=(BO.trans hfA).get qE.wf q88
         have aiz:σA.h σ8.aj=some ⟨[.bool (rn u),.str (rs u),.str (rd u)],none⟩:=hfA.get BO.wf ((au _ _ _ _ jb).trans ((au _ _ _ _ jb).trans (aB _ _ _)))
         have hFA:=JG.trans (BO.trans hfA)
         have atZ:=hfA.le
         have hr2:σ8.aj+1+1<=rb:=hr2
         have at1:=Fr.refl hfA.wf
         simp(disch:=try exact jz) only[go_sem,z3,t0,t1,t5,t6,t7,t8,t9,t10,t11,ak q7A,ak aiz,aI q7A]
         exact⟨meas g (aX x v u) (t+u),km,aX x v u,t+u,rb,rfl,rfl,(au _ _ _ _ jb).trans hr1,jb,rfl,q8A,kI,kP,fr,jb⟩
     .have hcls:=ahO hsub (of:=λi=>of i=true) (λi j hi hj h1 h2=>aqt i j hi hj h1 h2) (R:=λk=>qA g.e.length (gM g.e.length (aY g) x) λi=>i=k) (λk _ _=>JZ _ _ λi=>i=k) hi0 atY alv λk hk h1 h2=>hmin k hk h1 h2
      have k1:=hD5.kn
      have k2:=hS5.kn
      simp(disch:=try exact jz) only[go_sem,z3,t0,t1,t5,t6,t7,t8,t9,t10,t11,ak q95,k1,k2]
      refine(aqo hf5.wf (hs0.fr Zg) h q65 hP hD5 hS5 (hM3.fr hf3.wf gZ) (aZ.hl hH) hcls hI (λhl E hE hE0 hEb=>?_) (λhl=>?_)).mono ?_
      .obtain⟨i,hi,hEi,hil⟩:=hE
       have hgr:gr=false:=by cases gr with|false=>rfl|true=>cases hl
       have hof:of i=true:=by
        have h1:=((JZ g.e.length (gM g.e.length (aY g) x) λk=>k=i0).mem i).mp hil;clear hEi hil hi;induction h1 with
        |base e hi=>subst e;exact atY
        |step h1 hj hm ih=>exact aqt _ _ h1.lt hj ih hm
       have hr:=(aqu hgr).2 i hi hof
       clear hof hil hi
       induction hr with
       |base e hi=>have:=dy e;have e2:=hE0 _ hi hEi;unfold iG at e2;grind
       |step h1 hj hm ih=>exact ih (hEb _ _ hj h1.lt hEi hm)
      .have hgr:gr=false:=by cases gr with|false=>rfl|true=>cases hl
       have h1:=(aqu hgr).1
       have h2:=hI.t1
       grind
      rintro _ σ6 ⟨y,⟨yb,rfl,hy1,hy2,hy3⟩,hI',hP',hms,gX⟩
      have kH:=Zg.trans gX
      have yI:=gX.le
      have q76:=gX.get hf5.wf q75
      have q86:=gX.get hf5.wf q85
      simp(disch:=try exact jz) only[go_sem,z3,t0,t1,t5,t6,t7,t8,t9,t10,t11]
      exact⟨meas g y t,hms,y,t,yb,rfl,rfl,hy1,jb,q76,q86,hI',hP',kH,jb⟩
def at6(p:Nat->Prop)(h:Tr Bk)(r:V)(g:iD)(x:Nat->Rat):Prop:=∃rr,r=.aV rr (.aV (.c (.int .i64 (.ofNat 0))) .tnil)/\Za p h rr g x
def Za.keep{p q:Nat->Prop}{h h':Tr Bk}{r:V}{g:iD}{x:Nat->Rat}(hs:Za p h r g x)(hk:∀b,p b->h' b=h b)(hq:∀b,p b->q b):Za q h' r g x:=by obtain⟨cm,G,Dv,Rf,Nt,Su,Re,Fu,rfl,h1,h2,h3,h4,h5,h6,h7,h8⟩:=hs;exact⟨cm,G,Dv,Rf,Nt,Su,Re,Fu,rfl,aZ.keep h1 hk hq,h2.keep hk hq,h3.keep hk hq,h4.keep hk hq,h5.keep hk hq,aZ.keep h6 hk hq,aZ.keep h7 hk hq,aZ.keep h8 hk hq⟩
def Za.kn8{p:Nat->Prop}{h:Tr Bk}{r:V}{g:iD}{x:Nat->Rat}(hs:Za p h r g x):∃cm G Dv Rf Nt Su Re Fu,r=.agg [cm,G,Dv,Rf,Nt,Su,Re,Fu]/\cm.kn=true/\G.kn=true/\Dv.kn=true/\Rf.kn=true/\Nt.kn=true/\Su.kn=true/\Re.kn=true/\Fu.kn=true:=by obtain⟨cm,G,Dv,Rf,Nt,Su,Re,Fu,rfl,h1,h2,h3,h4,h5,h6,h7,h8⟩:=hs;exact⟨cm,G,Dv,Rf,Nt,Su,Re,Fu,rfl,aZ.kn h1,h2.kn,h3.kn,h4.kn,h5.kn,aZ.kn h6,aZ.kn h7,aZ.kn h8⟩
def TQ{σ:St}(hW:WF σ){p:Nat->Prop}{ev dv:B}{g:iD}(hg:xK p σ.h ev dv g)(h:kK g):
  aC EN 13 [.agg [ev,dv]] σ λr σ'=>∃x,at6 (λb=>σ.aj<=b/\b<σ'.aj) σ'.h r g x/\uT g x 1/\Ag h.Jk (iG g) false x 1/\Grt (n:=g.e.length) (g:=aY g) (iG g) x/\Fr σ σ':=by
 refine aN (qP.o _ _) qP.h ?_
 unfold qP
 dsimp only
 obtain⟨_,hM0⟩:=(IB h).map h
 have hek:=hg.e.kn
 have hdk:=hg.d.kn
 have hFr:=Fr.refl hW
 simp(disch:=try exact jz) only[go_sem,z3,hek,hdk]
 refine aC.st (Fr σ) (fr) λhF=>?_
 refine(aa0 hF.wf (hg.fr hW hF) h.z h.bld (λi hi=>(h.m i hi).1) λd hd=>(h.d d hd).2.1).mono ?_
 rintro _ σ2 ⟨rfl,hf2⟩
 have hF2:=hF.trans hf2
 have q0:=hf2.get hF.wf (aB _ _ _)
 have q00:=hf2.get hF.wf ((au _ _ _ _ jb).trans (aB _ _ _))
 have hd0:decide ((0:Int)=Int.ofNat 0)=true:=rfl
 have hle2:σ.aj+1+1<=σ2.aj:=hf2.le
 simp(disch:=try exact jz) only[go_sem,z3,hek,hdk,hd0,ak q00,q00]
 refine(aaV hf2.wf g (hg.fr hW hF2) hM0.a h.bld).mono ?_
 rintro _ σ3 ⟨⟨sb,rfl,hS⟩,hf3⟩
 have hf3:=hf2.trans hf3
 have hF3:=hF.trans hf3
 simp(disch:=try exact jz) only[go_sem,z3]
 refine(abr hf3.wf hS h true).mono ?_
 rintro _ σ4 ⟨x,⟨xb,rfl,hx1,hx2,hx3⟩,hP,hI,hgt,hls,hf4⟩
 have wK:=hF3.trans hf4
 obtain⟨D,hMg⟩:=hP.mg h
 simp(disch:=try exact jz) only[go_sem,z3]
 refine(Wh hf4.wf (hS.fr hf4) hx1 hMg.A.s).mono ?_
 rintro _ σ5 ⟨hV,hf5⟩
 have gZ:=wK.trans hf5
 have hle3:σ.aj+1+1<=σ3.aj:=hf3.le
 have yH:=hf4.le
 have yJ:=hf5.le
 have En:=Fr.refl hf5.wf
 have q1:=(hf3.trans (hf4.trans hf5)).get hF.wf (aB _ _ _)
 obtain⟨cm,G,Dv,Rf,Nt,Su,Re,Fu,er,k1,k2,k3,k4,k5,k6,k7,k8⟩:=hV.kn8
 subst er
 simp(disch:=try exact jz) only[go_sem,z3,ak q1,aI q1,k1,k2,k3,k4,k5,k6,k7,k8]
 exact⟨x,⟨_,rfl,hV.keep (λb hb=>au _ _ _ _ jb) λb hb=>⟨jb,hb.2⟩⟩,hP,hI,hgt rfl,fr⟩
def abt{σ:St}(hW:WF σ){p:Nat->Prop}{ev dv:B}{g:iD}(hg:xK p σ.h ev dv g)(h:kK g):
  aC EN 14 [.agg [ev,dv]] σ λr σ'=>∃x,at6 (λb=>σ.aj<=b/\b<σ'.aj) σ'.h r g x/\uT g x 1/\Ag h.Jk (iG g) true x 1/\Ins.vG (n:=g.e.length) (g:=aY g) (iG g) x/\Fr σ σ':=by
 refine aN (qQ.o _ _) qQ.h ?_
 unfold qQ
 dsimp only
 obtain⟨_,hM0⟩:=(IB h).map h
 have hek:=hg.e.kn
 have hdk:=hg.d.kn
 have hFr:=Fr.refl hW
 simp(disch:=try exact jz) only[go_sem,z3,hek,hdk]
 refine aC.st (Fr σ) (fr) λhF=>?_
 refine(aa0 hF.wf (hg.fr hW hF) h.z h.bld (λi hi=>(h.m i hi).1) λd hd=>(h.d d hd).2.1).mono ?_
 rintro _ σ2 ⟨rfl,hf2⟩
 have hF2:=hF.trans hf2
 have q0:=hf2.get hF.wf (aB _ _ _)
 have q00:=hf2.get hF.wf ((au _ _ _ _ jb).trans (aB _ _ _))
 have hd0:decide ((0:Int)=Int.ofNat 0)=true:=rfl
 have hle2:σ.aj+1+1<=σ2.aj:=hf2.le
 simp(disch:=try exact jz) only[go_sem,z3,hek,hdk,hd0,ak q00,q00]
 refine(aaV hf2.wf g (hg.fr hW hF2) hM0.a h.bld).mono ?_
 rintro _ σ3 ⟨⟨sb,rfl,hS⟩,hf3⟩
 have hf3:=hf2.trans hf3
 have hF3:=hF.trans hf3
 simp(disch:=try exact jz) only[go_sem,z3]
 refine(abr hf3.wf hS h false).mono ?_
 rintro _ σ4 ⟨x,⟨xb,rfl,hx1,hx2,hx3⟩,hP,hI,hgt,hls,hf4⟩
 have wK:=hF3.trans hf4
 obtain⟨D,hMg⟩:=hP.mg h
 simp(disch:=try exact jz) only[go_sem,z3]
 refine(Wh hf4.wf (hS.fr hf4) hx1 hMg.A.s).mono ?_
 rintro _ σ5 ⟨hV,hf5⟩
 have gZ:=wK.trans hf5
 have hle3:σ.aj+1+1<=σ3.aj:=hf3.le
 have yH:=hf4.le
 have yJ:=hf5.le
 have En:=Fr.refl hf5.wf
 have q1:=(hf3.trans (hf4.trans hf5)).get hF.wf (aB _ _ _)
 obtain⟨cm,G,Dv,Rf,Nt,Su,Re,Fu,er,k1,k2,k3,k4,k5,k6,k7,k8⟩:=hV.kn8
 subst er
 simp(disch:=try exact jz) only[go_sem,z3,ak q1,aI q1,k1,k2,k3,k4,k5,k6,k7,k8]
 exact⟨x,⟨_,rfl,hV.keep (λb hb=>au _ _ _ _ jb) λb hb=>⟨jb,hb.2⟩⟩,hP,hI,hls rfl,fr⟩
section
variable {n:Nat} {m:Nat→Rat} {cl:Nat→List C5} {al:Nat→List iK} {dl:List D5}
def kF.c60{A:Nat}{q:Rat}(h:kF A 30 q):kF A 60 q:=⟨h.1,h.2.1,cD h.2.2 jj⟩
def BG.xY(h:BG n m cl al dl):kK (bgG n m cl al dl):=by
 have hn:=zQ n m cl al dl;have hz:=VT h.zero;have hix:∀i,i<(bgG n m cl al dl).e.length->ix (bgG n m cl al dl).e i=⟨Dt (m i),cl i,al i⟩:=λi hi=>WB m cl al dl jb;refine⟨by have:=h.n4;omega,h.bld,h.small,h.zero,λi hi=>?_,λi hi=>?_,λi hi=>?_,λi hi=>?_,λi hi k=>?_,λi hi c hc=>?_,λi hi=>?_,by show dl.length<=3;exact h.d.1,λd hd=>?_⟩
 .rw[h.kE jb];exact(h.c i jb).1
 .rw[h.kE jb,hix i hi];have e:=h.ed (i:=i) jb;exact⟨λt ht p hp=>⟨(e.rk t ht p hp).1,kF.c60 (e.rk t ht p hp).2⟩,λq hq t ht p hp=>⟨(e.ps q hq t ht p hp).1,kF.c60 (e.ps q hq t ht p hp).2⟩⟩
 .rw[h.kE jb,hix i hi];exact(h.eb jb).1
 .rw[hix i hi];obtain⟨-,e1,e2,e3⟩:=h.eb (i:=i) jb;refine⟨e1,by show(YK (cl i) (cl i).length).length<=8;grind[YK],e2,λp hp=>⟨e3 p hp,?_⟩⟩;obtain⟨a,ha,rfl⟩:=cU.mp hp;obtain⟨j,hj,rfl⟩:=aE ha;rw[<-fJ hj];obtain⟨h3,hT⟩:=h.tl (show i<n by omega) hj;obtain⟨l1,-⟩:=aa2 (cs:=cl i) hT;grind[qI]
 .rw[hix i hi];exact kF.c60 (h.cap jb k)
 .rw[h.kE jb]at hc;rw[hix i hi];rcases((h.c i jb).2 c hc).1 with h1|⟨j,hj,-,h1⟩
  .grind
  grind
 .rw[hix i hi];obtain⟨v,e⟩:=h.mm i jb;show(Dt (m i)).fits _/\kF 60 60 (Dt (m i)).q;grind[wR,rF,xB]
 .obtain⟨hl,v,e⟩:=h.d.2 d hd;show(ix dl d).l.length<=4/\(ix dl d).w.fits _/\kF 60 60 (ix dl d).w.q;grind[wR,rF,xB]
end
def rgC(n:Nat)(q:Rat)(i:Nat):List C5:=[⟨((i+1)%n:Nat),2,Dt q⟩]
abbrev GH(n:Nat)(m:Nat->Rat)(q:Rat):iD:=bgG n m (rgC n q) (λ_=>[]) []
def rgL(q:Rat):dV:=⟨[[],[],[(0,q)],[],[],[],[],[]],[]⟩
section
variable {n:Nat} {m:Nat→Rat} {q:Rat}
def wH{i:Nat}(hi:i<n):ix (GH n m q).e i=⟨Dt (m i),rgC n q i,[]⟩:=WB m _ _ _ hi
def TR:(GH n m q).e.length=n:=zQ ..
def TU{i:Nat}(hi:i<n):dB (ix (GH n m q).e i)=rgL q:=by rw[wH hi];show dV.mk _ _=_;unfold rgL rgC;congr 1;show [xZ _ 0 1,xZ _ 1 1,xZ _ 2 1,xZ _ 3 1,xZ _ 4 1,xZ _ 5 1,xZ _ 6 1,xZ _ 7 1]=_;have e:∀(r:Nat) (c:C5),xZ [c] r 1=if c.r=(r:Int)then [((0:Int),c.a.q)]else []:=λr c=>rfl;simp only[e];simp[wR]
def aqw{x:Rat}(h:0<q)(hx:0<=x):qC (rgL q) x 0=iC q x:=by
 have e0:∀(l:fP) (y:Rat) (c:Int),0<=y->fO ([]::l) y c=fO l y c:=λl y c hy=>by show(if y<0 then(0:Rat)*(y/0)else 0+fO l (y-0) c)=_;rw[ab (fY.mpr hy),show y-0=y by grind];grind
 have e1:∀(y:Rat) (c:Int),fO [] y c=0:=λ_ _=>rfl;have e2:qC (rgL q) x 0=(if pooled (rgL q) 0 then 0 else xY (rgL q) x 0)+0:=rfl;rw[e2,ab (λh=>by cases h)];show fO _ x (0:Nat)+0=_;unfold rgL;rw[e0 _ _ _ hx,e0 _ _ _ hx];show(if x<q+0 then((if(0:Int)=((0:Nat):Int)then q else 0)+0)*(x/(q+0))else _+fO _ (x-(q+0)) _)+0=_;rw[cF,cF,cF];unfold iC;by_cases hlt:x<q
 .have h0:q≠0:=λe=>by rw[e]at h;exact absurd h jj
  have h1:q*(x/q)=x:=by rw[Rat.div_def,<-Rat.mul_assoc,fi q x,Rat.mul_assoc,Rat.mul_inv_cancel _ h0,Rat.mul_one]
  rw[ae hlt,ab (Rat.not_le.mpr hlt),ae (show(0:Int)=((0:Nat):Int)from rfl)];exact h1
 .have h1:0<=x-q:=by clear e2;grind
  rw[ab hlt,e0 _ _ _ h1,e0 _ _ _ h1,e0 _ _ _ h1,e0 _ _ _ h1,e0 _ _ _ h1,e1,ae (fY.mp hlt)];show((if(0:Int)=((0:Nat):Int)then q else 0)+0)+0=q;rw[ae (show(0:Int)=((0:Nat):Int)from rfl),cF,cF]
def alU(hn:0<n){i j:Nat}(hi:i<n)(hj:j<n):(i+1)%n=j↔i=(j+(n-1))%n:=by
 have e:((j+(n-1))%n+1)%n=j:=by rw[Nat.mod_add_mod,show j+(n-1)+1=j+n by omega,Nat.add_mod_right,cG hj]
 constructor
 .intro h;by_cases h1:i+1<n
  .rw[cG h1]at h;rw[<-h,show i+1+(n-1)=i+n by omega,Nat.add_mod_right,cG hi]
  .rw[show i+1=n by omega,Nat.mod_self]at h;rw[<-h,cK,cG jb];omega
 .intro h;rw[h];exact e
def abu(h:0<q)(hn:0<n){x:Nat->Rat}(hx:Nn n x){j:Nat}(hj:j<n):gG n (aY (GH n m q)) x j=iC q (x ((j+(n-1))%n)):=by
 have hd:(aY (GH n m q)).ds=[]:=rfl;have hk:∀i,i<n->(aY (GH n m q)).k i=1:=λi hi=>by show(ix (GH n m q).e i).c.length=1;rw[wH hi];rfl
 have hp:(j+(n-1))%n<n:=cM _ hn;have ho:∀i,i<n->(qH (aY (GH n m q)) j i 0=true↔i=(j+(n-1))%n):=λi hi=>by have e:qH (aY (GH n m q)) j i 0=((ix (ix (GH n m q).e i).c 0).h==(j:Int)):=rfl;rw[e,wH hi,<-alU hn hi hj,beq_iff_eq];show(((i+1)%n:Nat):Int)=(j:Int)↔_;omega
 unfold gG;rw[hd,iO hp λi hi hne=>?_,hk _ hp]
 .show 0+(if qH _ j _ 0=true then gq _ x _ else 0)+0=_;rw[ae ((ho _ hp).mpr rfl)];show 0+qC (dB (ix (GH n m q).e _)) (x _) 0+0=_;rw[TU hp,aqw h (hx _ hp)];grind
 .rw[hk i hi];show 0+(if qH _ j i 0=true then gq _ x _ else 0)=0;rw[ab λe=>hne ((ho i hi).mp e)];grind
def aqx(h:0<q)(hn:0<n)(hm:∀i,i<n->0<=m i){x:Nat->Rat}(hx:Grt (n:=n) (g:=aY (GH n m q)) m x){j:Nat}(hj:j<n):x j=m j+q:=by
 have h1:=hx.fix j hj;rw[abu h hn hx.nn hj]at h1;have h2:=(RJ q (x ((j+(n-1))%n))).1;have hz:Nn n λi=>m i+q:=λi hi=>by have:=hm i hi;grind
 have h3:=hx.grt (λi=>m i+q) hz (λi hi=>by rw[abu h hn hz hi];have:=hm _ (cM (i+(n-1)) hn);grind[iC]) j hj
 grind
def alV(h:0<q)(hn:0<n)(hm:∀i,i<n->m i=0){x:Nat->Rat}(hx:Ins.vG (n:=n) (g:=aY (GH n m q)) m x){j:Nat}(hj:j<n):x j=0:=by
 have hz:Nn n λ_=>0:=λi hi=>aM;have h3:=hx.lst (λ_=>0) hz (λi hi=>by rw[abu h hn hz hi];have:=hm i hi;grind[iC]) j hj
 have:=hx.nn j hj;grind
def alW(h:0<q)(hn:0<n)(hm0:0<m 0)(hm:∀i,i<n->i≠0->m i=0){x:Nat->Rat}(hx:Ins.vG (n:=n) (g:=aY (GH n m q)) m x){j:Nat}(hj:j<n):x j=m j+q:=by
 have hf:∀i,i<n->x i=m i+iC q (x ((i+(n-1))%n)):=λi hi=>by rw[<-abu h hn hx.nn hi];exact hx.fix i hi
 have hs:∀i,i+1<n->x (i+1)=iC q (x i):=λi hi=>by have:=hf (i+1) hi;rw[hm _ hi jb,show i+1+(n-1)=i+n by omega,Nat.add_mod_right,cG jb]at this;grind
 have hi:∀i,i+1<n->x (i+1)=iC q (x 0):=λi=>by
  induction i with
  |zero=>exact hs 0
  |succ i ih=>intro hi;rw[hs _ hi,ih jb];grind[iC]
 have h0:q<=x 0:=by
  have h1:=hf 0 hn;rw[cK,cG jb]at h1;by_cases e:n=1
  .rw[show n-1=0 by omega]at h1;grind[iC]
  .have h2:=hi (n-2) jb;rw[show n-2+1=n-1 by omega]at h2;grind[iC]
 have hq:∀i,i<n->q<=x i:=λi hi2=>by
  by_cases e:i=0
  .rw[e];exact h0
  .have:=hi (i-1) jb;rw[show i-1+1=i by omega]at this;grind[iC]
 rw[hf j hj];have:=hq _ (cM (j+(n-1)) hn);grind[iC]
def at7(i:Nat){P:Rat->Prop}(h0:P 0)(hq:P q)(k:Nat):P (ix (rgC n q i) k).a.q:=by
 cases k with
 |zero=>show P (Dt q).q;rw[wR];exact hq
 |succ k=>show P (default:R3).q;rw[R3.amN];exact h0
def alX(h2:2<=n)(h8:n<=8)(hq:0<=q)(hm:∀i,i<n->0<=m i):LH (GH n m q)=0:=by
 have hlen:=TR (n:=n) (m:=m) (q:=q);have e0:∀i,Ja (ix (rgC n q i) 0)=0:=λi=>by unfold Ja;have h1:=cM (i+1) (show n>0 by omega);show(if(((i+1)%n:Nat):Int)< -1\/8<=(((i+1)%n:Nat):Int)then 19 else if(2:Int)<0\/7<(2:Int)then 1 else if sg (Dt q).q<0 then 7 else 0)=0;rw[ab jb,ab jj,ab (yM (by rw[wR];exact hq))]
 have e1:CU (λi=>FN (ix (GH n m q).e i)) n=0:=jw λi hi=>by
  rw[wH hi];unfold FN;dsimp only;have e:CU (λk=>Ja (ix (rgC n q i) k)) (rgC n q i).length=0:=jw λk hk=>by
   have:k=0:=by have:k<1:=hk;omega
   rw[this];exact e0 i
  rw[ab (by show¬(24<1\/12<0);omega),ab (yM (by rw[wR];exact hm i hi)),ab (λh=>h e)];rfl
 have e2:CU (λi=>CU (Ob (GH n m q) i) (ix (GH n m q).e i).c.length) n=0:=jw λi hi=>jw λk hk=>by
  rw[wH hi]at hk;have:k=0:=by have:k<1:=hk;omega
  subst this;unfold Ob;rw[hlen,wH hi];show(if(n:Int)<=(((i+1)%n:Nat):Int)\/(((i+1)%n:Nat):Int)=(i:Int)then _ else _)=_;have h1:=cM (i+1) (show n>0 by omega);have h3:(i+1)%n≠i:=λh=>by
   by_cases e:i+1<n
   .rw[cG e]at h;omega
   .rw[show i+1=n by omega,Nat.mod_self]at h;omega
  rw[ab jb]
 unfold LH;rw[hlen,ab (by show¬(8<n\/16<0);omega),ab (λh=>h e1),ab (λh=>h e2)];rfl
def aqy(h2:2<=n)(h8:n<=8)(hq:kF 60 60 q)(hqs:Sm 1000 q)(hm:∀i,i<n->kF 60 60 (m i)/\Sm 1000 (m i)):kK (GH n m q):=by
 have hlen:=TR (n:=n) (m:=m) (q:=q);have hk:∀i,i<n->kE (GH n m q).e i=1:=λi hi=>by unfold kE;rw[wH hi];rfl
 have hf:∀{r:Rat},Sm 1000 r->(Dt r).fits 1000000:=λh=>Kw (h.mono jb);have up:∀{r:R3},r.fits 1000000->r.fits 134217728:=λh=>⟨by have:=h.1;omega,by have:=h.2;omega⟩
 have h0:kF 60 60 (0:Rat):=(Tf jj).zero;have hcc:∀i k,kF 60 60 (ix (rgC n q i) k).a.q:=λi k=>at7 (P:=kF 60 60) i h0 hq k;have hcf:∀i k,k<(rgC n q i).length->(ix (rgC n q i) k).a.fits 1000000:=λi k hk=>by
  have:k=0:=by have:k<1:=hk;omega
  rw[this];exact hf hqs
 refine⟨jb,⟨jb,by show 0<=1000;omega,λi hi=>?_,λd hd=>(by cases hd),λd hd=>(by cases hd)⟩,⟨λi hi=>?_,λd hd=>(by cases hd),jb,by show 0<=_;omega,λd hd=>(by cases hd)⟩,alX h2 h8 hq.2.1 λi hi=>(hm i hi).1.2.1,λi hi=>?_,λi hi=>?_,λi hi=>?_,λi hi=>?_,λi hi k=>?_,λi hi c hc=>?_,λi hi=>?_,by show 0<=3;omega,λd hd=>(by cases hd)⟩;all_goals rw[hlen]at hi
 .rw[wH hi];refine⟨by show 1<=1000;omega,by show 0<=1000;omega,λk hk=>⟨2,jb,?_⟩,λk hk=>hcf i k hk,λk=>?_,λj hj=>(by cases hj)⟩
  .have:k=0:=by have:k<1:=hk;omega
   rw[this];rfl
  .have:=hcc i k;exact⟨this.1,this.2.1,cD this.2.2 atI⟩
 .rw[wH hi];exact⟨up (hf (hm i hi).2),λk hk=>up (hcf i k hk),λj t p hj=>(by cases hj),by show 1<=_;omega,by show 0<=_;omega,λj hj=>(by cases hj),λj t hj=>(by cases hj)⟩
 .rw[hk i hi];omega
 .rw[hk i hi,TU hi];refine⟨λt ht p hp=>?_,λp hp=>(by cases hp)⟩;have:p=(0,q):=by unfold rgL at ht;simp only[bA,List.not_mem_nil,or_false]at ht;rcases ht with rfl|rfl|rfl|rfl|rfl|rfl|rfl|rfl<;>first|cases hp;done|exact eh.mp hp
  rw[this];exact⟨.inr (show(0:Int)<=0/\(0:Int)<((1:Nat):Int) by decide),hq⟩
 .rw[hk i hi,TU hi];exact⟨jb,by show 0<8;omega,by show 8<=1000;omega,by show 1<=1000;omega,by show 0<=1000;omega,λp hp=>(by cases hp),λp hp=>(by cases hp)⟩
 .rw[TU hi];exact⟨by show 1<=48;omega,by show 8<=8;omega,by show 0<=2;omega,λp hp=>(by cases hp)⟩
 .rw[wH hi];exact hcc i k
 .rw[hk i hi]at hc;have:c=0:=jb;subst this;rw[wH hi,hlen];exact .inr ⟨(i+1)%n,rfl,cM _ jb⟩
 .rw[wH hi];show(Dt (m i)).fits _/\kF 60 60 (Dt (m i)).q;rw[wR];exact⟨hf (hm i hi).2,(hm i hi).1⟩
end

def aqz(c:Nat)(i:Nat):Rat:=if i=0 then(c:Rat)else 0
def aqA(more:Bool)(i:Nat):List C5:=if i=0 then⟨1,2,Dt 10⟩::(if more then [⟨-1,2,Dt 10⟩]else [])else [⟨0,2,Dt 10⟩]
def DK(c:Nat)(more:Bool):iD:=bgG 2 (aqz c) (aqA more) (λ_=>[]) []
def aqB:amt 6=10:=by rfl
def TV{c:Nat}(hc:∃v,(c:Rat)=amt v)(more:Bool):BG 2 (aqz c) (aqA more) (λ_=>[]) []:=by
 have h10:∃v,Dt 10=Dt (amt v):=⟨6,by rw[aqB]⟩
 refine⟨jb,jb,λi _=>?_,λi hi=>?_,λi _=>⟨jj,λj hj=>by cases hj⟩,⟨jj,λj hj=>by cases hj⟩,λj hj=>by cases hj⟩
 .unfold aqz;split
  .exact hc
  .exact⟨2,by rfl⟩
 .unfold aqA;split
  .next e=>
   subst e;cases more with
   |false=>
    refine⟨jj,λk hk=>?_⟩
    match k,hk with
    |0,_=>exact⟨.inr ⟨1,jb,jb,rfl⟩,⟨2,jb,rfl⟩,h10⟩
   |true=>
    refine⟨jj,λk hk=>?_⟩
    match k,hk with
    |0,_=>exact⟨.inr ⟨1,jb,jb,rfl⟩,⟨2,jb,rfl⟩,h10⟩
    |1,_=>exact⟨.inl rfl,⟨2,jb,rfl⟩,h10⟩
  .next e=>
   refine⟨jj,λk hk=>?_⟩;match k,hk with
   |0,_=>exact⟨.inr ⟨0,jb,jb,rfl⟩,⟨2,jb,rfl⟩,h10⟩
def two(a b:Rat)(i:Nat):Rat:=if i=0 then a else b
def aiA{P:Nat->Prop}(h0:P 0)(h1:P 1):∀i,i<2->P i:=λi hi=>by grind
def abv{g:iD}(h:kK g)(hn:g.e.length=2){a b:Rat}(ha:0<=a)(hb:0<=b)(e0:a=iG g 0+gG 2 (aY g) (two a b) 0)(e1:b=iG g 1+gG 2 (aY g) (two a b) 1)
  (hs:aA 2 (λj=>gM 2 (aY g) (two a b) j 0)≠1) (hs1:aA 2 (λj=>gM 2 (aY g) (two a b) j 1)≠1\/gM 2 (aY g) (two a b) 0 1≠0){x:Nat->Rat}(hx:Grt (n:=g.e.length) (g:=aY g) (iG g) x):x 0=a/\x 1=b:=by
 have hI:Ag h.Jk (iG g) false (two a b) 1:=by
  refine⟨?_,jj,aM,?_,λe=>by cases e⟩
  .rw[hn];exact aiA ha hb
  .intro j hj;rw[gH];show two a b j=iG g j+gG g.e.length (aY g) (two a b) j;grind[two]
 have hno:∀S:Nat->Prop,(∃i,i<g.e.length/\S i)->¬Ins.Shut g.e.length (gM g.e.length (aY g) (two a b)) S:=by
  rw[hn];rintro S ⟨i,hi,hSi⟩ hS;have n0:¬S 0:=λh0=>hs (hS 0 jb h0).1;have n1:¬S 1:=λh1=>by obtain⟨s1,s2⟩:=hS 1 jb h1;grind
  grind
 have hu:=Grt.uniq _ hx (ahS h.Jk (iG g) hI hno)
 exact⟨hu 0 jb,hu 1 jb⟩
def aub{x:Nat->Rat}(hx:Grt (n:=(DK 0 false).e.length) (g:=aY (DK 0 false)) (iG (DK 0 false)) x):x 0=10/\x 1=10:=
 abv (TV ⟨2,by rfl⟩ false).xY (zQ ..) jj jj (by decide+kernel) (by decide+kernel) (by decide+kernel) (.inl (by decide+kernel)) hx
def auc{x:Nat->Rat}(hx:Grt (n:=(DK 3 true).e.length) (g:=aY (DK 3 true)) (iG (DK 3 true)) x):x 0=6/\x 1=3:=
 abv (TV ⟨17,by rfl⟩ true).xY (zQ ..) jj jj (by decide+kernel) (by decide+kernel) (by decide+kernel) (.inr (by decide+kernel)) hx
def aud{x:Nat->Rat}(hx:Ins.vG (n:=(DK 0 false).e.length) (g:=aY (DK 0 false)) (iG (DK 0 false)) x):x 0=0/\x 1=0:=by have hn:(DK 0 false).e.length=2:=zQ ..;have h:=hx.lst (λ_=>0) (λ_ _=>aM) (by rw[hn];exact aiA (by decide+kernel) (by decide+kernel));have h0:=hx.nn;rw[hn]at h h0;exact⟨Rat.le_antisymm (h 0 jb) (h0 0 jb),Rat.le_antisymm (h 1 jb) (h0 1 jb)⟩
end Go.Proofs.Xe
