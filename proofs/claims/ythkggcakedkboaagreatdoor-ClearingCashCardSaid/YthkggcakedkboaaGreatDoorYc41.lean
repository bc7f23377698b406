import Derived.Test.YthkggcakedkboaaGreatDoorYc40
set_option linter.all false
set_option maxRecDepth 100000
set_option maxHeartbeats 8000000
namespace Go.Proofs.Xe
open Go.RowKit Go.Proofs.Ins
def U5(i k:Nat):Bool:=if k<i then true else false
def ajG{n i:Nat}:ones n (aK (λk=>B.bool (U5 i k)) i (.bool true))=ones n λk=>.bool (U5 (i+1) k):=dS λk _=>by grind[aK,U5]
def acG(a b:Rat):decide (Int.ofNat 0<oJ a b)=decide (b<a):=by grind[oJ,qg]
def acH{σ:St}(hW:WF σ){sb:Nat}{g:iJ}(hs:Et (Lt σ.aj) σ.h sb g)(h:kX g)(gr:Bool):
  aC EN 33 [.c (.ptr sb 0),.c (.bool gr)] σ λr σ'=>∃x,Xr σ σ' r g.e.length x/\vS g x 1/\Bh h.J5 (iE g) (!gr) x 1/\(gr=true->Grt (n:=g.e.length) (g:=bC g) (iE g) x)/\(gr=false->Ins.xB (n:=g.e.length) (g:=bC g) (iE g) x)/\Fr σ σ':=by
 refine aQ (kF.o _ _) kF.h ?_
 unfold kF
 dsimp only
 have hn8:=h.n
 have hs0:=hs
 obtain⟨⟨ev,gv,lv,bv,hsb,hg,⟨R,P,hL1,hL2⟩,hB⟩,hsl⟩:=hs
 have hsl:sb<σ.aj:=hsl
 have hlk:=hL1.kn
 have hll:=hL1.len
 have hFr:=Fr.refl hW
 have z1:=sz1
 simp(disch:=try exact jz) only[go_sem,z3,ak hsb,hll,hlk]
 refine aF (λq tm σ'=>∃x t xb,q=meas g x t/\Tr.ah tm 0=.c (.ptr sb 0)/\Tr.ah tm 1=.c (.bool gr)/\Tr.ah tm 5=.c (.int .i64 (.ofNat g.e.length))/\Tr.ah tm 6=.c (.sl xb 0 g.e.length (.ex g.e.length))/\Tr.ah tm 7=.c (.ptr (σ.aj+1) 0)/\Tr.ah tm 8=.c (.ptr (σ.aj+1+1) 0)
   /\σ'.h xb=some ⟨bZ g.e.length x,none⟩/\σ.aj<=xb/\σ'.h (σ.aj+1)=some ⟨[.bool (rn t),.str (rs t),.str (rd t)],none⟩/\σ'.h (σ.aj+1+1)=some ⟨[.bool (rn 1),.str (rs 1),.str (rd 1)],none⟩/\Bh h.J5 (iE g) (!gr) x t/\vS g x t/\Fr σ σ'/\σ.aj+1+1+1<=σ'.aj) (meas g (λ_=>0) 0) ?_ ?_
 .refine⟨λ_=>0,0,σ.aj,rfl,?_⟩
  simp(disch:=try exact jz) only[go_sem,z3,am]
  exact⟨jp,inv_start h.J5 (iE g) (!gr),Js h,fr,jp⟩
 .rintro q tm σ' ⟨x,t,xb,rfl,t0,t1,t5,t6,t7,t8,q6,hxb,q7,q8,hI,hP,hf,hnx⟩
  have kM:=Fr.refl hf.wf
  obtain⟨D,hMg⟩:=hP.mg h
  simp(disch:=try exact jz) only[go_sem,z3,t0,t1,t5,t6,t7,t8]
  refine(arC hf.wf (hs0.fr hf) q6 hMg).mono ?_
  rintro _ σ1 ⟨⟨Dv,Sv,rfl,hDv,hSv⟩,hf1⟩
  have hF1:=hf.trans hf1
  have Z7:=Fr.refl hf1.wf
  have k1:=hDv.kn
  have k2:=hSv.kn
  simp(disch:=try exact jz) only[go_sem,z3,t0,t1,t5,t6,t7,t8,k1,k2]
  refine aC.st (Fr σ1) (fr) λhF=>?_
  have hF2:=hF1.trans hF
  refine(aeD hF.wf (hs0.fr hF2) (hDv.fr hf1.wf hF) (hSv.fr hf1.wf hF) hMg).mono ?_
  rintro _ σ2 ⟨⟨mb,bs,hi,rfl,hm1,hm2,asb⟩,hf2⟩
  have hF3:=hF2.trans hf2
  have aao:=Fr.refl hf2.wf
  simp(disch:=try exact jz) only[go_sem,z3,t0,t1,t5,t6,t7,t8]
  refine bJ.mono (Q:=λex tm σ3=>ex=.exit 2/\Tr.ah tm 0=.c (.ptr sb 0)/\Tr.ah tm 1=.c (.bool gr)/\Tr.ah tm 5=.c (.int .i64 (.ofNat g.e.length))/\Tr.ah tm 6=.c (.sl xb 0 g.e.length (.ex g.e.length))/\Tr.ah tm 7=.c (.ptr (σ.aj+1) 0)/\Tr.ah tm 8=.c (.ptr (σ.aj+1+1) 0)/\Tr.ah tm 9=.c (.ptr σ1.aj 0)/\Tr.ah tm 10=.c (.sl mb 0 g.e.length (.ex g.e.length))/\Tr.ah tm 11=.c (.sl σ2.aj 0 g.e.length (.ex g.e.length))
    /\σ3.h σ2.aj=some ⟨ones g.e.length λk=>.bool (U5 g.e.length k),none⟩/\Fr σ2 σ3/\σ2.aj+1<=σ3.aj)
   (aF (λq tm σ3=>∃i,q=g.e.length-i/\i<=g.e.length/\Tr.ah tm 0=.c (.ptr sb 0)/\Tr.ah tm 1=.c (.bool gr)/\Tr.ah tm 5=.c (.int .i64 (.ofNat g.e.length))/\Tr.ah tm 6=.c (.sl xb 0 g.e.length (.ex g.e.length))/\Tr.ah tm 7=.c (.ptr (σ.aj+1) 0)/\Tr.ah tm 8=.c (.ptr (σ.aj+1+1) 0)/\Tr.ah tm 9=.c (.ptr σ1.aj 0)/\Tr.ah tm 10=.c (.sl mb 0 g.e.length (.ex g.e.length))/\Tr.ah tm 11=.c (.sl σ2.aj 0 g.e.length (.ex g.e.length))/\Tr.ah tm 36=.c (.int .i64 (.ofNat g.e.length))/\Tr.ah tm 37=.c (.int .i64 (.ofNat i))
    /\σ3.h σ2.aj=some ⟨ones g.e.length λk=>.bool (U5 i k),none⟩/\Fr σ2 σ3/\σ2.aj+1<=σ3.aj) g.e.length ?_ ?_) ?_
  .refine⟨0,jb,jb,?_⟩
   simp(disch:=try exact jz) only[go_sem,z3,t0,t1,t5,t6,t7,t8,am]
   exact⟨bO (λl=>some (Bk.mk l none)) (dS λk _=>by unfold U5;rw[ae jb]),fr,jp⟩
  .rintro q tm3 σ3 ⟨i,rfl,hi1,t0,t1,t5,t6,t7,t8,t9,t10,t11,t36,t37,q11,hf3,hn3⟩
   have amx:=Fr.refl hf3.wf
   have ay0:=hf3.wf.lt q11
   simp(disch:=try exact jz) only[go_sem,z3,t0,t1,t5,t6,t7,t8,t9,t10,t11,t36,t37,aG]
   refine aH (λhlt=>?_) (λhlt=>?_)
   .have hst:=ajG (n:=g.e.length) (i:=i)
    simp(disch:=try exact jz) only[go_sem,z3,t0,t1,t5,t6,t7,t8,t9,t10,t11,t36,t37,q11,aI q11,hst]
    exact⟨g.e.length-(i+1),jb,i+1,rfl,jb,rfl,rfl,fr,jb⟩
   .have:i=g.e.length:=jb
    subst this
    simp(disch:=try exact jz) only[go_sem,z3,am]
    exact⟨t0,t1,t5,t6,t7,t8,t9,t10,t11,q11,hf3,hn3⟩
  .rintro _ tm3 σ3 ⟨rfl,t0,t1,t5,t6,t7,t8,t9,t10,t11,q11,hf3,hn3⟩
   have oW:=hF3.trans hf3
   have hle3:=hf3.le
   have hle':=hf.le
   have Yf:=hF.trans (hf2.trans hf3)
   have q63:=(hf1.trans Yf).get hf.wf q6
   have q73:=(hf1.trans Yf).get hf.wf q7
   have q83:=(hf1.trans Yf).get hf.wf q8
   have q93:σ3.h σ1.aj=some ⟨[Dv,Sv],none⟩:=(hf2.trans hf3).get hF.wf (aA _ _ _)
   have hxl:=hf.wf.lt q6
   have axz:=hf1.trans Yf
   have ax9:=axz.le
   have aya:=asb.b
   have ayb:=asb.l
   have hM3:dQ (Lt σ3.aj) σ3.h (.sl mb 0 g.e.length (.ex g.e.length)) g.e.length (λ_=>g.e.length) (gM g.e.length (bC g) x):=((asb.hr (p:=Lt σ2.aj) λb hb=>by show b<σ2.aj;omega).fr hf2.wf hf3).keep (λ_ _=>rfl) λb hb=>aL hb hle3
   obtain⟨m1,m2,m3⟩:=h.mz hI.nn
   have hsub:=h.sub hI.nn
   have m0:∀j i,j<g.e.length->i<g.e.length->0<=gM g.e.length (bC g) x j i:=λj i hj hi=>hsub.nn j i hj hi
   have hcn:∀j,j<g.e.length->0<=iE g j:=λj hj=>(h.m j hj).2.2.1
   obtain⟨zx,zt,zt1⟩:=hP.sz hI.t0 hI.t1
   by_cases hret:gr=false/\t=1
   .obtain⟨rfl,rfl⟩:=hret
    simp(disch:=try exact jz) only[go_sem,z3,t0,t1,t5,t6,t7,t8,t9,t10,t11,ak q73,ak q83,gh]
    exact⟨x,⟨xb,rfl,q63,hxb,jb⟩,hP,hI,(λe=>by cases e),λ_=>arO h.J5 (iE g) hI,oW⟩
   .have amx:=Fr.refl hf3.wf
    refine(show bJ EN (.seq _ _) _ _ _ from vN (λtm σ4=>∃(ov:B) (of:Nat->Bool),Tr.ah tm 0=.c (.ptr sb 0)/\Tr.ah tm 1=.c (.bool gr)/\Tr.ah tm 5=.c (.int .i64 (.ofNat g.e.length))/\Tr.ah tm 6=.c (.sl xb 0 g.e.length (.ex g.e.length))/\Tr.ah tm 7=.c (.ptr (σ.aj+1) 0)/\Tr.ah tm 8=.c (.ptr (σ.aj+1+1) 0)/\Tr.ah tm 9=.c (.ptr σ1.aj 0)/\Tr.ah tm 10=.c (.sl mb 0 g.e.length (.ex g.e.length))/\Tr.ah tm 11=.c ov
     /\HL σ4.h 1 ov g.e.length (λi=>[.bool (of i)])/\(∀i j,i<g.e.length->j<g.e.length->of i=true->gM g.e.length (bC g) x j i≠0->of j=true)/\(∀i,i<g.e.length->0<iE g i->of i=true)/\(gr=true->∀i,i<g.e.length->of i=true)/\(gr=false->t≠1/\∀i,i<g.e.length->of i=true->UM g.e.length (gM g.e.length (bC g) x) (λk=>arQ g k=true) i)/\Fr σ3 σ4) ?_ ?_)
    .cases gr with
     |true=>
      simp(disch:=try exact jz) only[go_sem,z3,t0,t1,t5,t6,t7,t8,t9,t10,t11]
      have htr:∀i,i<g.e.length->U5 g.e.length i=true:=λi hi=>by unfold U5;rw[ab hi]
      exact⟨_,U5 g.e.length,rfl,aay q11 rfl,λ_ j _ hj _ _=>htr j hj,λi hi _=>htr i hi,λ_=>htr,(λe=>by cases e),Fr.refl hf3.wf⟩
     |false=>
      have ht1:decide (t=1)=false:=az λe=>hret ⟨rfl,e⟩
      simp(disch:=try exact jz) only[go_sem,z3,t0,t1,t5,t6,t7,t8,t9,t10,t11,ak q73,ak q83,ht1]
      refine(aje hf3.wf (hs0.fr oW) jb λi hi=>(h.m i hi).1).mono ?_
      rintro _ σ4 ⟨⟨b4,rfl,hb4,-,-⟩,hf4⟩
      simp(disch:=try exact jz) only[go_sem,z3,t0,t1,t5,t6,t7,t8,t9,t10,t11]
      refine(aco hf4.wf (hM3.fr hf3.wf hf4) jb m1 m0 hb4).mono ?_
      rintro _ σ5 ⟨⟨b5,c5,o5,of,rfl,hb5,axA,ain,hof⟩,hf5⟩
      simp(disch:=try exact jz) only[go_sem,z3,t0,t1,t5,t6,t7,t8,t9,t10,t11]
      exact⟨_,of,rfl,aay hb5 axA,λi j hi hj h1 h2=>(hof j hj).mpr (.step ((hof i hi).mp h1) hj h2),λi hi hc=>(hof i hi).mpr (.base (bB hc) hi),(λe=>by cases e),λ_=>⟨λe=>hret ⟨rfl,e⟩,λi hi h1=>(hof i hi).mp h1⟩,hf4.trans hf5⟩
    .rintro tm4 σ4 ⟨ov,of,t0,t1,t5,t6,t7,t8,t9,t10,t11,hov,asc,axB,axC,ase,hf4⟩
     simp(disch:=try exact jz) only[go_sem,z3,t0,t1,t5,t6,t7,t8,t9,t10,t11]
     refine(ai9 hf4.wf (hM3.fr hf3.wf hf4) jb m3 m1 m0 hov).mono ?_
     rintro _ σ5 ⟨⟨cv,rfl,hB⟩,hf5⟩
     have iD:=hf4.trans hf5
     have aas:=oW.trans iD
     have q65:=iD.get hf3.wf q63
     have q75:=iD.get hf3.wf q73
     have q85:=iD.get hf3.wf q83
     have q95:=iD.get hf3.wf q93
     have yL:=iD.le
     have Eu:=Fr.refl hf5.wf
     have hD5:dQ (λ_=>True) σ5.h Dv g.e.length (kE g.e) (Pz g x):=(hDv.fr hf1.wf (Yf.trans iD)).keep (λ_ _=>rfl) λ_ _=>trivial
     have hS5:dQ (λ_=>True) σ5.h Sv g.e.length (kE g.e) (JY g x):=(hSv.fr hf1.wf (Yf.trans iD)).keep (λ_ _=>rfl) λ_ _=>trivial
     rcases hB with⟨rfl,hnone⟩|⟨i0,hi0,avL,am1,hmin,⟨cb,rfl⟩,hH⟩
     .have asf:∀S:Nat->Prop,(∃i,i<g.e.length/\S i)->(∀i,i<g.e.length->S i->of i=true)->¬Ins.Shut g.e.length (gM g.e.length (bC g) x) S:=ai2 (of:=λi=>of i=true) (R:=λk=>rE g.e.length (gM g.e.length (bC g) x) λi=>i=k) (λk _ _=>Ld _ _ λi=>i=k) hnone
      by_cases ht1:t=1
      .subst ht1
       cases gr with
       |false=>exact absurd rfl (ase rfl).1
       |true=>
        simp(disch:=try exact jz) only[go_sem,z3,t0,t1,t5,t6,t7,t8,t9,t10,t11,ak q75,ak q85,gh]
        exact⟨x,⟨xb,rfl,q65,hxb,jb⟩,hP,hI,(λ_=>ai5 h.J5 (iE g) hI λS hS=>asf S hS λi hi _=>axC rfl i hi),(λe=>by cases e),aas⟩
      .have htd:decide (t=1)=false:=az ht1
       simp(disch:=try exact jz) only[go_sem,z3,t0,t1,t5,t6,t7,t8,t9,t10,t11,ak q75,ak q85,htd]
       refine(ai8 hf5.wf (hov.fr hf4.wf hf5) jb).mono ?_
       rintro _ σ6 ⟨⟨lb,rfl,hN6⟩,gy⟩
       have kY:=aas.trans gy
       have hlF:XT σ6.h (aU (gU of g.e.length).length lb) (gU of g.e.length):=aZ.hl (hN6.hlp jj (λ_ _=>rfl) (p:=λ_=>True) λ_ _ _=>trivial)
       have hmem:∀i,i∈gU of g.e.length↔i<g.e.length/\of i=true:=λi=>zN _ _ _
       have hM6:=(hM3.fr hf3.wf (iD.trans gy))
       simp(disch:=try exact jz) only[go_sem,z3,t0,t1,t5,t6,t7,t8,t9,t10,t11]
       refine(asa gy.wf (hs0.fr kY) h hI.nn hM6 hlF (FT _ _) (λi hi=>((hmem i).mp hi).1) ?_ (λS hS hi=>asf S hS λi hi2 hSi=>((hmem i).mp (hi i hi2 hSi)).2) ?_).mono ?_
       .intro i hi j hj hjl
        by_cases e:gM g.e.length (bC g) x j i=0
        .exact e
        .exact absurd ((hmem j).mpr ⟨hj,asc i j ((hmem i).mp hi).1 hj ((hmem i).mp hi).2 e⟩) hjl
       .intro j hj hjl
        by_cases e:0<iE g j
        .exact absurd ((hmem j).mpr ⟨hj,axB j hj e⟩) hjl
        .have:=hcn j hj;grind
       rintro _ σ7 ⟨v,⟨vb,rfl,hv1,hv2,hv3⟩,hvn,hvm,hvz,hvZ,mW⟩
       have U6:=gy.trans mW
       have rJ:=aas.trans U6
       have q67:=U6.get hf5.wf q65
       have q77:=U6.get hf5.wf q75
       have q87:=U6.get hf5.wf q85
       have q97:=U6.get hf5.wf q95
       have amB:=U6.le
       obtain⟨D2,hNr⟩:=hP.nr h hvn hvZ (gm E8)
       have hxr:jB (λ_=>True) σ7.h (.sl xb 0 g.e.length (.ex g.e.length)) g.e.length x:=bf (G:=λc=>gX (x c)) _ q67 rfl trivial (λ_=>rfl) jj λ_ _=>rfl
       have hvr:jB (λ_=>True) σ7.h (.sl vb 0 g.e.length (.ex g.e.length)) g.e.length v:=bf (G:=λc=>gX (v c)) _ hv1 rfl trivial (λ_=>rfl) jj λ_ _=>rfl
       have k1:=hD5.kn
       have k2:=hS5.kn
       simp(disch:=try exact jz) only[go_sem,z3,t0,t1,t5,t6,t7,t8,t9,t10,t11,ak q97,k1,k2]
       refine(Rh mW.wf (hs0.fr rJ) hxr hvr ((hDv.fr hf1.wf (Yf.trans (iD.trans U6))).keep (λ_ _=>rfl) λ_ _=>trivial) ((hSv.fr hf1.wf (Yf.trans (iD.trans U6))).keep (λ_ _=>rfl) λ_ _=>trivial) hNr).mono ?_
       rintro _ σ8 ⟨rfl,oI⟩
       have hD3:∀i,i<g.e.length->FP ((bC g).e i) ((bC g).k i) (x i) (lY g x i):=λi hi=>(ajv h hi (hI.nn i hi)).2
       have htl:t<1:=by have:=hI.t1;grind
       have key:∀w,0<=w->w<=1-t->(∀c∈jJ g.e.length (bC g) (lY g x) x v,w<=c)->(w∈jJ g.e.length (bC g) (lY g x) x v\/w=1-t)->Bh h.J5 (iE g) (!gr) (aY x v w) (t+w)/\vS g (aY x v w) (t+w)/\meas g (aY x v w) (t+w)<meas g x t:=λw w0 w1 wc hw=>by
        obtain⟨a1,a2,a3⟩:=ai4 h.J5 (iE g) hcn hI hD3 hvn hvm (λS hS hi=>asf S hS λi hi2 hSi=>by
         by_cases e:i∈gU of g.e.length
         .exact((hmem i).mp e).2
         .have h1:=hi i hi2 hSi;rw[hvz i e]at h1;exact absurd h1 jj) htl w0 w1 wc
        by_cases hwc:w∈jJ g.e.length (bC g) (lY g x) x v
        .have hm:=a3 hwc;have hms:meas g (aY x v w) (t+w)<meas g x t:=by unfold meas;rw[ae ht1];split<;>omega
         exact⟨a1,(hP.aiU h hvn hvZ (gm E8) hwc (.inr rfl) a1 hms).1,hms⟩
        .have e:=hw.resolve_left hwc;subst e;have e1:t+(1-t)=1:=by grind
         rw[e1]at a1⊢;have hms:meas g (aY x v (1-t)) 1<meas g x t:=by unfold meas;rw[ae ht1,ab rfl];omega
         exact⟨a1,hP.last h hvZ (gm E8) ht1 a1 a2,hms⟩
       have zw:∀w,(w∈jJ g.e.length (bC g) (lY g x) x v\/w=1-t)->Sz w/\∀i,i<g.e.length->Sz (v i)/\Sz (w*v i):=λw hw=>hP.avF h hvn hvZ (gm E8) hI.t0 hI.t1 hw
       have ae4:=U6.trans oI
       have KH:=aas.trans ae4
       have q78:=ae4.get hf5.wf q75
       have q88:=ae4.get hf5.wf q85
       have aiH:=oI.le
       have ayc:=KH.le
       have aw5:=Fr.refl oI.wf
       rcases UN (jJ g.e.length (bC g) (lY g x) x v)with⟨e,en⟩|⟨u,en,hum,hul⟩
       .rw[en]
        have i0:(none:Option Rat).isSome=false:=rfl
        simp(disch:=try exact jz) only[go_sem,z3,t0,t1,t5,t6,t7,t8,t9,t10,t11,ak q78,ak q88,i0]
        refine aC.st (Fr σ8) (fr) λBf=>?_
        obtain⟨kI,kP,km⟩:=key (1-t) kd be (by rw[e];intro c hc;cases hc) (.inr rfl)
        obtain⟨z2,z3⟩:=zw (1-t) (.inr rfl)
        have hx9:=(ae4.trans Bf).get hf5.wf q65
        have hv9:=(oI.trans Bf).get mW.wf hv1
        have hxr:jB (λ_=>True) _ (.sl xb 0 g.e.length (.ex g.e.length)) g.e.length x:=bf (G:=λc=>gX (x c)) _ hx9 rfl trivial (λ_=>rfl) jj λ_ _=>rfl
        have hvr:jB (λ_=>True) _ (.sl vb 0 g.e.length (.ex g.e.length)) g.e.length v:=bf (G:=λc=>gX (v c)) _ hv9 rfl trivial (λ_=>rfl) jj λ_ _=>rfl
        refine(Lc Bf.wf hxr hvr jb z2 zx (λi hi=>(z3 i hi).1) (λi hi=>(z3 i hi).2) (kP.sz kI.t0 kI.t1).1).mono ?_
        rintro _ σA ⟨⟨rb,rfl,hr1,hr2,hr3⟩,hfA⟩
        have q7A:=(Bf.trans hfA).get oI.wf q78
        have q8A:=(Bf.trans hfA).get oI.wf q88
        have ajH:σA.h σ8.aj=some ⟨[.bool (rn (1-t)),.str (rs (1-t)),.str (rd (1-t))],none⟩:=hfA.get Bf.wf (aA _ _ _)
        have hFA:=KH.trans (Bf.trans hfA)
        have avM:=hfA.le
        have hr2:σ8.aj+1+1<=rb:=hr2
        have avN:=Fr.refl hfA.wf
        simp(disch:=try exact jz) only[go_sem,z3,t0,t1,t5,t6,t7,t8,t9,t10,t11,ak q7A,ak ajH,aI q7A]
        exact⟨meas g (aY x v (1-t)) (t+(1-t)),km,aY x v (1-t),t+(1-t),rb,rfl,rfl,(au _ _ _ _ jb).trans hr1,jb,rfl,q8A,kI,kP,fr,jb⟩
       .rw[en]
        have i0:(some u).isSome=true:=rfl
        have i1:gq0 (some u)=u:=rfl
        have zu:=(zw u (.inl hum)).1
        by_cases hlt:1-t<u
        .have hd:=bB hlt
         simp(disch:=try exact jz) only[go_sem,z3,t0,t1,t5,t6,t7,t8,t9,t10,t11,ak q78,ak q88,i0,i1,acG,hd]
         refine aC.st (Fr σ8) (fr) λBf=>?_
         obtain⟨kI,kP,km⟩:=key (1-t) kd be (λc hc=>by have:=hul c hc;grind) (.inr rfl)
         obtain⟨z2,z3⟩:=zw (1-t) (.inr rfl)
         have hx9:=(ae4.trans Bf).get hf5.wf q65
         have hv9:=(oI.trans Bf).get mW.wf hv1
         have hxr:jB (λ_=>True) _ (.sl xb 0 g.e.length (.ex g.e.length)) g.e.length x:=bf (G:=λc=>gX (x c)) _ hx9 rfl trivial (λ_=>rfl) jj λ_ _=>rfl
         have hvr:jB (λ_=>True) _ (.sl vb 0 g.e.length (.ex g.e.length)) g.e.length v:=bf (G:=λc=>gX (v c)) _ hv9 rfl trivial (λ_=>rfl) jj λ_ _=>rfl
         refine(Lc Bf.wf hxr hvr jb z2 zx (λi hi=>(z3 i hi).1) (λi hi=>(z3 i hi).2) (kP.sz kI.t0 kI.t1).1).mono ?_
         rintro _ σA ⟨⟨rb,rfl,hr1,hr2,hr3⟩,hfA⟩
         have q7A:=(Bf.trans hfA).get oI.wf q78
         have q8A:=(Bf.trans hfA).get oI.wf q88
         have ajH:σA.h σ8.aj=some ⟨[.bool (rn (1-t)),.str (rs (1-t)),.str (rd (1-t))],none⟩:=hfA.get Bf.wf (aA _ _ _)
         have hFA:=KH.trans (Bf.trans hfA)
         have avM:=hfA.le
         have hr2:σ8.aj+1+1<=rb:=hr2
         have avN:=Fr.refl hfA.wf
         simp(disch:=try exact jz) only[go_sem,z3,t0,t1,t5,t6,t7,t8,t9,t10,t11,ak q7A,ak ajH,aI q7A]
         exact⟨meas g (aY x v (1-t)) (t+(1-t)),km,aY x v (1-t),t+(1-t),rb,rfl,rfl,(au _ _ _ _ jb).trans hr1,jb,rfl,q8A,kI,kP,fr,jb⟩
        .have hd:=az hlt
         simp(disch:=try exact jz) only[go_sem,z3,t0,t1,t5,t6,t7,t8,t9,t10,t11,ak q78,ak q88,i0,i1,acG,hd]
         refine aC.st (Fr σ8) (fr) λBf=>?_
         obtain⟨kI,kP,km⟩:=key u (dC (Ed hD3 u hum)) kd hul (.inl hum)
         obtain⟨z2,z3⟩:=zw u (.inl hum)
         have hx9:=(ae4.trans Bf).get hf5.wf q65
         have hv9:=(oI.trans Bf).get mW.wf hv1
         have hxr:jB (λ_=>True) _ (.sl xb 0 g.e.length (.ex g.e.length)) g.e.length x:=bf (G:=λc=>gX (x c)) _ hx9 rfl trivial (λ_=>rfl) jj λ_ _=>rfl
         have hvr:jB (λ_=>True) _ (.sl vb 0 g.e.length (.ex g.e.length)) g.e.length v:=bf (G:=λc=>gX (v c)) _ hv9 rfl trivial (λ_=>rfl) jj λ_ _=>rfl
         refine(Lc Bf.wf hxr hvr jb z2 zx (λi hi=>(z3 i hi).1) (λi hi=>(z3 i hi).2) (kP.sz kI.t0 kI.t1).1).mono ?_
         rintro _ σA ⟨⟨rb,rfl,hr1,hr2,hr3⟩,hfA⟩
         have q7A:=(Bf.trans hfA).get oI.wf q78
         have q8A:=(Bf.trans hfA).get oI.wf q88
         have ajH:σA.h σ8.aj=some ⟨[.bool (rn u),.str (rs u),.str (rd u)],none⟩:=hfA.get Bf.wf ((au _ _ _ _ jb).trans ((au _ _ _ _ jb).trans (aA _ _ _)))
         have hFA:=KH.trans (Bf.trans hfA)
         have avM:=hfA.le
         have hr2:σ8.aj+1+1<=rb:=hr2
         have avN:=Fr.refl hfA.wf
         simp(disch:=try exact jz) only[go_sem,z3,t0,t1,t5,t6,t7,t8,t9,t10,t11,ak q7A,ak ajH,aI q7A]
         exact⟨meas g (aY x v u) (t+u),km,aY x v u,t+u,rb,rfl,rfl,(au _ _ _ _ jb).trans hr1,jb,rfl,q8A,kI,kP,fr,jb⟩
     .have hcls:=ai1 hsub (of:=λi=>of i=true) (λi j hi hj h1 h2=>asc i j hi hj h1 h2) (R:=λk=>rE g.e.length (gM g.e.length (bC g) x) λi=>i=k) (λk _ _=>Ld _ _ λi=>i=k) hi0 avL am1 λk hk h1 h2=>hmin k hk h1 h2
      have k1:=hD5.kn
      have k2:=hS5.kn
      simp(disch:=try exact jz) only[go_sem,z3,t0,t1,t5,t6,t7,t8,t9,t10,t11,ak q95,k1,k2]
      refine(ar7 hf5.wf (hs0.fr aas) h q65 hP hD5 hS5 (hM3.fr hf3.wf iD) (aZ.hl hH) hcls hI (λhl E hE hE0 hEb=>?_) (λhl=>?_)).mono ?_
      .obtain⟨i,hi,hEi,hil⟩:=hE
       have hgr:gr=false:=by cases gr with|false=>rfl|true=>cases hl
       have hof:of i=true:=by
        have h1:=((Ld g.e.length (gM g.e.length (bC g) x) λk=>k=i0).mem i).mp hil;clear hEi hil hi;induction h1 with
        |base e hi=>subst e;exact avL
        |step h1 hj hm ih=>exact asc _ _ h1.lt hj ih hm
       have hr:=(ase hgr).2 i hi hof
       clear hof hil hi
       induction hr with
       |base e hi=>have:=cT e;have e2:=hE0 _ hi hEi;unfold iE at e2;grind
       |step h1 hj hm ih=>exact ih (hEb _ _ hj h1.lt hEi hm)
      .have hgr:gr=false:=by cases gr with|false=>rfl|true=>cases hl
       have h1:=(ase hgr).1
       have h2:=hI.t1
       grind
      rintro _ σ6 ⟨y,⟨yb,rfl,hy1,hy2,hy3⟩,hI',hP',hms,gy⟩
      have kY:=aas.trans gy
      have zI:=gy.le
      have q76:=gy.get hf5.wf q75
      have q86:=gy.get hf5.wf q85
      simp(disch:=try exact jz) only[go_sem,z3,t0,t1,t5,t6,t7,t8,t9,t10,t11]
      exact⟨meas g y t,hms,y,t,yb,rfl,rfl,hy1,jb,q76,q86,hI',hP',kY,jb⟩
def avO(p:Nat->Prop)(h:Tr Bk)(r:V)(g:iJ)(x:Nat->Rat):Prop:=∃rr,r=.aX rr (.aX (.c (.int .i64 (.ofNat 0))) .tnil)/\aan p h rr g x
def aan.keep{p q:Nat->Prop}{h h':Tr Bk}{r:V}{g:iJ}{x:Nat->Rat}(hs:aan p h r g x)(hk:∀b,p b->h' b=h b)(hq:∀b,p b->q b):aan q h' r g x:=by obtain⟨cm,G,Dv,Rf,Nt,Su,Re,Fu,rfl,h1,h2,h3,h4,h5,h6,h7,h8⟩:=hs;exact⟨cm,G,Dv,Rf,Nt,Su,Re,Fu,rfl,aZ.keep h1 hk hq,h2.keep hk hq,h3.keep hk hq,h4.keep hk hq,h5.keep hk hq,aZ.keep h6 hk hq,aZ.keep h7 hk hq,aZ.keep h8 hk hq⟩
def aan.kn8{p:Nat->Prop}{h:Tr Bk}{r:V}{g:iJ}{x:Nat->Rat}(hs:aan p h r g x):∃cm G Dv Rf Nt Su Re Fu,r=.agg [cm,G,Dv,Rf,Nt,Su,Re,Fu]/\cm.kn=true/\G.kn=true/\Dv.kn=true/\Rf.kn=true/\Nt.kn=true/\Su.kn=true/\Re.kn=true/\Fu.kn=true:=by obtain⟨cm,G,Dv,Rf,Nt,Su,Re,Fu,rfl,h1,h2,h3,h4,h5,h6,h7,h8⟩:=hs;exact⟨cm,G,Dv,Rf,Nt,Su,Re,Fu,rfl,aZ.kn h1,h2.kn,h3.kn,h4.kn,h5.kn,aZ.kn h6,aZ.kn h7,aZ.kn h8⟩
def Lh{σ:St}(hW:WF σ){p:Nat->Prop}{ev dv:B}{g:iJ}(hg:xH p σ.h ev dv g)(h:kX g):
  aC EN 13 [.agg [ev,dv]] σ λr σ'=>∃x,avO (λb=>σ.aj<=b/\b<σ'.aj) σ'.h r g x/\vS g x 1/\Bh h.J5 (iE g) false x 1/\Grt (n:=g.e.length) (g:=bC g) (iE g) x/\Fr σ σ':=by
 refine aQ (rX.o _ _) rX.h ?_
 unfold rX
 dsimp only
 obtain⟨_,hM0⟩:=(Js h).map h
 have hek:=hg.e.kn
 have hdk:=hg.d.kn
 have hFr:=Fr.refl hW
 simp(disch:=try exact jz) only[go_sem,z3,hek,hdk]
 refine aC.st (Fr σ) (fr) λhF=>?_
 refine(acd hF.wf (hg.fr hW hF) h.z h.bld (λi hi=>(h.m i hi).1) λd hd=>(h.d d hd).2.1).mono ?_
 rintro _ σ2 ⟨rfl,hf2⟩
 have hF2:=hF.trans hf2
 have q0:=hf2.get hF.wf (aA _ _ _)
 have q00:=hf2.get hF.wf ((au _ _ _ _ jb).trans (aA _ _ _))
 have hd0:decide ((0:Int)=Int.ofNat 0)=true:=rfl
 have hle2:σ.aj+1+1<=σ2.aj:=hf2.le
 simp(disch:=try exact jz) only[go_sem,z3,hek,hdk,hd0,ak q00,q00]
 refine(ab5 hf2.wf g (hg.fr hW hF2) hM0.a h.bld).mono ?_
 rintro _ σ3 ⟨⟨sb,rfl,hS⟩,hf3⟩
 have hf3:=hf2.trans hf3
 have hF3:=hF.trans hf3
 simp(disch:=try exact jz) only[go_sem,z3]
 refine(acH hf3.wf hS h true).mono ?_
 rintro _ σ4 ⟨x,⟨xb,rfl,hx1,hx2,hx3⟩,hP,hI,hgt,hls,hf4⟩
 have oW:=hF3.trans hf4
 obtain⟨D,hMg⟩:=hP.mg h
 simp(disch:=try exact jz) only[go_sem,z3]
 refine(Xz hf4.wf (hS.fr hf4) hx1 hMg.A.s).mono ?_
 rintro _ σ5 ⟨hV,hf5⟩
 have iD:=oW.trans hf5
 have hle3:σ.aj+1+1<=σ3.aj:=hf3.le
 have xu:=hf4.le
 have yL:=hf5.le
 have Eu:=Fr.refl hf5.wf
 have q1:=(hf3.trans (hf4.trans hf5)).get hF.wf (aA _ _ _)
 obtain⟨cm,G,Dv,Rf,Nt,Su,Re,Fu,er,k1,k2,k3,k4,k5,k6,k7,k8⟩:=hV.kn8
 subst er
 simp(disch:=try exact jz) only[go_sem,z3,ak q1,aI q1,k1,k2,k3,k4,k5,k6,k7,k8]
 exact⟨x,⟨_,rfl,hV.keep (λb hb=>au _ _ _ _ jb) λb hb=>⟨jb,hb.2⟩⟩,hP,hI,hgt rfl,fr⟩
def U7{σ:St}(hW:WF σ){p:Nat->Prop}{ev dv:B}{g:iJ}(hg:xH p σ.h ev dv g)(h:kX g):
  aC EN 14 [.agg [ev,dv]] σ λr σ'=>∃x,avO (λb=>σ.aj<=b/\b<σ'.aj) σ'.h r g x/\vS g x 1/\Bh h.J5 (iE g) true x 1/\Ins.xB (n:=g.e.length) (g:=bC g) (iE g) x/\Fr σ σ':=by
 refine aQ (rY.o _ _) rY.h ?_
 unfold rY
 dsimp only
 obtain⟨_,hM0⟩:=(Js h).map h
 have hek:=hg.e.kn
 have hdk:=hg.d.kn
 have hFr:=Fr.refl hW
 simp(disch:=try exact jz) only[go_sem,z3,hek,hdk]
 refine aC.st (Fr σ) (fr) λhF=>?_
 refine(acd hF.wf (hg.fr hW hF) h.z h.bld (λi hi=>(h.m i hi).1) λd hd=>(h.d d hd).2.1).mono ?_
 rintro _ σ2 ⟨rfl,hf2⟩
 have hF2:=hF.trans hf2
 have q0:=hf2.get hF.wf (aA _ _ _)
 have q00:=hf2.get hF.wf ((au _ _ _ _ jb).trans (aA _ _ _))
 have hd0:decide ((0:Int)=Int.ofNat 0)=true:=rfl
 have hle2:σ.aj+1+1<=σ2.aj:=hf2.le
 simp(disch:=try exact jz) only[go_sem,z3,hek,hdk,hd0,ak q00,q00]
 refine(ab5 hf2.wf g (hg.fr hW hF2) hM0.a h.bld).mono ?_
 rintro _ σ3 ⟨⟨sb,rfl,hS⟩,hf3⟩
 have hf3:=hf2.trans hf3
 have hF3:=hF.trans hf3
 simp(disch:=try exact jz) only[go_sem,z3]
 refine(acH hf3.wf hS h false).mono ?_
 rintro _ σ4 ⟨x,⟨xb,rfl,hx1,hx2,hx3⟩,hP,hI,hgt,hls,hf4⟩
 have oW:=hF3.trans hf4
 obtain⟨D,hMg⟩:=hP.mg h
 simp(disch:=try exact jz) only[go_sem,z3]
 refine(Xz hf4.wf (hS.fr hf4) hx1 hMg.A.s).mono ?_
 rintro _ σ5 ⟨hV,hf5⟩
 have iD:=oW.trans hf5
 have hle3:σ.aj+1+1<=σ3.aj:=hf3.le
 have xu:=hf4.le
 have yL:=hf5.le
 have Eu:=Fr.refl hf5.wf
 have q1:=(hf3.trans (hf4.trans hf5)).get hF.wf (aA _ _ _)
 obtain⟨cm,G,Dv,Rf,Nt,Su,Re,Fu,er,k1,k2,k3,k4,k5,k6,k7,k8⟩:=hV.kn8
 subst er
 simp(disch:=try exact jz) only[go_sem,z3,ak q1,aI q1,k1,k2,k3,k4,k5,k6,k7,k8]
 exact⟨x,⟨_,rfl,hV.keep (λb hb=>au _ _ _ _ jb) λb hb=>⟨jb,hb.2⟩⟩,hP,hI,hls rfl,fr⟩
section
variable {n:Nat} {m:Nat→Rat} {cl:Nat→List C5} {al:Nat→List gB} {dl:List tX}
def mO.c60{A:Nat}{q:Rat}(h:mO A 30 q):mO A 60 q:=⟨h.1,h.2.1,cH h.2.2 jj⟩
def BG.yG(h:BG n m cl al dl):kX (zV n m cl al dl):=by
 have hn:=sS n m cl al dl;have hz:=Xj h.zero;have hix:∀i,i<(zV n m cl al dl).e.length->ix (zV n m cl al dl).e i=⟨oK (m i),cl i,al i⟩:=λi hi=>Ij m cl al dl jb;refine⟨by have:=h.n4;omega,h.bld,h.small,h.zero,λi hi=>?_,λi hi=>?_,λi hi=>?_,λi hi=>?_,λi hi k=>?_,λi hi c hc=>?_,λi hi=>?_,by show dl.length<=3;exact h.d.1,λd hd=>?_⟩
 .rw[h.kE jb];exact(h.c i jb).1
 .rw[h.kE jb,hix i hi];have e:=h.ed (i:=i) jb;exact⟨λt ht p hp=>⟨(e.rk t ht p hp).1,mO.c60 (e.rk t ht p hp).2⟩,λq hq t ht p hp=>⟨(e.ps q hq t ht p hp).1,mO.c60 (e.ps q hq t ht p hp).2⟩⟩
 .rw[h.kE jb,hix i hi];exact(h.eb jb).1
 .rw[hix i hi];obtain⟨-,e1,e2,e3⟩:=h.eb (i:=i) jb;refine⟨e1,by show(ZQ (cl i) (cl i).length).length<=8;grind[ZQ],e2,λp hp=>⟨e3 p hp,?_⟩⟩;obtain⟨a,ha,rfl⟩:=cQ.mp hp;obtain⟨j,hj,rfl⟩:=aM ha;rw[<-eY hj];obtain⟨h3,hT⟩:=h.tl (show i<n by omega) hj;obtain⟨l1,-⟩:=ace (cs:=cl i) hT;grind[rM]
 .rw[hix i hi];exact mO.c60 (h.cap jb k)
 .rw[h.kE jb]at hc;rw[hix i hi];rcases((h.c i jb).2 c hc).1 with h1|⟨j,hj,-,h1⟩
  .grind
  grind
 .rw[hix i hi];obtain⟨v,e⟩:=h.mm i jb;show(oK (m i)).fits _/\mO 60 60 (oK (m i)).q;grind[AA,sO,vO]
 .obtain⟨hl,v,e⟩:=h.d.2 d hd;show(ix dl d).l.length<=4/\(ix dl d).w.fits _/\mO 60 60 (ix dl d).w.q;grind[AA,sO,vO]
end
section
variable {n:Nat} {m m' : Nat→Rat} {cl:Nat→List C5} {al:Nat→List gB} {dl:List tX}
def ajI(i:Nat):(ix (zV n m' cl al dl).e i).c=(ix (zV n m cl al dl).e i).c/\(ix (zV n m' cl al dl).e i).a=(ix (zV n m cl al dl).e i).a:=by
 by_cases h:i<n
 .rw[Ij m cl al dl h,Ij m' cl al dl h];exact⟨rfl,rfl⟩
 .have e:∀m:Nat->Rat,ix (zV n m cl al dl).e i=default:=λm=>by unfold ix;rw[dy,List.getElem?_eq_none (by have:=sS n m cl al dl;omega)];rfl
  rw[e,e];exact⟨rfl,rfl⟩
def ajJ(i:Nat):dI (ix (zV n m' cl al dl).e i)=dI (ix (zV n m cl al dl).e i):=by obtain⟨h1,h2⟩:=ajI (n:=n) (m:=m) (m':=m') (cl:=cl) (al:=al) (dl:=dl) i;unfold dI;rw[h1,h2]
def avQ:bC (zV n m' cl al dl)=bC (zV n m cl al dl):=by
 unfold bC;congr 1
 .funext i;exact ajJ i
 .funext i;rw[(ajI (m:=m) i).1]
 .funext i c;rw[(ajI (m:=m) i).1]
def kX.avP(h:kX (zV n m cl al dl))(hm:∀i,i<n->Sm 1000 (m' i)/\mO 60 60 (m' i)):kX (zV n m' cl al dl):=by
 have hn:=sS n m cl al dl;have hn':=sS n m' cl al dl;have hc:=λi=>(ajI (n:=n) (m:=m) (m':=m') (cl:=cl) (al:=al) (dl:=dl) i).1;have ha:=λi=>(ajI (n:=n) (m:=m) (m':=m') (cl:=cl) (al:=al) (dl:=dl) i).2;have hl:=λi=>ajJ (n:=n) (m:=m) (m':=m') (cl:=cl) (al:=al) (dl:=dl) i;have hk:∀i,kE (zV n m' cl al dl).e i=kE (zV n m cl al dl).e i:=λi=>by unfold kE;rw[hc]
 have hme:∀i,i<n->(ix (zV n m' cl al dl).e i).m=oK (m' i):=λi hi=>by rw[Ij m' cl al dl hi]
 have hd:(zV n m' cl al dl).d=(zV n m cl al dl).d:=rfl;have hf:∀i,i<n->(oK (m' i)).fits 1000000:=λi hi=>LU ((hm i hi).1.mono jb);have hq:∀i,i<n->¬sg (ix (zV n m' cl al dl).e i).m.q<0:=λi hi=>by rw[hme i hi,AA];exact zL (hm i hi).2.2.1
 have hq0:∀i,i<n->¬sg (ix (zV n m cl al dl).e i).m.q<0:=λi hi=>zL (h.m i jb).2.2.1;have hE:∀i,i<n->Fv (ix (zV n m' cl al dl).e i)=Fv (ix (zV n m cl al dl).e i):=λi hi=>by unfold Fv;rw[ae (hq i hi),ae (hq0 i hi),hc,ha]
 refine⟨by have:=h.n;omega,⟨by have:=h.bld.n;omega,h.bld.d,λi hi=>?_,h.bld.l,λd hd k hk=>?_⟩,⟨λi hi=>?_,h.sm.w,by have:=h.sm.le;omega,h.sm.ld,h.sm.ll⟩,?_,λi hi=>?_,λi hi=>?_,λi hi=>?_,λi hi=>?_,λi hi k=>?_,λi hi c hc'=>?_,λi hi=>?_,h.d3,h.d⟩
 .have:=h.bld.e i jb;exact⟨by rw[hc];exact this.nc,by rw[ha];exact this.na,by rw[hc];exact this.r,by rw[hc];exact this.fc,by rw[hc];exact this.c,by rw[hc,ha];exact this.a⟩
 .obtain⟨e,c,h1,h2,h3⟩:=h.bld.lg d hd k hk;exact⟨e,c,h1,jb,by rw[hc];exact h3⟩
 .have:=h.sm.e i jb;refine⟨by rw[hme i jb];have:=hf i jb;exact⟨by have:=this.1;omega,by have:=this.2;omega⟩,by rw[hc];exact this.c,by rw[ha];exact this.a,by rw[hc];exact this.lc,by rw[ha];exact this.la,by rw[ha];exact this.lt,by rw[ha];exact this.lp⟩
 .rw[<-h.z];unfold O9 Tq O8 Zl holdL;simp only[hc,hn,hn',hd];rw[Qq hE]
 .rw[hk];exact h.k6 i jb
 .rw[hk,hl];exact h.ed i jb
 .rw[hk,hl];exact h.eb i jb
 .rw[hl];exact h.er i jb
 .rw[hc];exact h.cap i jb k
 .rw[hk]at hc';rw[hc];rcases h.hold i jb c hc' with h1|⟨j,h1,h2⟩
  .exact .inl h1
  .exact .inr ⟨j,h1,jb⟩
 .rw[hme i jb,AA];exact⟨hf i jb,(hm i jb).2⟩
end
def GI.bg{σ σ':St}{t11 n eb:Nat}{dv:B}{m:Nat->Rat}{cl:Nat->List C5}{bs:Nat->Nat}{A:Nat->B}{al:Nat->List gB}{dl:List tX}(h:GI σ σ' t11 n eb dv m cl bs A al dl)(h0:0<n)(h4:n<=4):BG n m cl al dl:=⟨h0,h4,h.m,h.c,h.a,h.d,h.dg⟩
def asg(c:Nat)(i:Nat):Rat:=if i=0 then(c:Rat)else 0
def ash(more:Bool)(i:Nat):List C5:=if i=0 then⟨1,2,oK 10⟩::(if more then [⟨-1,2,oK 10⟩]else [])else [⟨0,2,oK 10⟩]
def EC(c:Nat)(more:Bool):iJ:=zV 2 (asg c) (ash more) (λ_=>[]) []
def asi:amt 6=10:=by rfl
def U8{c:Nat}(hc:∃v,(c:Rat)=amt v)(more:Bool):BG 2 (asg c) (ash more) (λ_=>[]) []:=by
 have h10:∃v,oK 10=oK (amt v):=⟨6,by rw[asi]⟩
 refine⟨jb,jb,λi _=>?_,λi hi=>?_,λi _=>⟨jj,λj hj=>by cases hj⟩,⟨jj,λj hj=>by cases hj⟩,λj hj=>by cases hj⟩
 .unfold asg;split
  .exact hc
  .exact⟨2,by rfl⟩
 .unfold ash;split
  .next e=>
   subst e;cases more with
   |false=>
    refine⟨jj,λk hk=>?_⟩
    match k,hk with
    |0,_=>exact⟨.inr ⟨1,jb,jb,rfl⟩,⟨2,jb,rfl⟩,h10⟩
   |true=>
    refine⟨jj,λk hk=>?_⟩
    match k,hk with
    |0,_=>exact⟨.inr ⟨1,jb,jb,rfl⟩,⟨2,jb,rfl⟩,h10⟩
    |1,_=>exact⟨.inl rfl,⟨2,jb,rfl⟩,h10⟩
  .next e=>
   refine⟨jj,λk hk=>?_⟩;match k,hk with
   |0,_=>exact⟨.inr ⟨0,jb,jb,rfl⟩,⟨2,jb,rfl⟩,h10⟩
def two(a b:Rat)(i:Nat):Rat:=if i=0 then a else b
def ajK{P:Nat->Prop}(h0:P 0)(h1:P 1):∀i,i<2->P i:=λi hi=>by grind
def acI{g:iJ}(h:kX g)(hn:g.e.length=2){a b:Rat}(ha:0<=a)(hb:0<=b)(e0:a=iE g 0+gG 2 (bC g) (two a b) 0)(e1:b=iE g 1+gG 2 (bC g) (two a b) 1)
  (hs:aB 2 (λj=>gM 2 (bC g) (two a b) j 0)≠1) (hs1:aB 2 (λj=>gM 2 (bC g) (two a b) j 1)≠1\/gM 2 (bC g) (two a b) 0 1≠0){x:Nat->Rat}(hx:Grt (n:=g.e.length) (g:=bC g) (iE g) x):x 0=a/\x 1=b:=by
 have hI:Bh h.J5 (iE g) false (two a b) 1:=by
  refine⟨?_,jj,be,?_,λe=>by cases e⟩
  .rw[hn];exact ajK ha hb
  .intro j hj;rw[gL];show two a b j=iE g j+gG g.e.length (bC g) (two a b) j;grind[two]
 have hno:∀S:Nat->Prop,(∃i,i<g.e.length/\S i)->¬Ins.Shut g.e.length (gM g.e.length (bC g) (two a b)) S:=by
  rw[hn];rintro S ⟨i,hi,hSi⟩ hS;have n0:¬S 0:=λh0=>hs (hS 0 jb h0).1;have n1:¬S 1:=λh1=>by obtain⟨s1,s2⟩:=hS 1 jb h1;grind
  grind
 have hu:=Grt.uniq _ hx (ai5 h.J5 (iE g) hI hno)
 exact⟨hu 0 jb,hu 1 jb⟩
def avS{x:Nat->Rat}(hx:Grt (n:=(EC 0 false).e.length) (g:=bC (EC 0 false)) (iE (EC 0 false)) x):x 0=10/\x 1=10:=
 acI (U8 ⟨2,by rfl⟩ false).yG (sS ..) jj jj (by decide+kernel) (by decide+kernel) (by decide+kernel) (.inl (by decide+kernel)) hx
def avT{x:Nat->Rat}(hx:Grt (n:=(EC 3 true).e.length) (g:=bC (EC 3 true)) (iE (EC 3 true)) x):x 0=6/\x 1=3:=
 acI (U8 ⟨17,by rfl⟩ true).yG (sS ..) jj jj (by decide+kernel) (by decide+kernel) (by decide+kernel) (.inr (by decide+kernel)) hx
def avU{x:Nat->Rat}(hx:Ins.xB (n:=(EC 0 false).e.length) (g:=bC (EC 0 false)) (iE (EC 0 false)) x):x 0=0/\x 1=0:=by have hn:(EC 0 false).e.length=2:=sS ..;have h:=hx.lst (λ_=>0) (λ_ _=>be) (by rw[hn];exact ajK (by decide+kernel) (by decide+kernel));have h0:=hx.nn;rw[hn]at h h0;exact⟨Rat.le_antisymm (h 0 jb) (h0 0 jb),Rat.le_antisymm (h 1 jb) (h0 1 jb)⟩
def U9{σ:St}(hW:WF σ){p:Nat->Prop}{cm G Dv Rf Nt Su Re Fu:B}{x:Nat->Rat}(hv:jB p σ.h cm 2 x)(k1:G.kn=true)(k2:Dv.kn=true)(k3:Rf.kn=true)(k4:Nt.kn=true)(k5:Su.kn=true)(k6:Re.kn=true)(k7:Fu.kn=true){a b:Nat}(ha:a<=1000)(hb:b<=1000)(h0:x 0=((Int.ofNat a:Int):Rat))(h1:x 1=((Int.ofNat b:Int):Rat)):
  aC EN 43 [.agg [cm,G,Dv,Rf,Nt,Su,Re,Fu],.c (.int .i64 (.ofNat a)),.c (.int .i64 (.ofNat b))] σ λr σ'=>r=.c (.bool true)/\Fr σ σ':=by
 refine aQ (CG.o _ _) CG.h ?_
 unfold CG
 dsimp only
 have hk:=aZ.kn hv
 have hl:=aZ.len hv
 obtain⟨b5,o5,c5,rfl,-,l0⟩:=aZ.at3 hv (c:=0) jb
 obtain⟨b6,o6,c6,e,-,l1⟩:=aZ.at3 hv (c:=1) jb
 cases e
 rw[h0]at l0
 rw[h1]at l1
 have m0:=hW.dF l0
 have i1: -9223372036854775808<=Int.ofNat a:=by simp
 have i2:Int.ofNat a<=9223372036854775807:=by grind
 have i3: -9223372036854775808<=Int.ofNat b:=by simp
 have i4:Int.ofNat b<=9223372036854775807:=by grind
 have hFr:=Fr.refl hW
 have d2:decide (Int.ofNat 2=Int.ofNat 2)=true:=rfl
 have d3:decide (((Int.ofNat a:Int):Rat)=((Int.ofNat a:Int):Rat))=true:=bB rfl
 have d4:decide (((Int.ofNat b:Int):Rat)=((Int.ofNat b:Int):Rat))=true:=bB rfl
 simp(disch:=try exact jz) only[go_sem,z3,hk,hl,k1,k2,k3,k4,k5,k6,k7,l0,l1,d2,d3,d4]
 exact fr
def Yg{σ:St}(hW:WF σ):aC EN 42 [.c (.int .i64 (.ofNat 0)),.c (.bool false)] σ λr σ'=>(∃ev dv,r=.agg [ev,dv]/\xH (Lt σ'.aj) σ'.h ev dv (EC 0 false))/\Fr σ σ':=by
 refine aQ (nM.o _ _) nM.h ?_;unfold nM;dsimp only;have hFr:=Fr.refl hW;simp(disch:=try exact jz) only[go_sem,z3];refine⟨⟨_,_,rfl,⟨⟨λi=>if i=0 then .sl (σ.aj+1+1+1) 0 1 (.ex 1)else .sl (σ.aj+1+1+1+1) 0 1 (.ex 1),λ_=>.aW,?_,?_⟩,⟨λ_=>.aW,.inl ⟨rfl,rfl⟩,λi hi=>by cases hi⟩⟩⟩,fr⟩
 .refine bf (n:=2) (e:=5) _ ((au _ _ _ _ jb).trans (aA _ _ _)) rfl (by show σ.aj+1<σ.aj+1+1+1+1+1;omega) (λ_=>rfl) jj ?_;intro j hj;match j,hj with
  |0,_=>rfl
  |1,_=>rfl
 .intro i hi;match i,hi with
  |0,_=>exact⟨bf (n:=1) (e:=5) _ ((au _ _ _ _ jb).trans ((au _ _ _ _ jb).trans ((au _ _ _ _ jb).trans ((au _ _ _ _ jb).trans (aA _ _ _))))) rfl (by show σ.aj+1+1+1<σ.aj+1+1+1+1+1;omega) (λ_=>rfl) jj (λ_ _=>rfl),λ_=>.aW,.inl ⟨rfl,rfl⟩,λi hi=>by cases hi⟩
  |1,_=>exact⟨bf (n:=1) (e:=5) _ ((au _ _ _ _ jb).trans ((au _ _ _ _ jb).trans (aA _ _ _))) rfl (by show σ.aj+1+1+1+1<σ.aj+1+1+1+1+1;omega) (λ_=>rfl) jj (λ_ _=>rfl),λ_=>.aW,.inl ⟨rfl,rfl⟩,λi hi=>by cases hi⟩
def ae5{σ:St}{ty fU bytes b:Nat}{cs news:List B}(hb:σ.h b=some ⟨cs,none⟩)(hl:cs.length=fU)(hk:cs.all B.kn=true)(h2:0<fU)(h3:2*bytes<=140737488355328):qj ty fU bytes (.c (.sl b 0 1 (.ex 1))) 1 news σ=some (.c (.sl σ.aj 0 2 .opn),⟨hset σ.h σ.aj ⟨cs++news,some (fU,ty)⟩,σ.aj+1⟩):=by
 unfold qj;dsimp only;rw[Nb (by omega:1≠0),hb];have e1:Nat.beq fU fU=true:=by simp
 simp only[ff,Bk.rd,Nat.one_mul,gi,<-hl,cg,hk,ES (hl▸h2),uY h3,du,cn,jG,qh,Bool.true_and];rw[show(0+cs.length).ble cs.length=true by simp];rfl
def ajL{σ:St}(hW:WF σ):aC EN 42 [.c (.int .i64 (.ofNat 3)),.c (.bool true)] σ λr σ'=>(∃ev dv,r=.agg [ev,dv]/\xH (Lt σ'.aj) σ'.h ev dv (EC 3 true))/\Fr σ σ':=by
 refine aQ (nM.o _ _) nM.h ?_;unfold nM;dsimp only;have hFr:=Fr.refl hW;simp(disch:=try exact jz) only[go_sem,z3];rw[ae5 (fU:=5) (cs:=[.int .i64 (.ofNat 1),.int .i64 (.ofNat 2),.bool (rn ((Int.ofNat 10:Int):Rat)),.str (rs ((Int.ofNat 10:Int):Rat)),.str (rd ((Int.ofNat 10:Int):Rat))]) ?hb rfl rfl jj jj]
 case hb=>grind[au,aA]
 simp(disch:=try exact jz) only[go_sem,z3];refine⟨⟨_,_,rfl,⟨⟨λi=>if i=0 then .sl (σ.aj+1+1+1+1+1+1) 0 2 .opn else .sl (σ.aj+1+1+1+1) 0 1 (.ex 1),λ_=>.aW,?_,?_⟩,⟨λ_=>.aW,.inl ⟨rfl,rfl⟩,λi hi=>by cases hi⟩⟩⟩,fr⟩
 .refine bf (n:=2) (e:=5) _ ((au _ _ _ _ jb).trans (aA _ _ _)) rfl (by show σ.aj+1<σ.aj+1+1+1+1+1+1+1;omega) (λ_=>rfl) jj ?_;intro j hj;match j,hj with
  |0,_=>rfl
  |1,_=>rfl
 .intro i hi;match i,hi with
  |0,_=>
   refine⟨bf (n:=2) (e:=5) _ ((au _ _ _ _ jb).trans ((au _ _ _ _ jb).trans (aA _ _ _))) (BU _ _ jj) (by show σ.aj+1+1+1+1+1+1<σ.aj+1+1+1+1+1+1+1;omega) (λ_=>rfl) jj ?_,λ_=>.aW,.inl ⟨rfl,rfl⟩,λi hi=>by cases hi⟩
   intro j hj
   rfl
  |1,_=>exact⟨bf (n:=1) (e:=5) _ ((au _ _ _ _ jb).trans ((au _ _ _ _ jb).trans ((au _ _ _ _ jb).trans ((au _ _ _ _ jb).trans ((au _ _ _ _ jb).trans (aA _ _ _)))))) rfl (by show σ.aj+1+1+1+1<σ.aj+1+1+1+1+1+1+1;omega) (λ_=>rfl) jj (λ_ _=>rfl),λ_=>.aW,.inl ⟨rfl,rfl⟩,λi hi=>by cases hi⟩
end Go.Proofs.Xe
