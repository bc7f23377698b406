import Derived.Test.YthkggcakedkboaaGreatDoorYd42
set_option linter.all false
set_option maxRecDepth 100000
set_option maxHeartbeats 8000000
namespace Go.Proofs.Xe
open Go.RowKit Go.Proofs.Ins
def Vj(i k:Nat):Bool:=if k<i then true else false
def ajT{n i:Nat}:ones n (aO (λk=>B.bool (Vj i k)) i (.bool true))=ones n λk=>.bool (Vj (i+1) k):=dS λk _=>by grind[aO,Vj]
def acR(a b:Rat):decide (Int.ofNat 0<pV a b)=decide (b<a):=by grind[pV,qj]
def acS{σ:St}(hW:WF σ){sb:Nat}{g:gW}(hs:EH (Lt σ.aj) σ.h sb g)(h:kD g)(gr:Bool):
  aC EN 33 [.c (.ptr sb 0),.c (.bool gr)] σ λr σ'=>∃x,XC σ σ' r g.e.length x/\wz g x 1/\BH h.JX (iF g) (!gr) x 1/\(gr=true->Rw (n:=g.e.length) (g:=aX g) (iF g) x)/\(gr=false->Ins.yc (n:=g.e.length) (g:=aX g) (iF g) x)/\Fr σ σ':=by
 refine aQ (kL.o _ _) kL.h ?_
 unfold kL
 dsimp only
 have hn8:=h.n
 have hs0:=hs
 obtain⟨⟨ev,gv,lv,bv,hsb,hg,⟨R,P,hL1,hL2⟩,hB⟩,hsl⟩:=hs
 have hsl:sb<σ.aj:=hsl
 have hlk:=hL1.kn
 have hll:=hL1.len
 have hFr:=Fr.refl hW
 have z1:=sz1
 simp(disch:=try exact jz) only[go_sem,z3,au hsb,hll,hlk]
 refine aF (λq tm σ'=>∃x t xb,q=meas g x t/\Tr.ah tm 0=.c (.ptr sb 0)/\Tr.ah tm 1=.c (.bool gr)/\Tr.ah tm 5=.c (.int .i64 (.ofNat g.e.length))/\Tr.ah tm 6=.c (.sl xb 0 g.e.length (.ex g.e.length))/\Tr.ah tm 7=.c (.ptr (σ.aj+1) 0)/\Tr.ah tm 8=.c (.ptr (σ.aj+1+1) 0)
   /\σ'.h xb=some ⟨bZ g.e.length x,none⟩/\σ.aj<=xb/\σ'.h (σ.aj+1)=some ⟨[.bool (rn t),.str (rs t),.str (rd t)],none⟩/\σ'.h (σ.aj+1+1)=some ⟨[.bool (rn 1),.str (rs 1),.str (rd 1)],none⟩/\BH h.JX (iF g) (!gr) x t/\wz g x t/\Fr σ σ'/\σ.aj+1+1+1<=σ'.aj) (meas g (λ_=>0) 0) ?_ ?_
 .refine⟨λ_=>0,0,σ.aj,rfl,?_⟩
  simp(disch:=try exact jz) only[go_sem,z3,am]
  exact⟨jp,inv_start h.JX (iF g) (!gr),JE h,fr,jp⟩
 .rintro q tm σ' ⟨x,t,xb,rfl,t0,t1,t5,t6,t7,t8,q6,hxb,q7,q8,hI,hP,hf,hnx⟩
  have kC:=Fr.refl hf.wf
  obtain⟨D,hMg⟩:=hP.mg h
  simp(disch:=try exact jz) only[go_sem,z3,t0,t1,t5,t6,t7,t8]
  refine(arJ hf.wf (hs0.fr hf) q6 hMg).mono ?_
  rintro _ σ1 ⟨⟨Dv,Sv,rfl,hDv,hSv⟩,hf1⟩
  have hF1:=hf.trans hf1
  have aex:=Fr.refl hf1.wf
  have k1:=hDv.kn
  have k2:=hSv.kn
  simp(disch:=try exact jz) only[go_sem,z3,t0,t1,t5,t6,t7,t8,k1,k2]
  refine aC.st (Fr σ1) (fr) λhF=>?_
  have hF2:=hF1.trans hF
  refine(aeP hF.wf (hs0.fr hF2) (hDv.fr hf1.wf hF) (hSv.fr hf1.wf hF) hMg).mono ?_
  rintro _ σ2 ⟨⟨mb,bs,hi,rfl,hm1,hm2,asj⟩,hf2⟩
  have hF3:=hF2.trans hf2
  have aay:=Fr.refl hf2.wf
  simp(disch:=try exact jz) only[go_sem,z3,t0,t1,t5,t6,t7,t8]
  refine bH.mono (Q:=λex tm σ3=>ex=.exit 2/\Tr.ah tm 0=.c (.ptr sb 0)/\Tr.ah tm 1=.c (.bool gr)/\Tr.ah tm 5=.c (.int .i64 (.ofNat g.e.length))/\Tr.ah tm 6=.c (.sl xb 0 g.e.length (.ex g.e.length))/\Tr.ah tm 7=.c (.ptr (σ.aj+1) 0)/\Tr.ah tm 8=.c (.ptr (σ.aj+1+1) 0)/\Tr.ah tm 9=.c (.ptr σ1.aj 0)/\Tr.ah tm 10=.c (.sl mb 0 g.e.length (.ex g.e.length))/\Tr.ah tm 11=.c (.sl σ2.aj 0 g.e.length (.ex g.e.length))
    /\σ3.h σ2.aj=some ⟨ones g.e.length λk=>.bool (Vj g.e.length k),none⟩/\Fr σ2 σ3/\σ2.aj+1<=σ3.aj)
   (aF (λq tm σ3=>∃i,q=g.e.length-i/\i<=g.e.length/\Tr.ah tm 0=.c (.ptr sb 0)/\Tr.ah tm 1=.c (.bool gr)/\Tr.ah tm 5=.c (.int .i64 (.ofNat g.e.length))/\Tr.ah tm 6=.c (.sl xb 0 g.e.length (.ex g.e.length))/\Tr.ah tm 7=.c (.ptr (σ.aj+1) 0)/\Tr.ah tm 8=.c (.ptr (σ.aj+1+1) 0)/\Tr.ah tm 9=.c (.ptr σ1.aj 0)/\Tr.ah tm 10=.c (.sl mb 0 g.e.length (.ex g.e.length))/\Tr.ah tm 11=.c (.sl σ2.aj 0 g.e.length (.ex g.e.length))/\Tr.ah tm 36=.c (.int .i64 (.ofNat g.e.length))/\Tr.ah tm 37=.c (.int .i64 (.ofNat i))
    /\σ3.h σ2.aj=some ⟨ones g.e.length λk=>.bool (Vj i k),none⟩/\Fr σ2 σ3/\σ2.aj+1<=σ3.aj) g.e.length ?_ ?_) ?_
  .refine⟨0,jb,jb,?_⟩
   simp(disch:=try exact jz) only[go_sem,z3,t0,t1,t5,t6,t7,t8,am]
   exact⟨bL (λl=>some (Bk.mk l none)) (dS λk _=>by unfold Vj;rw[ae jb]),fr,jp⟩
  .rintro q tm3 σ3 ⟨i,rfl,hi1,t0,t1,t5,t6,t7,t8,t9,t10,t11,t36,t37,q11,hf3,hn3⟩
   have amB:=Fr.refl hf3.wf
   have ay2:=hf3.wf.lt q11
   simp(disch:=try exact jz) only[go_sem,z3,t0,t1,t5,t6,t7,t8,t9,t10,t11,t36,t37,aG]
   refine aH (λhlt=>?_) (λhlt=>?_)
   .have hst:=ajT (n:=g.e.length) (i:=i)
    simp(disch:=try exact jz) only[go_sem,z3,t0,t1,t5,t6,t7,t8,t9,t10,t11,t36,t37,q11,aI q11,hst]
    exact⟨g.e.length-(i+1),jb,i+1,rfl,jb,rfl,rfl,fr,jb⟩
   .have:i=g.e.length:=jb
    subst this
    simp(disch:=try exact jz) only[go_sem,z3,am]
    exact⟨t0,t1,t5,t6,t7,t8,t9,t10,t11,q11,hf3,hn3⟩
  .rintro _ tm3 σ3 ⟨rfl,t0,t1,t5,t6,t7,t8,t9,t10,t11,q11,hf3,hn3⟩
   have oW:=hF3.trans hf3
   have hle3:=hf3.le
   have hle':=hf.le
   have Yr:=hF.trans (hf2.trans hf3)
   have q63:=(hf1.trans Yr).get hf.wf q6
   have q73:=(hf1.trans Yr).get hf.wf q7
   have q83:=(hf1.trans Yr).get hf.wf q8
   have q93:σ3.h σ1.aj=some ⟨[Dv,Sv],none⟩:=(hf2.trans hf3).get hF.wf (aA _ _ _)
   have hxl:=hf.wf.lt q6
   have axM:=hf1.trans Yr
   have ayc:=axM.le
   have ayd:=asj.b
   have aye:=asj.l
   have hM3:dQ (Lt σ3.aj) σ3.h (.sl mb 0 g.e.length (.ex g.e.length)) g.e.length (λ_=>g.e.length) (gM g.e.length (aX g) x):=((asj.hr (p:=Lt σ2.aj) λb hb=>by show b<σ2.aj;omega).fr hf2.wf hf3).keep (λ_ _=>rfl) λb hb=>aE hb hle3
   obtain⟨m1,m2,m3⟩:=h.mz hI.nn
   have hsub:=h.sub hI.nn
   have m0:∀j i,j<g.e.length->i<g.e.length->0<=gM g.e.length (aX g) x j i:=λj i hj hi=>hsub.nn j i hj hi
   have hcn:∀j,j<g.e.length->0<=iF g j:=λj hj=>(h.m j hj).2.2.1
   obtain⟨zx,zt,zt1⟩:=hP.sz hI.t0 hI.t1
   by_cases hret:gr=false/\t=1
   .obtain⟨rfl,rfl⟩:=hret
    simp(disch:=try exact jz) only[go_sem,z3,t0,t1,t5,t6,t7,t8,t9,t10,t11,au q73,au q83,gn]
    exact⟨x,⟨xb,rfl,q63,hxb,jb⟩,hP,hI,(λe=>by cases e),λ_=>arU h.JX (iF g) hI,oW⟩
   .have amB:=Fr.refl hf3.wf
    refine(show bH EN (.seq _ _) _ _ _ from vZ (λtm σ4=>∃(ov:B) (of:Nat->Bool),Tr.ah tm 0=.c (.ptr sb 0)/\Tr.ah tm 1=.c (.bool gr)/\Tr.ah tm 5=.c (.int .i64 (.ofNat g.e.length))/\Tr.ah tm 6=.c (.sl xb 0 g.e.length (.ex g.e.length))/\Tr.ah tm 7=.c (.ptr (σ.aj+1) 0)/\Tr.ah tm 8=.c (.ptr (σ.aj+1+1) 0)/\Tr.ah tm 9=.c (.ptr σ1.aj 0)/\Tr.ah tm 10=.c (.sl mb 0 g.e.length (.ex g.e.length))/\Tr.ah tm 11=.c ov
     /\HL σ4.h 1 ov g.e.length (λi=>[.bool (of i)])/\(∀i j,i<g.e.length->j<g.e.length->of i=true->gM g.e.length (aX g) x j i≠0->of j=true)/\(∀i,i<g.e.length->0<iF g i->of i=true)/\(gr=true->∀i,i<g.e.length->of i=true)/\(gr=false->t≠1/\∀i,i<g.e.length->of i=true->U5 g.e.length (gM g.e.length (aX g) x) (λk=>arW g k=true) i)/\Fr σ3 σ4) ?_ ?_)
    .cases gr with
     |true=>
      simp(disch:=try exact jz) only[go_sem,z3,t0,t1,t5,t6,t7,t8,t9,t10,t11]
      have htr:∀i,i<g.e.length->Vj g.e.length i=true:=λi hi=>by unfold Vj;rw[ab hi]
      exact⟨_,Vj g.e.length,rfl,aaI q11 rfl,λ_ j _ hj _ _=>htr j hj,λi hi _=>htr i hi,λ_=>htr,(λe=>by cases e),Fr.refl hf3.wf⟩
     |false=>
      have ht1:decide (t=1)=false:=aw λe=>hret ⟨rfl,e⟩
      simp(disch:=try exact jz) only[go_sem,z3,t0,t1,t5,t6,t7,t8,t9,t10,t11,au q73,au q83,ht1]
      refine(ajs hf3.wf (hs0.fr oW) jb λi hi=>(h.m i hi).1).mono ?_
      rintro _ σ4 ⟨⟨b4,rfl,hb4,-,-⟩,hf4⟩
      simp(disch:=try exact jz) only[go_sem,z3,t0,t1,t5,t6,t7,t8,t9,t10,t11]
      refine(acC hf4.wf (hM3.fr hf3.wf hf4) jb m1 m0 hb4).mono ?_
      rintro _ σ5 ⟨⟨b5,c5,o5,of,rfl,hb5,axN,amq,hof⟩,hf5⟩
      simp(disch:=try exact jz) only[go_sem,z3,t0,t1,t5,t6,t7,t8,t9,t10,t11]
      exact⟨_,of,rfl,aaI hb5 axN,λi j hi hj h1 h2=>(hof j hj).mpr (.step ((hof i hi).mp h1) hj h2),λi hi hc=>(hof i hi).mpr (.base (bw hc) hi),(λe=>by cases e),λ_=>⟨λe=>hret ⟨rfl,e⟩,λi hi h1=>(hof i hi).mp h1⟩,hf4.trans hf5⟩
    .rintro tm4 σ4 ⟨ov,of,t0,t1,t5,t6,t7,t8,t9,t10,t11,hov,asl,axO,axP,asn,hf4⟩
     simp(disch:=try exact jz) only[go_sem,z3,t0,t1,t5,t6,t7,t8,t9,t10,t11]
     refine(ajn hf4.wf (hM3.fr hf3.wf hf4) jb m3 m1 m0 hov).mono ?_
     rintro _ σ5 ⟨⟨cv,rfl,hB⟩,hf5⟩
     have iE:=hf4.trans hf5
     have aaC:=oW.trans iE
     have q65:=iE.get hf3.wf q63
     have q75:=iE.get hf3.wf q73
     have q85:=iE.get hf3.wf q83
     have q95:=iE.get hf3.wf q93
     have yV:=iE.le
     have FV:=Fr.refl hf5.wf
     have hD5:dQ (λ_=>True) σ5.h Dv g.e.length (kE g.e) (PW g x):=(hDv.fr hf1.wf (Yr.trans iE)).keep (λ_ _=>rfl) λ_ _=>trivial
     have hS5:dQ (λ_=>True) σ5.h Sv g.e.length (kE g.e) (Kt g x):=(hSv.fr hf1.wf (Yr.trans iE)).keep (λ_ _=>rfl) λ_ _=>trivial
     rcases hB with⟨rfl,hnone⟩|⟨i0,hi0,avX,am8,hmin,⟨cb,rfl⟩,hH⟩
     .have aso:∀S:Nat->Prop,(∃i,i<g.e.length/\S i)->(∀i,i<g.e.length->S i->of i=true)->¬Ins.Shut g.e.length (gM g.e.length (aX g) x) S:=ajg (of:=λi=>of i=true) (R:=λk=>rJ g.e.length (gM g.e.length (aX g) x) λi=>i=k) (λk _ _=>LH _ _ λi=>i=k) hnone
      by_cases ht1:t=1
      .subst ht1
       cases gr with
       |false=>exact absurd rfl (asn rfl).1
       |true=>
        simp(disch:=try exact jz) only[go_sem,z3,t0,t1,t5,t6,t7,t8,t9,t10,t11,au q75,au q85,gn]
        exact⟨x,⟨xb,rfl,q65,hxb,jb⟩,hP,hI,(λ_=>ajj h.JX (iF g) hI λS hS=>aso S hS λi hi _=>axP rfl i hi),(λe=>by cases e),aaC⟩
      .have htd:decide (t=1)=false:=aw ht1
       simp(disch:=try exact jz) only[go_sem,z3,t0,t1,t5,t6,t7,t8,t9,t10,t11,au q75,au q85,htd]
       refine(ajm hf5.wf (hov.fr hf4.wf hf5) jb).mono ?_
       rintro _ σ6 ⟨⟨lb,rfl,hN6⟩,iC⟩
       have lI:=aaC.trans iC
       have hlF:X8 σ6.h (aU (gQ of g.e.length).length lb) (gQ of g.e.length):=bf.hl (hN6.hlp jj (λ_ _=>rfl) (p:=λ_=>True) λ_ _ _=>trivial)
       have hmem:∀i,i∈gQ of g.e.length↔i<g.e.length/\of i=true:=λi=>zY _ _ _
       have hM6:=(hM3.fr hf3.wf (iE.trans iC))
       simp(disch:=try exact jz) only[go_sem,z3,t0,t1,t5,t6,t7,t8,t9,t10,t11]
       refine(asi iC.wf (hs0.fr lI) h hI.nn hM6 hlF (F5 _ _) (λi hi=>((hmem i).mp hi).1) ?_ (λS hS hi=>aso S hS λi hi2 hSi=>((hmem i).mp (hi i hi2 hSi)).2) ?_).mono ?_
       .intro i hi j hj hjl
        by_cases e:gM g.e.length (aX g) x j i=0
        .exact e
        .exact absurd ((hmem j).mpr ⟨hj,asl i j ((hmem i).mp hi).1 hj ((hmem i).mp hi).2 e⟩) hjl
       .intro j hj hjl
        by_cases e:0<iF g j
        .exact absurd ((hmem j).mpr ⟨hj,axO j hj e⟩) hjl
        .have:=hcn j hj;grind
       rintro _ σ7 ⟨v,⟨vb,rfl,hv1,hv2,hv3⟩,hvn,hvm,hvz,hvZ,pU⟩
       have Vk:=iC.trans pU
       have rW:=aaC.trans Vk
       have q67:=Vk.get hf5.wf q65
       have q77:=Vk.get hf5.wf q75
       have q87:=Vk.get hf5.wf q85
       have q97:=Vk.get hf5.wf q95
       have amI:=Vk.le
       obtain⟨D2,hNr⟩:=hP.nr h hvn hvZ (gz Fj)
       have hxr:jL (λ_=>True) σ7.h (.sl xb 0 g.e.length (.ex g.e.length)) g.e.length x:=bC (G:=λc=>gX (x c)) _ q67 rfl trivial (λ_=>rfl) jj λ_ _=>rfl
       have hvr:jL (λ_=>True) σ7.h (.sl vb 0 g.e.length (.ex g.e.length)) g.e.length v:=bC (G:=λc=>gX (v c)) _ hv1 rfl trivial (λ_=>rfl) jj λ_ _=>rfl
       have k1:=hD5.kn
       have k2:=hS5.kn
       simp(disch:=try exact jz) only[go_sem,z3,t0,t1,t5,t6,t7,t8,t9,t10,t11,au q97,k1,k2]
       refine(Rz pU.wf (hs0.fr rW) hxr hvr ((hDv.fr hf1.wf (Yr.trans (iE.trans Vk))).keep (λ_ _=>rfl) λ_ _=>trivial) ((hSv.fr hf1.wf (Yr.trans (iE.trans Vk))).keep (λ_ _=>rfl) λ_ _=>trivial) hNr).mono ?_
       rintro _ σ8 ⟨rfl,rP⟩
       have hD3:∀i,i<g.e.length->FY ((aX g).e i) ((aX g).k i) (x i) (mG g x i):=λi hi=>(ajI h hi (hI.nn i hi)).2
       have htl:t<1:=by have:=hI.t1;grind
       have key:∀w,0<=w->w<=1-t->(∀c∈jM g.e.length (aX g) (mG g x) x v,w<=c)->(w∈jM g.e.length (aX g) (mG g x) x v\/w=1-t)->BH h.JX (iF g) (!gr) (aZ x v w) (t+w)/\wz g (aZ x v w) (t+w)/\meas g (aZ x v w) (t+w)<meas g x t:=λw w0 w1 wc hw=>by
        obtain⟨a1,a2,a3⟩:=aji h.JX (iF g) hcn hI hD3 hvn hvm (λS hS hi=>aso S hS λi hi2 hSi=>by
         by_cases e:i∈gQ of g.e.length
         .exact((hmem i).mp e).2
         .have h1:=hi i hi2 hSi;rw[hvz i e]at h1;exact absurd h1 jj) htl w0 w1 wc
        by_cases hwc:w∈jM g.e.length (aX g) (mG g x) x v
        .have hm:=a3 hwc;have hms:meas g (aZ x v w) (t+w)<meas g x t:=by unfold meas;rw[ae ht1];split<;>omega
         exact⟨a1,(hP.ai8 h hvn hvZ (gz Fj) hwc (.inr rfl) a1 hms).1,hms⟩
        .have e:=hw.resolve_left hwc;subst e;have e1:t+(1-t)=1:=by grind
         rw[e1]at a1⊢;have hms:meas g (aZ x v (1-t)) 1<meas g x t:=by unfold meas;rw[ae ht1,ab rfl];omega
         exact⟨a1,hP.last h hvZ (gz Fj) ht1 a1 a2,hms⟩
       have zw:∀w,(w∈jM g.e.length (aX g) (mG g x) x v\/w=1-t)->Sz w/\∀i,i<g.e.length->Sz (v i)/\Sz (w*v i):=λw hw=>hP.avR h hvn hvZ (gz Fj) hI.t0 hI.t1 hw
       have afg:=Vk.trans rP
       have KU:=aaC.trans afg
       have q78:=afg.get hf5.wf q75
       have q88:=afg.get hf5.wf q85
       have aiT:=rP.le
       have ayf:=KU.le
       have axe:=Fr.refl rP.wf
       rcases U6 (jM g.e.length (aX g) (mG g x) x v)with⟨e,en⟩|⟨u,en,hum,hul⟩
       .rw[en]
        have i0:(none:Option Rat).isSome=false:=rfl
        simp(disch:=try exact jz) only[go_sem,z3,t0,t1,t5,t6,t7,t8,t9,t10,t11,au q78,au q88,i0]
        refine aC.st (Fr σ8) (fr) λDu=>?_
        obtain⟨kI,kP,km⟩:=key (1-t) kd aR (by rw[e];intro c hc;cases hc) (.inr rfl)
        obtain⟨z2,z3⟩:=zw (1-t) (.inr rfl)
        have hx9:=(afg.trans Du).get hf5.wf q65
        have hv9:=(rP.trans Du).get pU.wf hv1
        have hxr:jL (λ_=>True) _ (.sl xb 0 g.e.length (.ex g.e.length)) g.e.length x:=bC (G:=λc=>gX (x c)) _ hx9 rfl trivial (λ_=>rfl) jj λ_ _=>rfl
        have hvr:jL (λ_=>True) _ (.sl vb 0 g.e.length (.ex g.e.length)) g.e.length v:=bC (G:=λc=>gX (v c)) _ hv9 rfl trivial (λ_=>rfl) jj λ_ _=>rfl
        refine(LC Du.wf hxr hvr jb z2 zx (λi hi=>(z3 i hi).1) (λi hi=>(z3 i hi).2) (kP.sz kI.t0 kI.t1).1).mono ?_
        rintro _ σA ⟨⟨rb,rfl,hr1,hr2,hr3⟩,hfA⟩
        have q7A:=(Du.trans hfA).get rP.wf q78
        have q8A:=(Du.trans hfA).get rP.wf q88
        have ajU:σA.h σ8.aj=some ⟨[.bool (rn (1-t)),.str (rs (1-t)),.str (rd (1-t))],none⟩:=hfA.get Du.wf (aA _ _ _)
        have hFA:=KU.trans (Du.trans hfA)
        have avY:=hfA.le
        have hr2:σ8.aj+1+1<=rb:=hr2
        have avZ:=Fr.refl hfA.wf
        simp(disch:=try exact jz) only[go_sem,z3,t0,t1,t5,t6,t7,t8,t9,t10,t11,au q7A,au ajU,aI q7A]
        exact⟨meas g (aZ x v (1-t)) (t+(1-t)),km,aZ x v (1-t),t+(1-t),rb,rfl,rfl,(ak _ _ _ _ jb).trans hr1,jb,rfl,q8A,kI,kP,fr,jb⟩
       .rw[en]
        have i0:(some u).isSome=true:=rfl
        have i1:gq0 (some u)=u:=rfl
        have zu:=(zw u (.inl hum)).1
        by_cases hlt:1-t<u
        .have hd:=bw hlt
         simp(disch:=try exact jz) only[go_sem,z3,t0,t1,t5,t6,t7,t8,t9,t10,t11,au q78,au q88,i0,i1,acR,hd]
         refine aC.st (Fr σ8) (fr) λDu=>?_
         obtain⟨kI,kP,km⟩:=key (1-t) kd aR (λc hc=>by have:=hul c hc;grind) (.inr rfl)
         obtain⟨z2,z3⟩:=zw (1-t) (.inr rfl)
         have hx9:=(afg.trans Du).get hf5.wf q65
         have hv9:=(rP.trans Du).get pU.wf hv1
         have hxr:jL (λ_=>True) _ (.sl xb 0 g.e.length (.ex g.e.length)) g.e.length x:=bC (G:=λc=>gX (x c)) _ hx9 rfl trivial (λ_=>rfl) jj λ_ _=>rfl
         have hvr:jL (λ_=>True) _ (.sl vb 0 g.e.length (.ex g.e.length)) g.e.length v:=bC (G:=λc=>gX (v c)) _ hv9 rfl trivial (λ_=>rfl) jj λ_ _=>rfl
         refine(LC Du.wf hxr hvr jb z2 zx (λi hi=>(z3 i hi).1) (λi hi=>(z3 i hi).2) (kP.sz kI.t0 kI.t1).1).mono ?_
         rintro _ σA ⟨⟨rb,rfl,hr1,hr2,hr3⟩,hfA⟩
         have q7A:=(Du.trans hfA).get rP.wf q78
         have q8A:=(Du.trans hfA).get rP.wf q88
         have ajU:σA.h σ8.aj=some ⟨[.bool (rn (1-t)),.str (rs (1-t)),.str (rd (1-t))],none⟩:=hfA.get Du.wf (aA _ _ _)
         have hFA:=KU.trans (Du.trans hfA)
         have avY:=hfA.le
         have hr2:σ8.aj+1+1<=rb:=hr2
         have avZ:=Fr.refl hfA.wf
         simp(disch:=try exact jz) only[go_sem,z3,t0,t1,t5,t6,t7,t8,t9,t10,t11,au q7A,au ajU,aI q7A]
         exact⟨meas g (aZ x v (1-t)) (t+(1-t)),km,aZ x v (1-t),t+(1-t),rb,rfl,rfl,(ak _ _ _ _ jb).trans hr1,jb,rfl,q8A,kI,kP,fr,jb⟩
        .have hd:=aw hlt
         simp(disch:=try exact jz) only[go_sem,z3,t0,t1,t5,t6,t7,t8,t9,t10,t11,au q78,au q88,i0,i1,acR,hd]
         refine aC.st (Fr σ8) (fr) λDu=>?_
         obtain⟨kI,kP,km⟩:=key u (eg (Ep hD3 u hum)) kd hul (.inl hum)
         obtain⟨z2,z3⟩:=zw u (.inl hum)
         have hx9:=(afg.trans Du).get hf5.wf q65
         have hv9:=(rP.trans Du).get pU.wf hv1
         have hxr:jL (λ_=>True) _ (.sl xb 0 g.e.length (.ex g.e.length)) g.e.length x:=bC (G:=λc=>gX (x c)) _ hx9 rfl trivial (λ_=>rfl) jj λ_ _=>rfl
         have hvr:jL (λ_=>True) _ (.sl vb 0 g.e.length (.ex g.e.length)) g.e.length v:=bC (G:=λc=>gX (v c)) _ hv9 rfl trivial (λ_=>rfl) jj λ_ _=>rfl
         refine(LC Du.wf hxr hvr jb z2 zx (λi hi=>(z3 i hi).1) (λi hi=>(z3 i hi).2) (kP.sz kI.t0 kI.t1).1).mono ?_
         rintro _ σA ⟨⟨rb,rfl,hr1,hr2,hr3⟩,hfA⟩
         have q7A:=(Du.trans hfA).get rP.wf q78
         have q8A:=(Du.trans hfA).get rP.wf q88
         have ajU:σA.h σ8.aj=some ⟨[.bool (rn u),.str (rs u),.str (rd u)],none⟩:=hfA.get Du.wf ((ak _ _ _ _ jb).trans ((ak _ _ _ _ jb).trans (aA _ _ _)))
         have hFA:=KU.trans (Du.trans hfA)
         have avY:=hfA.le
         have hr2:σ8.aj+1+1<=rb:=hr2
         have avZ:=Fr.refl hfA.wf
         simp(disch:=try exact jz) only[go_sem,z3,t0,t1,t5,t6,t7,t8,t9,t10,t11,au q7A,au ajU,aI q7A]
         exact⟨meas g (aZ x v u) (t+u),km,aZ x v u,t+u,rb,rfl,rfl,(ak _ _ _ _ jb).trans hr1,jb,rfl,q8A,kI,kP,fr,jb⟩
     .have hcls:=ajf hsub (of:=λi=>of i=true) (λi j hi hj h1 h2=>asl i j hi hj h1 h2) (R:=λk=>rJ g.e.length (gM g.e.length (aX g) x) λi=>i=k) (λk _ _=>LH _ _ λi=>i=k) hi0 avX am8 λk hk h1 h2=>hmin k hk h1 h2
      have k1:=hD5.kn
      have k2:=hS5.kn
      simp(disch:=try exact jz) only[go_sem,z3,t0,t1,t5,t6,t7,t8,t9,t10,t11,au q95,k1,k2]
      refine(asg hf5.wf (hs0.fr aaC) h q65 hP hD5 hS5 (hM3.fr hf3.wf iE) (bf.hl hH) hcls hI (λhl E hE hE0 hEb=>?_) (λhl=>?_)).mono ?_
      .obtain⟨i,hi,hEi,hil⟩:=hE
       have hgr:gr=false:=by cases gr with|false=>rfl|true=>cases hl
       have hof:of i=true:=by
        have h1:=((LH g.e.length (gM g.e.length (aX g) x) λk=>k=i0).mem i).mp hil;clear hEi hil hi;induction h1 with
        |base e hi=>subst e;exact avX
        |step h1 hj hm ih=>exact asl _ _ h1.lt hj ih hm
       have hr:=(asn hgr).2 i hi hof
       clear hof hil hi
       induction hr with
       |base e hi=>have:=cU e;have e2:=hE0 _ hi hEi;unfold iF at e2;grind
       |step h1 hj hm ih=>exact ih (hEb _ _ hj h1.lt hEi hm)
      .have hgr:gr=false:=by cases gr with|false=>rfl|true=>cases hl
       have h1:=(asn hgr).1
       have h2:=hI.t1
       grind
      rintro _ σ6 ⟨y,⟨yb,rfl,hy1,hy2,hy3⟩,hI',hP',hms,iC⟩
      have lI:=aaC.trans iC
      have zV:=iC.le
      have q76:=iC.get hf5.wf q75
      have q86:=iC.get hf5.wf q85
      simp(disch:=try exact jz) only[go_sem,z3,t0,t1,t5,t6,t7,t8,t9,t10,t11]
      exact⟨meas g y t,hms,y,t,yb,rfl,rfl,hy1,jb,q76,q86,hI',hP',lI,jb⟩
def av1(p:Nat->Prop)(h:Tr Bk)(r:V)(g:gW)(x:Nat->Rat):Prop:=∃rr,r=.aY rr (.aY (.c (.int .i64 (.ofNat 0))) .tnil)/\aax p h rr g x
def aax.keep{p q:Nat->Prop}{h h':Tr Bk}{r:V}{g:gW}{x:Nat->Rat}(hs:aax p h r g x)(hk:∀b,p b->h' b=h b)(hq:∀b,p b->q b):aax q h' r g x:=by obtain⟨cm,G,Dv,Rf,Nt,Su,Re,Fu,rfl,h1,h2,h3,h4,h5,h6,h7,h8⟩:=hs;exact⟨cm,G,Dv,Rf,Nt,Su,Re,Fu,rfl,bf.keep h1 hk hq,h2.keep hk hq,h3.keep hk hq,h4.keep hk hq,h5.keep hk hq,bf.keep h6 hk hq,bf.keep h7 hk hq,bf.keep h8 hk hq⟩
def aax.kn8{p:Nat->Prop}{h:Tr Bk}{r:V}{g:gW}{x:Nat->Rat}(hs:aax p h r g x):∃cm G Dv Rf Nt Su Re Fu,r=.agg [cm,G,Dv,Rf,Nt,Su,Re,Fu]/\cm.kn=true/\G.kn=true/\Dv.kn=true/\Rf.kn=true/\Nt.kn=true/\Su.kn=true/\Re.kn=true/\Fu.kn=true:=by obtain⟨cm,G,Dv,Rf,Nt,Su,Re,Fu,rfl,h1,h2,h3,h4,h5,h6,h7,h8⟩:=hs;exact⟨cm,G,Dv,Rf,Nt,Su,Re,Fu,rfl,bf.kn h1,h2.kn,h3.kn,h4.kn,h5.kn,bf.kn h6,bf.kn h7,bf.kn h8⟩
def LJ{σ:St}(hW:WF σ){p:Nat->Prop}{ev dv:B}{g:gW}(hg:wW p σ.h ev dv g)(h:kD g):
  aC EN 13 [.agg [ev,dv]] σ λr σ'=>∃x,av1 (λb=>σ.aj<=b/\b<σ'.aj) σ'.h r g x/\wz g x 1/\BH h.JX (iF g) false x 1/\Rw (n:=g.e.length) (g:=aX g) (iF g) x/\Fr σ σ':=by
 refine aQ (sJ.o _ _) sJ.h ?_
 unfold sJ
 dsimp only
 obtain⟨_,hM0⟩:=(JE h).map h
 have hek:=hg.e.kn
 have hdk:=hg.d.kn
 have hFr:=Fr.refl hW
 simp(disch:=try exact jz) only[go_sem,z3,hek,hdk]
 refine aC.st (Fr σ) (fr) λhF=>?_
 refine(acs hF.wf (hg.fr hW hF) h.z h.bld (λi hi=>(h.m i hi).1) λd hd=>(h.d d hd).2.1).mono ?_
 rintro _ σ2 ⟨rfl,hf2⟩
 have hF2:=hF.trans hf2
 have q0:=hf2.get hF.wf (aA _ _ _)
 have q00:=hf2.get hF.wf ((ak _ _ _ _ jb).trans (aA _ _ _))
 have hd0:decide ((0:Int)=Int.ofNat 0)=true:=rfl
 have hle2:σ.aj+1+1<=σ2.aj:=hf2.le
 simp(disch:=try exact jz) only[go_sem,z3,hek,hdk,hd0,au q00,q00]
 refine(acj hf2.wf g (hg.fr hW hF2) hM0.a h.bld).mono ?_
 rintro _ σ3 ⟨⟨sb,rfl,hS⟩,hf3⟩
 have hf3:=hf2.trans hf3
 have hF3:=hF.trans hf3
 simp(disch:=try exact jz) only[go_sem,z3]
 refine(acS hf3.wf hS h true).mono ?_
 rintro _ σ4 ⟨x,⟨xb,rfl,hx1,hx2,hx3⟩,hP,hI,hgt,hls,hf4⟩
 have oW:=hF3.trans hf4
 obtain⟨D,hMg⟩:=hP.mg h
 simp(disch:=try exact jz) only[go_sem,z3]
 refine(XL hf4.wf (hS.fr hf4) hx1 hMg.A.s).mono ?_
 rintro _ σ5 ⟨hV,hf5⟩
 have iE:=oW.trans hf5
 have hle3:σ.aj+1+1<=σ3.aj:=hf3.le
 have xM:=hf4.le
 have yV:=hf5.le
 have FV:=Fr.refl hf5.wf
 have q1:=(hf3.trans (hf4.trans hf5)).get hF.wf (aA _ _ _)
 obtain⟨cm,G,Dv,Rf,Nt,Su,Re,Fu,er,k1,k2,k3,k4,k5,k6,k7,k8⟩:=hV.kn8
 subst er
 simp(disch:=try exact jz) only[go_sem,z3,au q1,aI q1,k1,k2,k3,k4,k5,k6,k7,k8]
 exact⟨x,⟨_,rfl,hV.keep (λb hb=>ak _ _ _ _ jb) λb hb=>⟨jb,hb.2⟩⟩,hP,hI,hgt rfl,fr⟩
def anA{σ:St}(hW:WF σ){p:Nat->Prop}{ev dv:B}{g:gW}(hg:wW p σ.h ev dv g)(h:kD g):
  aC EN 14 [.agg [ev,dv]] σ λr σ'=>∃x,av1 (λb=>σ.aj<=b/\b<σ'.aj) σ'.h r g x/\wz g x 1/\BH h.JX (iF g) true x 1/\Ins.yc (n:=g.e.length) (g:=aX g) (iF g) x/\Fr σ σ':=by
 refine aQ (sK.o _ _) sK.h ?_
 unfold sK
 dsimp only
 obtain⟨_,hM0⟩:=(JE h).map h
 have hek:=hg.e.kn
 have hdk:=hg.d.kn
 have hFr:=Fr.refl hW
 simp(disch:=try exact jz) only[go_sem,z3,hek,hdk]
 refine aC.st (Fr σ) (fr) λhF=>?_
 refine(acs hF.wf (hg.fr hW hF) h.z h.bld (λi hi=>(h.m i hi).1) λd hd=>(h.d d hd).2.1).mono ?_
 rintro _ σ2 ⟨rfl,hf2⟩
 have hF2:=hF.trans hf2
 have q0:=hf2.get hF.wf (aA _ _ _)
 have q00:=hf2.get hF.wf ((ak _ _ _ _ jb).trans (aA _ _ _))
 have hd0:decide ((0:Int)=Int.ofNat 0)=true:=rfl
 have hle2:σ.aj+1+1<=σ2.aj:=hf2.le
 simp(disch:=try exact jz) only[go_sem,z3,hek,hdk,hd0,au q00,q00]
 refine(acj hf2.wf g (hg.fr hW hF2) hM0.a h.bld).mono ?_
 rintro _ σ3 ⟨⟨sb,rfl,hS⟩,hf3⟩
 have hf3:=hf2.trans hf3
 have hF3:=hF.trans hf3
 simp(disch:=try exact jz) only[go_sem,z3]
 refine(acS hf3.wf hS h false).mono ?_
 rintro _ σ4 ⟨x,⟨xb,rfl,hx1,hx2,hx3⟩,hP,hI,hgt,hls,hf4⟩
 have oW:=hF3.trans hf4
 obtain⟨D,hMg⟩:=hP.mg h
 simp(disch:=try exact jz) only[go_sem,z3]
 refine(XL hf4.wf (hS.fr hf4) hx1 hMg.A.s).mono ?_
 rintro _ σ5 ⟨hV,hf5⟩
 have iE:=oW.trans hf5
 have hle3:σ.aj+1+1<=σ3.aj:=hf3.le
 have xM:=hf4.le
 have yV:=hf5.le
 have FV:=Fr.refl hf5.wf
 have q1:=(hf3.trans (hf4.trans hf5)).get hF.wf (aA _ _ _)
 obtain⟨cm,G,Dv,Rf,Nt,Su,Re,Fu,er,k1,k2,k3,k4,k5,k6,k7,k8⟩:=hV.kn8
 subst er
 simp(disch:=try exact jz) only[go_sem,z3,au q1,aI q1,k1,k2,k3,k4,k5,k6,k7,k8]
 exact⟨x,⟨_,rfl,hV.keep (λb hb=>ak _ _ _ _ jb) λb hb=>⟨jb,hb.2⟩⟩,hP,hI,hls rfl,fr⟩
section
variable {n:Nat} {m:Nat→Rat} {cl:Nat→List C5} {al:Nat→List gZ} {dl:List uH}
def pF.c60{A:Nat}{q:Rat}(h:pF A 30 q):pF A 60 q:=⟨h.1,h.2.1,cI h.2.2 jj⟩
def BG.zC(h:BG n m cl al dl):kD (bgG n m cl al dl):=by
 have hn:=AV n m cl al dl;have hz:=JW h.zero;have hix:∀i,i<(bgG n m cl al dl).e.length->ix (bgG n m cl al dl).e i=⟨vF (m i),cl i,al i⟩:=λi hi=>acw m cl al dl jb;refine⟨by have:=h.n4;omega,h.bld,h.small,h.zero,λi hi=>?_,λi hi=>?_,λi hi=>?_,λi hi=>?_,λi hi k=>?_,λi hi c hc=>?_,λi hi=>?_,by show dl.length<=3;exact h.d.1,λd hd=>?_⟩
 .rw[h.kE jb];exact(h.c i jb).1
 .rw[h.kE jb,hix i hi];have e:=h.ed (i:=i) jb;exact⟨λt ht p hp=>⟨(e.rk t ht p hp).1,pF.c60 (e.rk t ht p hp).2⟩,λq hq t ht p hp=>⟨(e.ps q hq t ht p hp).1,pF.c60 (e.ps q hq t ht p hp).2⟩⟩
 .rw[h.kE jb,hix i hi];exact(h.eb jb).1
 .rw[hix i hi];obtain⟨-,e1,e2,e3⟩:=h.eb (i:=i) jb;refine⟨e1,by show(UA (cl i) (cl i).length).length<=8;grind[UA],e2,λp hp=>⟨e3 p hp,?_⟩⟩;obtain⟨a,ha,rfl⟩:=cH.mp hp;obtain⟨j,hj,rfl⟩:=aL ha;rw[<-dV hj];obtain⟨h3,hT⟩:=h.tl (show i<n by omega) hj;obtain⟨l1,-⟩:=acu (cs:=cl i) hT;grind[oD]
 .rw[hix i hi];exact pF.c60 (h.cap jb k)
 .rw[h.kE jb]at hc;rw[hix i hi];rcases((h.c i jb).2 c hc).1 with h1|⟨j,hj,-,h1⟩
  .grind
  grind
 .rw[hix i hi];obtain⟨v,e⟩:=h.mm i jb;show(vF (m i)).fits _/\pF 60 60 (vF (m i)).q;grind[JI,tq,Em]
 .obtain⟨hl,v,e⟩:=h.d.2 d hd;show(ix dl d).l.length<=4/\(ix dl d).w.fits _/\pF 60 60 (ix dl d).w.q;grind[JI,tq,Em]
end
def GI.bg{σ σ':St}{t11 n eb:Nat}{dv:B}{m:Nat->Rat}{cl:Nat->List C5}{bs:Nat->Nat}{A:Nat->B}{al:Nat->List gZ}{dl:List uH}(h:GI σ σ' t11 n eb dv m cl bs A al dl)(h0:0<n)(h4:n<=4):BG n m cl al dl:=⟨h0,h4,h.m,h.c,h.a,h.d,h.dg⟩
def asq(c:Nat)(i:Nat):Rat:=if i=0 then(c:Rat)else 0
def asr(more:Bool)(i:Nat):List C5:=if i=0 then⟨1,2,vF 10⟩::(if more then [⟨-1,2,vF 10⟩]else [])else [⟨0,2,vF 10⟩]
def EM(c:Nat)(more:Bool):gW:=bgG 2 (asq c) (asr more) (λ_=>[]) []
def asu:amt 6=10:=by rfl
def Vl{c:Nat}(hc:∃v,(c:Rat)=amt v)(more:Bool):BG 2 (asq c) (asr more) (λ_=>[]) []:=by
 have h10:∃v,vF 10=vF (amt v):=⟨6,by rw[asu]⟩
 refine⟨jb,jb,λi _=>?_,λi hi=>?_,λi _=>⟨jj,λj hj=>by cases hj⟩,⟨jj,λj hj=>by cases hj⟩,λj hj=>by cases hj⟩
 .unfold asq;split
  .exact hc
  .exact⟨2,by rfl⟩
 .unfold asr;split
  .next e=>
   subst e;cases more with
   |false=>
    refine⟨jj,λk hk=>?_⟩
    match k,hk with
    |0,_=>exact⟨.inr ⟨1,jb,jb,rfl⟩,⟨2,jb,rfl⟩,h10⟩
   |true=>
    refine⟨jj,λk hk=>?_⟩
    match k,hk with
    |0,_=>exact⟨.inr ⟨1,jb,jb,rfl⟩,⟨2,jb,rfl⟩,h10⟩
    |1,_=>exact⟨.inl rfl,⟨2,jb,rfl⟩,h10⟩
  .next e=>
   refine⟨jj,λk hk=>?_⟩;match k,hk with
   |0,_=>exact⟨.inr ⟨0,jb,jb,rfl⟩,⟨2,jb,rfl⟩,h10⟩
def two(a b:Rat)(i:Nat):Rat:=if i=0 then a else b
def ajV{P:Nat->Prop}(h0:P 0)(h1:P 1):∀i,i<2->P i:=λi hi=>by grind
def acT{g:gW}(h:kD g)(hn:g.e.length=2){a b:Rat}(ha:0<=a)(hb:0<=b)(e0:a=iF g 0+gG 2 (aX g) (two a b) 0)(e1:b=iF g 1+gG 2 (aX g) (two a b) 1)
  (hs:aB 2 (λj=>gM 2 (aX g) (two a b) j 0)≠1) (hs1:aB 2 (λj=>gM 2 (aX g) (two a b) j 1)≠1\/gM 2 (aX g) (two a b) 0 1≠0){x:Nat->Rat}(hx:Rw (n:=g.e.length) (g:=aX g) (iF g) x):x 0=a/\x 1=b:=by
 have hI:BH h.JX (iF g) false (two a b) 1:=by
  refine⟨?_,jj,aR,?_,λe=>by cases e⟩
  .rw[hn];exact ajV ha hb
  .intro j hj;rw[gS];show two a b j=iF g j+gG g.e.length (aX g) (two a b) j;grind[two]
 have hno:∀S:Nat->Prop,(∃i,i<g.e.length/\S i)->¬Ins.Shut g.e.length (gM g.e.length (aX g) (two a b)) S:=by
  rw[hn];rintro S ⟨i,hi,hSi⟩ hS;have n0:¬S 0:=λh0=>hs (hS 0 jb h0).1;have n1:¬S 1:=λh1=>by obtain⟨s1,s2⟩:=hS 1 jb h1;grind
  grind
 have hu:=Rw.uniq _ hx (ajj h.JX (iF g) hI hno)
 exact⟨hu 0 jb,hu 1 jb⟩
def av3{x:Nat->Rat}(hx:Rw (n:=(EM 0 false).e.length) (g:=aX (EM 0 false)) (iF (EM 0 false)) x):x 0=10/\x 1=10:=
 acT (Vl ⟨2,by rfl⟩ false).zC (AV ..) jj jj (by decide+kernel) (by decide+kernel) (by decide+kernel) (.inl (by decide+kernel)) hx
def av4{x:Nat->Rat}(hx:Rw (n:=(EM 3 true).e.length) (g:=aX (EM 3 true)) (iF (EM 3 true)) x):x 0=6/\x 1=3:=
 acT (Vl ⟨17,by rfl⟩ true).zC (AV ..) jj jj (by decide+kernel) (by decide+kernel) (by decide+kernel) (.inr (by decide+kernel)) hx
def av5{x:Nat->Rat}(hx:Ins.yc (n:=(EM 0 false).e.length) (g:=aX (EM 0 false)) (iF (EM 0 false)) x):x 0=0/\x 1=0:=by have hn:(EM 0 false).e.length=2:=AV ..;have h:=hx.lst (λ_=>0) (λ_ _=>aR) (by rw[hn];exact ajV (by decide+kernel) (by decide+kernel));have h0:=hx.nn;rw[hn]at h h0;exact⟨Rat.le_antisymm (h 0 jb) (h0 0 jb),Rat.le_antisymm (h 1 jb) (h0 1 jb)⟩
def Vm{σ:St}(hW:WF σ){p:Nat->Prop}{cm G Dv Rf Nt Su Re Fu:B}{x:Nat->Rat}(hv:jL p σ.h cm 2 x)(k1:G.kn=true)(k2:Dv.kn=true)(k3:Rf.kn=true)(k4:Nt.kn=true)(k5:Su.kn=true)(k6:Re.kn=true)(k7:Fu.kn=true){a b:Nat}(ha:a<=1000)(hb:b<=1000)(h0:x 0=((Int.ofNat a:Int):Rat))(h1:x 1=((Int.ofNat b:Int):Rat)):
  aC EN 43 [.agg [cm,G,Dv,Rf,Nt,Su,Re,Fu],.c (.int .i64 (.ofNat a)),.c (.int .i64 (.ofNat b))] σ λr σ'=>r=.c (.bool true)/\Fr σ σ':=by
 refine aQ (CX.o _ _) CX.h ?_
 unfold CX
 dsimp only
 have hk:=bf.kn hv
 have hl:=bf.len hv
 obtain⟨b5,o5,c5,rfl,-,l0⟩:=bf.at3 hv (c:=0) jb
 obtain⟨b6,o6,c6,e,-,l1⟩:=bf.at3 hv (c:=1) jb
 cases e
 rw[h0]at l0
 rw[h1]at l1
 have m0:=hW.dw l0
 have i1: -9223372036854775808<=Int.ofNat a:=by simp
 have i2:Int.ofNat a<=9223372036854775807:=by grind
 have i3: -9223372036854775808<=Int.ofNat b:=by simp
 have i4:Int.ofNat b<=9223372036854775807:=by grind
 have hFr:=Fr.refl hW
 have d2:decide (Int.ofNat 2=Int.ofNat 2)=true:=rfl
 have d3:decide (((Int.ofNat a:Int):Rat)=((Int.ofNat a:Int):Rat))=true:=bw rfl
 have d4:decide (((Int.ofNat b:Int):Rat)=((Int.ofNat b:Int):Rat))=true:=bw rfl
 simp(disch:=try exact jz) only[go_sem,z3,hk,hl,k1,k2,k3,k4,k5,k6,k7,l0,l1,d2,d3,d4]
 exact fr
def Yt{σ:St}(hW:WF σ):aC EN 42 [.c (.int .i64 (.ofNat 0)),.c (.bool false)] σ λr σ'=>(∃ev dv,r=.agg [ev,dv]/\wW (Lt σ'.aj) σ'.h ev dv (EM 0 false))/\Fr σ σ':=by
 refine aQ (nM.o _ _) nM.h ?_;unfold nM;dsimp only;have hFr:=Fr.refl hW;simp(disch:=try exact jz) only[go_sem,z3];refine⟨⟨_,_,rfl,⟨⟨λi=>if i=0 then .sl (σ.aj+1+1+1) 0 1 (.ex 1)else .sl (σ.aj+1+1+1+1) 0 1 (.ex 1),λ_=>.aV,?_,?_⟩,⟨λ_=>.aV,.inl ⟨rfl,rfl⟩,λi hi=>by cases hi⟩⟩⟩,fr⟩
 .refine bC (n:=2) (e:=5) _ ((ak _ _ _ _ jb).trans (aA _ _ _)) rfl (by show σ.aj+1<σ.aj+1+1+1+1+1;omega) (λ_=>rfl) jj ?_;intro j hj;match j,hj with
  |0,_=>rfl
  |1,_=>rfl
 .intro i hi;match i,hi with
  |0,_=>exact⟨bC (n:=1) (e:=5) _ ((ak _ _ _ _ jb).trans ((ak _ _ _ _ jb).trans ((ak _ _ _ _ jb).trans ((ak _ _ _ _ jb).trans (aA _ _ _))))) rfl (by show σ.aj+1+1+1<σ.aj+1+1+1+1+1;omega) (λ_=>rfl) jj (λ_ _=>rfl),λ_=>.aV,.inl ⟨rfl,rfl⟩,λi hi=>by cases hi⟩
  |1,_=>exact⟨bC (n:=1) (e:=5) _ ((ak _ _ _ _ jb).trans ((ak _ _ _ _ jb).trans (aA _ _ _))) rfl (by show σ.aj+1+1+1+1<σ.aj+1+1+1+1+1;omega) (λ_=>rfl) jj (λ_ _=>rfl),λ_=>.aV,.inl ⟨rfl,rfl⟩,λi hi=>by cases hi⟩
def afh{σ:St}{ty fZ bytes b:Nat}{cs news:List B}(hb:σ.h b=some ⟨cs,none⟩)(hl:cs.length=fZ)(hk:cs.all B.kn=true)(h2:0<fZ)(h3:2*bytes<=140737488355328):qp ty fZ bytes (.c (.sl b 0 1 (.ex 1))) 1 news σ=some (.c (.sl σ.aj 0 2 .opn),⟨hset σ.h σ.aj ⟨cs++news,some (fZ,ty)⟩,σ.aj+1⟩):=by
 unfold qp;dsimp only;rw[Ns (by omega:1≠0),hb];have e1:Nat.beq fZ fZ=true:=by simp
 simp only[fh,Bk.rd,Nat.one_mul,gp,<-hl,ck,hk,Fa (hl▸h2),uo h3,cW,cj,jH,ql,Bool.true_and];rw[show(0+cs.length).ble cs.length=true by simp];rfl
def ajW{σ:St}(hW:WF σ):aC EN 42 [.c (.int .i64 (.ofNat 3)),.c (.bool true)] σ λr σ'=>(∃ev dv,r=.agg [ev,dv]/\wW (Lt σ'.aj) σ'.h ev dv (EM 3 true))/\Fr σ σ':=by
 refine aQ (nM.o _ _) nM.h ?_;unfold nM;dsimp only;have hFr:=Fr.refl hW;simp(disch:=try exact jz) only[go_sem,z3];rw[afh (fZ:=5) (cs:=[.int .i64 (.ofNat 1),.int .i64 (.ofNat 2),.bool (rn ((Int.ofNat 10:Int):Rat)),.str (rs ((Int.ofNat 10:Int):Rat)),.str (rd ((Int.ofNat 10:Int):Rat))]) ?hb rfl rfl jj jj]
 case hb=>grind[ak,aA]
 simp(disch:=try exact jz) only[go_sem,z3];refine⟨⟨_,_,rfl,⟨⟨λi=>if i=0 then .sl (σ.aj+1+1+1+1+1+1) 0 2 .opn else .sl (σ.aj+1+1+1+1) 0 1 (.ex 1),λ_=>.aV,?_,?_⟩,⟨λ_=>.aV,.inl ⟨rfl,rfl⟩,λi hi=>by cases hi⟩⟩⟩,fr⟩
 .refine bC (n:=2) (e:=5) _ ((ak _ _ _ _ jb).trans (aA _ _ _)) rfl (by show σ.aj+1<σ.aj+1+1+1+1+1+1+1;omega) (λ_=>rfl) jj ?_;intro j hj;match j,hj with
  |0,_=>rfl
  |1,_=>rfl
 .intro i hi;match i,hi with
  |0,_=>
   refine⟨bC (n:=2) (e:=5) _ ((ak _ _ _ _ jb).trans ((ak _ _ _ _ jb).trans (aA _ _ _))) (CB _ _ jj) (by show σ.aj+1+1+1+1+1+1<σ.aj+1+1+1+1+1+1+1;omega) (λ_=>rfl) jj ?_,λ_=>.aV,.inl ⟨rfl,rfl⟩,λi hi=>by cases hi⟩
   intro j hj
   rfl
  |1,_=>exact⟨bC (n:=1) (e:=5) _ ((ak _ _ _ _ jb).trans ((ak _ _ _ _ jb).trans ((ak _ _ _ _ jb).trans ((ak _ _ _ _ jb).trans ((ak _ _ _ _ jb).trans (aA _ _ _)))))) rfl (by show σ.aj+1+1+1+1<σ.aj+1+1+1+1+1+1+1;omega) (λ_=>rfl) jj (λ_ _=>rfl),λ_=>.aV,.inl ⟨rfl,rfl⟩,λi hi=>by cases hi⟩
def anB{σ:St}(hW:WF σ):aC EN 18 [] σ λr σ'=>r=.c (.bool true)/\Fr σ σ':=by refine aQ (CW.o _ _) CW.h ?_;unfold CW;dsimp only;have g0:kD (EM 0 false):=(Vl ⟨2,by rfl⟩ false).zC;have g3:kD (EM 3 true):=(Vl ⟨17,by rfl⟩ true).zC;have n0:(EM 0 false).e.length=2:=AV ..;have n3:(EM 3 true).e.length=2:=AV ..;simp(disch:=try exact jz) only[go_sem,z3];refine(Yt hW).mono ?_;rintro _ σ1 ⟨⟨ev,dv,rfl,hg⟩,hf1⟩;have ek:=hg.e.kn;have dk:=hg.d.kn;simp(disch:=try exact jz) only[go_sem,z3,ek,dk];refine(LJ hf1.wf hg g0).mono ?_;rintro _ σ2 ⟨x,⟨rr,rfl,hV⟩,-,-,hx,hf2⟩;obtain⟨cm,G,Dv,Rf,Nt,Su,Re,Fu,rfl,v1,v2,v3,v4,v5,v6,v7,v8⟩:=hV;have k1:=bf.kn v1;have k2:=v2.kn;have k3:=v3.kn;have k4:=v4.kn;have k5:=v5.kn;have k6:=bf.kn v6;have k7:=bf.kn v7;have k8:=bf.kn v8;have aay:=Fr.refl hf2.wf;simp(disch:=try exact jz) only[go_sem,z3,k1,k2,k3,k4,k5,k6,k7,k8];refine aC.st (Fr σ2) (fr) λYB=>?_;refine(Yt YB.wf).mono ?_;rintro _ σ3 ⟨⟨ev,dv,rfl,hg⟩,hf3⟩;have ek:=hg.e.kn;have dk:=hg.d.kn;simp(disch:=try exact jz) only[go_sem,z3,ek,dk];refine(anA hf3.wf hg g0).mono ?_;rintro _ σ4 ⟨y,⟨rr,rfl,hV⟩,-,-,hy,hf4⟩;obtain⟨cm',G',Dv',Rf',Nt',Su',Re',Fu',rfl,w1,w2,w3,w4,w5,w6,w7,w8⟩:=hV;have j1:=bf.kn w1;have j2:=w2.kn;have j3:=w3.kn;have j4:=w4.kn;have j5:=w5.kn;have j6:=bf.kn w6;have j7:=bf.kn w7;have j8:=bf.kn w8;have y7:=Fr.refl hf4.wf;simp(disch:=try exact jz) only[go_sem,z3,j1,j2,j3,j4,j5,j6,j7,j8];refine aC.st (Fr σ4) (fr) λhFb=>?_;refine(ajW hFb.wf).mono ?_;rintro _ σ5 ⟨⟨ev,dv,rfl,hg⟩,hf5⟩;have ek:=hg.e.kn;have dk:=hg.d.kn;simp(disch:=try exact jz) only[go_sem,z3,ek,dk];refine(LJ hf5.wf hg g3).mono ?_;rintro _ σ6 ⟨z,⟨rr,rfl,hV⟩,-,-,hz,iC⟩;obtain⟨cq,Gq,Dq,Rq,Nq,Sq,Eq,Fq,rfl,u1,u2,u3,u4,u5,u6,u7,u8⟩:=hV;have i1:=bf.kn u1;have i2:=u2.kn;have i3:=u3.kn;have i4:=u4.kn;have i5:=u5.kn;have i6:=bf.kn u6;have i7:=bf.kn u7;have i8:=bf.kn u8;have ajX:=YB.trans (hf3.trans hf4);have anC:=hFb.trans (hf5.trans iC);have q1:=(hf3.trans (hf4.trans anC)).get YB.wf (aA _ _ _);have q3:=(hf5.trans iC).get hFb.wf (aA _ _ _);have avb:=Fr.refl iC.wf;have l2:=iC.wf.lt q1;have l4:=iC.wf.lt q3;have d0:decide (Int.ofNat 0=Int.ofNat 0)=true:=rfl;have d1:decide ((0:Int)=Int.ofNat 0)=true:=rfl;rw[n0]at v1 w1;rw[n3]at u1;simp(disch:=try exact jz) only[go_sem,z3,i1,i2,i3,i4,i5,i6,i7,i8,au q1,q1,k1,k2,k3,k4,k5,k6,k7,k8,d0,d1];refine aC.st (Fr σ6) (fr) λhFc=>?_;obtain⟨x0,x1⟩:=av3 hx;obtain⟨y0,y1⟩:=av5 hy;obtain⟨z0,z1⟩:=av4 hz;refine(Vm (a:=10) (b:=10) hFc.wf (bf.fr hf2.wf (ajX.trans (anC.trans hFc)) v1) k2 k3 k4 k5 k6 k7 k8 jj jj x0 x1).mono ?_;rintro _ σ7 ⟨rfl,pU⟩;have q37:=(hFc.trans pU).get iC.wf q3;have q57:=pU.get hFc.wf (aA _ _ _);have axQ:=ajX.trans (anC.trans (hFc.trans pU));have ay3:=Fr.refl pU.wf;simp(disch:=try exact jz) only[go_sem,z3,au q37,q37,j1,j2,j3,j4,j5,j6,j7,j8];refine(Vm (a:=0) (b:=0) pU.wf (bf.fr hf4.wf (anC.trans (hFc.trans pU)) w1) j2 j3 j4 j5 j6 j7 j8 jj jj y0 y1).mono ?_;rintro _ σ8 ⟨rfl,rP⟩;have q58:=rP.get pU.wf q57;simp(disch:=try exact jz) only[go_sem,z3,au q58,q58,i1,i2,i3,i4,i5,i6,i7,i8];refine(Vm (a:=6) (b:=3) rP.wf (bf.fr iC.wf (hFc.trans (pU.trans rP)) u1) i2 i3 i4 i5 i6 i7 i8 jj jj z0 z1).mono ?_;rintro _ σ9 ⟨rfl,hf9⟩;have hFz:=hf1.trans (hf2.trans (axQ.trans (rP.trans hf9)));simp(disch:=try exact jz) only[go_sem,z3];exact hFz
end Go.Proofs.Xe
namespace Go.Proofs.Ins
open Go.Proofs.Xe
theorem yZ{l:fU}(h:NV l):0<=kX l:=by
 induction l with
 |nil=>exact aR
 |cons u l ih=>show 0<=aW u+kX l;have:=ih h.tl.2;have:=yB h.tl.1;grind
def Yo{l:fU}(h:NV l):∀{m:Rat},kX l<=m->jq l m=kX l:=by
 induction l with
 |nil=>exact λ_=>rfl
 |cons t l ih=>
  intro m hm
  have hm:aW t+kX l<=m:=hm
  have h1:=yZ h.tl.2
  show(if m<aW t then m else aW t+jq l (m-aW t))=aW t+kX l
  rw[ae kd,ih h.tl.2 kd]
section
variable {A:Nat} {e:wF} {x:Rat}
end
def acU{α β:Type}(m:α->β)(f:β->Rat)(l:List α):aJ (l.map m) f=aJ l λa=>f (m a):=by
 induction l with
 |nil=>rfl
 |cons a l ih=>show f (m a)+aJ (l.map m) f=f (m a)+aJ l _;rw[ih]
section
variable {n:Nat} {g:GL} {x:Nat→Rat}
end
section
variable {A:Nat} {e:wF} {x:Rat}
end
end Go.Proofs.Ins
