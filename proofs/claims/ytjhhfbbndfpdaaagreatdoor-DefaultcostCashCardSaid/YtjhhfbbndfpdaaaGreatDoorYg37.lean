import Derived.Test.YtjhhfbbndfpdaaaGreatDoorYg36
set_option linter.all false
set_option maxHeartbeats 8000000
attribute [-go_sem] Go.Proofs.Xe.ayo Go.Proofs.Xe.ayp Go.Proofs.Xe.ayq
namespace Go.Proofs.Xe
open Go.RowKit Go.Proofs.Ins
def alk.at{p:Nat->Prop}{h:Tr Bk}{bv:B}{el:List vZ}{L:List gJ}(hb:alk p h bv el L){i c:Nat}(hi:i<el.length)(hc:c<kE el i):∃b o cc b2 o2 cc2,bv=.sl b o el.length cc/\ld h b (o+i*1) 1 false=some (.c (.sl b2 o2 (kE el i) cc2))/\ld h b2 (o2+c*1) 1 false=some (.c (.bool (L.contains (i,c)))):=by obtain⟨T,h1,h2⟩:=hb;obtain⟨b,o,cc,e,-,hld⟩:=h1.pos jb;obtain⟨b2,o2,cc2,e2,-,xR⟩:=(h2 i hi).pos (by unfold kE at hc;omega);have h3:=(tH (hld i hi)).1;rw[e2]at h3;exact⟨b,o,cc,b2,o2,cc2,e,h3,(tH (xR c hc)).1⟩
theorem qE.grow{J J':St}{mb n lo hi:Nat}{C:Nat->Nat->List B}{bs:Nat->Nat}(hM:qE J'.h mb n C bs lo hi){σ0:St}(h0:Fr σ0 J){j:Nat}(hf:aU [bs j] J J')(hj:j<n)(hb:σ0.aj<=mb):Fr σ0 J':=
 hf.to h0 λb hbb=>by rw[dq]at hbb;subst hbb;have:=(hM.r.r j hj).2.1;have:=hM.b;omega
structure qc(lo hi:Nat)(J J':St):Prop where
 le:J.aj<=J'.aj
 wf:WF J'
 old:∀b,b<J.aj->b<lo\/hi<=b->J'.h b=J.h b
section
variable {lo hi:Nat} {J J' PK : St}
def Fr.km(h:Fr J J'):qc lo hi J J':=⟨h.le,h.wf,λb hb _=>h.old b hb⟩
def qc.trans(h:qc lo hi J J')(h':qc lo hi J' PK):qc lo hi J PK:=⟨ar h.le h'.le,h'.wf,λb hb h2=>(h'.old b (aE hb h.le) h2).trans (h.old b hb h2)⟩
def qc.get(h:qc lo hi J J')(hW:WF J){b:Nat}{k:Bk}(hb:J.h b=some k)(h2:b<lo\/hi<=b):J'.h b=some k:=by rw[h.old b (hW.lt hb) h2];exact hb
theorem qc.fr{σ0:St}(h0:Fr σ0 J)(h:qc lo hi J J')(hl:σ0.aj<=lo):Fr σ0 J':=⟨ar h0.le h.le,h.wf,λb hb=>(h.old b (aE hb h0.le) (.inl jb)).trans (h0.old b hb)⟩
def qE.km{mb n:Nat}{C:Nat->Nat->List B}{bs:Nat->Nat}(hM:qE J'.h mb n C bs lo hi){j:Nat}(hf:aU [bs j] J J')(hj:j<n):qc lo hi J J':=⟨hf.le,hf.wf,λb hb h2=>hf.old b hb λhm=>by rw[dq]at hm;subst hm;have:=hM.r.r j hj;omega⟩
end
def alP{m k:Nat}{F:Nat->Rat}(h:F k=0):cO m (λi=>if i<k then F i else 0)=cO m λi=>if i<k+1 then F i else 0:=dU λi _=>by
 by_cases e:i=k
 .subst e;rw[ae jb,ab jb,h]
 .by_cases e2:i<k
  .rw[ab e2,ab jb]
  .rw[ae e2,ae jb]
def avI{g:fH}{j e c:Nat}(h0:0<(ix g.d j).l.length)(Gj:ix (ix g.d j).l 0=⟨.ofNat e,.ofNat c⟩):TJ (bI g) (dW g j,dL g j)=apH g e c:=by
 unfold TJ dL;cases hl:(ix g.d j).l with
 |nil=>rw[hl]at h0;simp at h0
 |cons a t=>
  rw[hl]at Gj
  have Gj:a=⟨.ofNat e,.ofNat c⟩:=Gj
  rw[Gj];rfl
def azz{g:fH}{j:Nat}(h0:(ix g.d j).l.length=0):TJ (bI g) (dW g j,dL g j)=-1:=by unfold TJ dL;rw[gm.mp h0];rfl
set_option maxRecDepth 10000 in
def ahy{J:St}(hW:WF J){sb:Nat}{g:fH}{x:Nat->Rat}(hs:Gn (Lt J.aj) J.h sb g){p:Nat->Prop}{Dv Sv:B}(SX:dQ p J.h Dv g.e.length (kE g.e) (LH g x))(hSv:dQ p J.h Sv g.e.length (kE g.e) (ND g x)){D:Nat}(hN:XB D g x):
  aC EN 83 [.c (.ptr sb 0),.agg [Dv,Sv]] J λr J'=>(∃mb bs hi,r=.c (.sl mb 0 g.e.length (.ex g.e.length))/\J.aj<=mb/\hi<=J'.aj/\qE J'.h mb g.e.length (rC (gM g.e.length (bI g) x)) bs (mb+1) hi)/\Fr J J':=by
 refine aN (kD.o _ _) kD.h ?_
 unfold kD
 dsimp only
 have hs':=hs
 obtain⟨⟨ev,dvv,lv,bv,hsb,hg,⟨R,P,hL1,hL2⟩,hB⟩,hsl⟩:=hs
 have hSN:=hN.A.s
 have hn:=hSN.n
 have hnd:=hSN.d
 have hD:=hSN.hD
 have hu:=alu
 have hlk:=hL1.kn
 have hll:=hL1.len
 have hlE:=hg.e.len
 have hlD:=hg.d.len
 have hek:=hg.e.kn
 have hdk:=hg.d.kn
 have k1:=SX.kn
 have k2:=hSv.kn
 have hsl:sb<J.aj:=hsl
 have hFr:=Fr.refl hW
 simp(disch:=try exact jz)only[go_sem,k1,k2,au hsb,hll,hlk]
 refine aC.st (Fr J) (fr) λhF=>?_
 refine(aav hF.wf hn).mono ?_
 rintro _ σ2 ⟨⟨bs,rfl,hM⟩,hf2⟩
 have hF2:=hF.trans hf2
 have avy:=hF2.get hW hsb
 have q3:σ2.h J.aj=some ⟨[Dv,Sv],none⟩:=hf2.get hF.wf (ay _ _ _)
 have hle2:J.aj+1<=σ2.aj:=hf2.le
 have hlo2:=hM.l
 have hlo2:J.aj+1+1<=σ2.aj:=hlo2
 have hM:qE σ2.h (J.aj+1) g.e.length (rC λ_ _=>0) bs (J.aj+1+1) σ2.aj:=hM
 rw[<-alv (g:=g) (x:=x)]at hM
 simp(disch:=try exact jz)only[go_sem,au avy,hlE,hek]
 refine bM.mono (Q:=λex tm J'=>ex=.exit 0/\r8 tm 0=.c (.ptr sb 0)/\r8 tm 3=.c (.ptr J.aj 0)/\r8 tm 5=.c (.sl (J.aj+1) 0 g.e.length (.ex g.e.length))/\J'.h J.aj=some ⟨[Dv,Sv],none⟩/\qE J'.h (J.aj+1) g.e.length (rC (TW g x g.e.length 0)) bs (J.aj+1+1) σ2.aj/\Fr J J'/\σ2.aj<=J'.aj)
  (aF (λq tm J'=>∃i,q=g.e.length-i/\i<=g.e.length/\r8 tm 0=.c (.ptr sb 0)/\r8 tm 3=.c (.ptr J.aj 0)/\r8 tm 5=.c (.sl (J.aj+1) 0 g.e.length (.ex g.e.length))/\r8 tm 31=.c ev/\r8 tm 32=jN g.e.length/\r8 tm 33=jN i/\J'.h J.aj=some ⟨[Dv,Sv],none⟩/\qE J'.h (J.aj+1) g.e.length (rC (TW g x i 0)) bs (J.aj+1+1) σ2.aj/\Fr J J'/\σ2.aj<=J'.aj) g.e.length ?_ ?_) ?_
 .refine⟨0,jb,jb,?_⟩
  refine WN ?_
  exact⟨q3,hM,hF2,jp⟩
 .rintro q tm J' ⟨i,rfl,hi,t0,t3,t5,t31,t32,t33,q3,hM,hf,hnx⟩
  have hle:=hf.le
  refine W2 ?_
  refine aH (λhlt=>?_) (λhlt=>?_)
  .obtain⟨b5,o5,c5,rfl,C1,A1,bC,-,hC,hA1⟩:=hg.e.at hlt
   have bC:=hf.ld hW bC
   have SY:=aZ.kn hC
   have hAk:=hA1.kn
   have hlC:=aZ.len hC
   have hkk:=hSN.k i hlt
   have lT:=Fr.refl hf.wf
   simp(disch:=try exact jz)only[go_sem,W3,bC,SY,hAk,hlC]
   refine bM.st (Fr J') (fr) λdY=>?_
   have wu:=dY.le
   refine bM.mono (Q:=λex tm σ4=>ex=.exit 2/\r8 tm 0=.c (.ptr sb 0)/\r8 tm 3=.c (.ptr J.aj 0)/\r8 tm 5=.c (.sl (J.aj+1) 0 g.e.length (.ex g.e.length))/\r8 tm 31=.c (.sl b5 o5 g.e.length c5)/\r8 tm 32=jN g.e.length/\r8 tm 33=jN i/\σ4.h J.aj=some ⟨[Dv,Sv],none⟩/\qE σ4.h (J.aj+1) g.e.length (rC (TW g x i (kE g.e i))) bs (J.aj+1+1) σ2.aj/\Fr J σ4/\σ2.aj<=σ4.aj)
    (aF (λq tm σ4=>∃c,q=kE g.e i-c/\c<=kE g.e i/\r8 tm 0=.c (.ptr sb 0)/\r8 tm 3=.c (.ptr J.aj 0)/\r8 tm 5=.c (.sl (J.aj+1) 0 g.e.length (.ex g.e.length))/\r8 tm 6=jN i/\r8 tm 31=.c (.sl b5 o5 g.e.length c5)/\r8 tm 32=jN g.e.length/\r8 tm 33=jN i
     /\r8 tm 39=.c C1/\r8 tm 40=jN (kE g.e i)/\r8 tm 41=jN c/\σ4.h J.aj=some ⟨[Dv,Sv],none⟩/\qE σ4.h (J.aj+1) g.e.length (rC (TW g x i c)) bs (J.aj+1+1) σ2.aj/\Fr J σ4/\σ2.aj<=σ4.aj) (kE g.e i) ?_ ?_) ?_
   .refine⟨0,jb,jb,?_⟩
    refine W0 ?_
    and_intros<;>try(first|rfl|omega|exact q3|exact hM.fr dY jb|exact hf.trans dY)
   .rintro q tm σ4 ⟨c,rfl,hc,t0,t3,t5,t6,t31,t32,t33,t39,t40,t41,q34,hM4,hf4,hn4⟩
    have pK:=hf4.le
    refine W2 ?_
    refine aH (λNC=>?_) (λNC=>?_)
    .obtain⟨b8,o8,c8,e8,-,og⟩:=aZ.pos hC (show 0<(ix g.e i).c.length by unfold kE at NC;omega)
     have og:=hf4.ld hW (og c NC)
     have e8:C1=.sl b8 o8 (kE g.e i) c8:=e8
     rw[e8]at t39
     unfold X8 at og
     have EC:=Fr.refl hf4.wf
     have alQ:=hf4.get hW hsb
     have a3:V.c (.sl b8 o8 (kE g.e i) c8)=V.c C1:=by rw[e8]
     rcases hN.A.h i hlt c NC with hh|⟨hh,hh1,hh2⟩
     .have hsk:=aar (g:=g) (x:=x) (i:=i) (c:=c) (.inr hh)
      rw[hsk]at hM4
      simp(disch:=try exact jz)only[go_sem,W3,og,hh]
      refine⟨kE g.e i-(c+1),jb,c+1,rfl,jb,?_⟩
      and_intros<;>try(first|rfl|omega|exact a3|exact q34|exact fr|exact hM4.fr (J':=⟨_,σ4.aj+1⟩) fr hn4)
     .obtain⟨bb1,oo1,cc1,bb2,oo2,cc2,eb,acC,Ro⟩:=hB.at hlt NC
      have acC:=hf4.ld hW acC
      have Ro:=hf4.ld hW Ro
      rw[eb]at alQ
      cases hcn:(bI g).fP.contains (i,c)with
      |true=>
       rw[hcn]at Ro
       have hsk:=aar (g:=g) (x:=x) (i:=i) (c:=c) (.inl hcn)
       rw[hsk]at hM4
       have m1:=hf4.wf.dh acC
       have m2:=hf4.wf.dh Ro
       simp(disch:=try exact jz)only[go_sem,W3,og,hh1,qL,au alQ,acC,Ro]
       refine⟨kE g.e i-(c+1),jb,c+1,rfl,jb,?_⟩
       and_intros<;>try(first|rfl|omega|exact a3|exact q34|exact fr|exact hM4.fr (J':=⟨_,σ4.aj+1⟩) fr hn4)
      |false=>
       rw[hcn]at Ro
       obtain⟨bS,oS,cS,TS,eS,pS,hlS,hSr⟩:=hSv.at hlt
       obtain⟨bS2,oS2,cS2,eS2,pS2,aqf⟩:=aZ.at3 hSr NC
       have hlS:=hf4.ld hW hlS
       have aqf:=hf4.ld hW aqf
       rw[eS2]at hlS
       rw[eS]at q34
       have m1:=hf4.wf.dh acC
       have m2:=hf4.wf.dh Ro
       have m3:=hf4.wf.dh hlS
       have m4:=hf4.wf.dh aqf
       have zM:Sz (TW g x i c hh i):=(hN.A' hlt λ_=>jb).sz hD jb
       have zS:Sz (ND g x i c):=(hN.s i hlt c NC).2.sz hD jb
       have azA:=ap6 (g:=g) (x:=x) hcn hh1
       simp(disch:=try exact jz)only[go_sem,W3,og,hh1,qL,au alQ,acC,Ro,hlS,aqf,q34,au q34]
       refine aC.st (Fr σ4) (fr) λiR=>?_
       refine(ac0 iR.wf (hM4.fr iR hn4) hn (by have:=iR.le;omega) hh2 hlt zM zS).mono ?_
       rintro _ σ6 ⟨hM6,iD⟩
       rw[azA]at hM6
       have zC:=iD.le
       have aBQ:=hM6.grow (hf4.trans iR) iD hh2 jb
       have q36:σ6.h J.aj=some ⟨[Dv,Sv],none⟩:=by rw[eS];refine iD.get iR.wf ?_ (iR.get hf4.wf q34);have:=(hM6.r.r hh hh2).2.1;simp;omega
       refine WP ?_
       have aCy:=iR.le
       refine⟨kE g.e i-(c+1),jb,c+1,rfl,jb,?_⟩
       and_intros<;>try(first|rfl|omega|exact a3|exact q36|exact hM6|exact aBQ)
    .have:c=kE g.e i:=jb
     subst this
     simp(disch:=try exact jz)only[go_sem,am]
     exact⟨t0,t3,t5,t31,t32,t33,q34,hM4,hf4,hn4⟩
   .rintro _ tm σ4 ⟨rfl,t0,t3,t5,t31,t32,t33,q34,hM4,hf4,hn4⟩
    rw[alx]at hM4
    refine WP ?_
    exact⟨g.e.length-(i+1),jb,i+1,rfl,jb,rfl,q34,hM4,hf4,hn4⟩
  .have:i=g.e.length:=jb
   subst this
   simp(disch:=try exact jz)only[go_sem,am]
   exact⟨t0,t3,t5,q3,hM,hf,hnx⟩
 rintro _ tm σ3 ⟨rfl,t0,t3,t5,q3,hM,hf3,hn3⟩
 have hM:qE σ3.h (J.aj+1) g.e.length (rC (mgP g x 0)) bs (J.aj+1+1) σ2.aj:=⟨hM.o,hM.r.congr λi _ c hc=>by unfold rC;rw[ap7 hc],hM.b,hM.l⟩
 have hle3:=hf3.le
 have alr:=hf3.get hW hsb
 simp(disch:=try exact jz)only[go_sem,W3,au alr,hlD,hdk]
 refine aF (λq tm J'=>∃j,q=g.d.length-j/\j<=g.d.length/\r8 tm 0=.c (.ptr sb 0)/\r8 tm 3=.c (.ptr J.aj 0)/\r8 tm 5=.c (.sl (J.aj+1) 0 g.e.length (.ex g.e.length))/\r8 tm 81=.c dvv/\r8 tm 82=jN g.d.length/\r8 tm 83=jN j/\J'.h J.aj=some ⟨[Dv,Sv],none⟩/\qE J'.h (J.aj+1) g.e.length (rC (mgP g x j)) bs (J.aj+1+1) σ2.aj/\Fr J J'/\σ2.aj<=J'.aj) g.d.length ?_ ?_
 .refine⟨0,jb,jb,?_⟩
  refine W0 ?_
  exact⟨q3,hM,hf3,hn3⟩
 .rintro q tm J' ⟨j,rfl,hj,t0,t3,t5,BF,t82,t83,q3,hM,hf,hnx⟩
  have hle:=hf.le
  simp(disch:=try exact jz)only[go_sem,W3,BF,aA]
  refine aH (λhlt=>?_) (λhlt=>?_)
  .obtain⟨b5,o5,c5,rfl,L1,bC,hL⟩:=hg.d.el hlt
   have bC:=hf.ld hW bC
   have hLk:=aZ.kn hL
   have hlL:=aZ.len hL
   obtain⟨hlen,JO⟩:=hSN.l j hlt
   obtain⟨hwf,hw0,hwz⟩:=hSN.w j hlt
   have lT:=Fr.refl hf.wf
   generalize hm:(ix g.d j).l.length=m at*
   simp(disch:=try exact jz)only[go_sem,W3,BF,bC,hLk,au q3,k1,k2]
   refine aC.st (Fr J') (fr) λdY=>?_
   have hf5:=hf.trans dY
   refine(acR dY.wf (aZ.fr hW hf5 hL) (SX.fr hW hf5) rfl rfl rfl jb (by rw[hm];exact JO)).mono ?_
   rintro _ σ6 ⟨⟨b12,rfl,azB,arY,aCz⟩,iD⟩
   have iR:=dY.trans iD
   have acP:=hf.trans iR
   have zC:J'.aj+1<=σ6.aj:=iD.le
   have arY:J'.aj+1<=b12:=arY
   have q11:σ6.h J'.aj=some ⟨[.bool (ix g.d j).w.n,.str (ix g.d j).w.s,.str (ix g.d j).w.d,L1],none⟩:=iD.get dY.wf (ay _ _ _)
   have q36:=iR.get hf.wf q3
   rw[hm]at azB⊢
   simp(disch:=try exact jz)only[go_sem,W3,BF,au q11,hLk,au q36,k1,k2]
   refine(acR iD.wf (aZ.fr hW acP hL) (hSv.fr hW acP) rfl rfl rfl jb (by rw[hm];exact JO)).mono ?_
   rintro _ σ7 ⟨⟨b13,rfl,azC,aCA,aCB⟩,wz⟩
   have nS:=iR.trans wz
   have als:=hf.trans nS
   have ap4:=wz.le
   have alR:=wz.get iD.wf q11
   have q37:=wz.get iD.wf q36
   have alS:=wz.get iD.wf azB
   have hM7:=hM.fr nS hnx
   have aBR:=als.get hW hsb
   rw[hm]at azC⊢
   have alS:σ7.h b12=some ⟨cO m (Vk g x j),none⟩:=alS
   rw[aly]at hM7
   simp(disch:=try exact jz)only[go_sem,W3,BF,au aBR,hll,hlk]
   have aDs:σ2.aj<=σ7.aj:=jb
   refine bM.mono (Q:=λex tm σ8=>ex=.exit 6/\r8 tm 0=.c (.ptr sb 0)/\r8 tm 3=.c (.ptr J.aj 0)/\r8 tm 5=.c (.sl (J.aj+1) 0 g.e.length (.ex g.e.length))/\r8 tm 81=.c (.sl b5 o5 g.d.length c5)/\r8 tm 82=jN g.d.length/\r8 tm 83=jN j/\qE σ8.h (J.aj+1) g.e.length (rC (LK g x j g.e.length λ_=>0)) bs (J.aj+1+1) σ2.aj/\qc (J.aj+1+1) σ2.aj σ7 σ8)
    (aF (λq tm σ8=>∃i,q=g.e.length-i/\i<=g.e.length/\r8 tm 0=.c (.ptr sb 0)/\r8 tm 3=.c (.ptr J.aj 0)/\r8 tm 5=.c (.sl (J.aj+1) 0 g.e.length (.ex g.e.length))/\r8 tm 11=.c (.ptr J'.aj 0)/\r8 tm 12=.c (.sl b12 0 m (.ex m))/\r8 tm 13=.c (.sl b13 0 m (.ex m))/\r8 tm 81=.c (.sl b5 o5 g.d.length c5)/\r8 tm 82=jN g.d.length/\r8 tm 83=jN j
     /\r8 tm 98=.c lv/\r8 tm 99=jN g.e.length/\r8 tm 100=jN i/\qE σ8.h (J.aj+1) g.e.length (rC (LK g x j i λ_=>0)) bs (J.aj+1+1) σ2.aj/\qc (J.aj+1+1) σ2.aj σ7 σ8) g.e.length ?_ ?_) ?_
   .refine⟨0,jb,jb,?_⟩
    simp(disch:=try exact jz)only[go_sem,W3,BF,am]
    exact⟨hM7,(Fr.refl wz.wf).km⟩
   .rintro q tm σ8 ⟨i,rfl,hi,t0,t3,t5,t11,t12,t13,BF,t82,t83,JL,Gi,uy,hM8,hK8⟩
    have uf:=hK8.fr als jb
    have alO:=uf.le
    have hn8:=hK8.le
    have q38:=hK8.get wz.wf q37 (.inl jb)
    have azD:=hK8.get wz.wf alR (.inr jb)
    have azE:=hK8.get wz.wf alS (.inr jb)
    have azF:=hK8.get wz.wf azC (.inr jb)
    simp(disch:=try exact jz)only[go_sem,W3,BF,JL,Gi,uy,aA]
    refine aH (λLP=>?_) (λLP=>?_)
    .have aBS:=Fr.refl uf.wf
     have alT:lenV (.c L1)=some (jN m):=hlL
     simp(disch:=try exact jz)only[go_sem,W3,BF,JL,Gi,uy,au azD,alT,hLk]
     refine bM.st (Fr σ8) (fr) λxE=>?_
     have aBT:=xE.le
     refine bM.mono (Q:=λex tm σ4=>ex=.exit 8/\r8 tm 0=.c (.ptr sb 0)/\r8 tm 3=.c (.ptr J.aj 0)/\r8 tm 5=.c (.sl (J.aj+1) 0 g.e.length (.ex g.e.length))/\r8 tm 11=.c (.ptr J'.aj 0)/\r8 tm 12=.c (.sl b12 0 m (.ex m))/\r8 tm 13=.c (.sl b13 0 m (.ex m))/\r8 tm 14=jN i/\r8 tm 15=.c (.sl σ8.aj 0 m (.ex m))/\r8 tm 81=.c (.sl b5 o5 g.d.length c5)/\r8 tm 82=jN g.d.length/\r8 tm 83=jN j
       /\r8 tm 98=.c lv/\r8 tm 99=jN g.e.length/\r8 tm 100=jN i/\σ4.h σ8.aj=some ⟨cO m (JR g x j i),none⟩/\Fr σ8 σ4/\σ8.aj+1<=σ4.aj)
      (aF (λq tm σ4=>∃k,q=m-k/\k<=m/\r8 tm 0=.c (.ptr sb 0)/\r8 tm 3=.c (.ptr J.aj 0)/\r8 tm 5=.c (.sl (J.aj+1) 0 g.e.length (.ex g.e.length))/\r8 tm 11=.c (.ptr J'.aj 0)/\r8 tm 12=.c (.sl b12 0 m (.ex m))/\r8 tm 13=.c (.sl b13 0 m (.ex m))/\r8 tm 14=jN i/\r8 tm 15=.c (.sl σ8.aj 0 m (.ex m))/\r8 tm 81=.c (.sl b5 o5 g.d.length c5)/\r8 tm 82=jN g.d.length/\r8 tm 83=jN j
       /\r8 tm 98=.c lv/\r8 tm 99=jN g.e.length/\r8 tm 100=jN i/\r8 tm 107=.c L1/\r8 tm 108=jN m/\r8 tm 109=jN k/\σ4.h σ8.aj=some ⟨cO m (λk'=>if k'<k then JR g x j i k' else 0),none⟩/\Fr σ8 σ4/\σ8.aj+1<=σ4.aj) m ?_ ?_) ?_
     .refine⟨0,jb,jb,?_⟩
      simp(disch:=try exact jz)only[go_sem,W3,BF,JL,Gi,uy,am]
      exact⟨by rw[yV],xE,jp⟩
     .rintro q tm σ4 ⟨k,rfl,hk,t0,t3,t5,t11,t12,t13,t14,t15,BF,t82,t83,JL,Gi,uy,t107,aco,t109,TR,hf4,hn4⟩
      have pK:=hf4.le
      simp(disch:=try exact jz)only[go_sem,W3,BF,JL,Gi,uy,aco,aA]
      refine aH (λhltk=>?_) (λhltk=>?_)
      .obtain⟨b6,o6,c6,e6,-,bJ⟩:=aZ.pos hL jb
       have bJ:=(uf.trans hf4).ld hW (bJ k jb)
       obtain⟨e,c,Gj,he,hc⟩:=JO k hltk
       unfold NY at bJ
       rw[Gj]at bJ
       rw[hm]at e6
       have alU:=hf4.get uf.wf azF
       have EC:=Fr.refl hf4.wf
       have hst:=um m k (JR g x j i)
       have hgs:JR g x j i k=if e=i then ND g x e c else 0:=by unfold JR;rw[Gj];rfl
       have a3:V.c (.sl b6 o6 m c6)=V.c L1:=by rw[e6]
       have hsl:(λk=>ND g x (BD (ix (ix g.d j).l k)).1 (BD (ix (ix g.d j).l k)).2) k=ND g x e c:=by dsimp only;rw[Gj];rfl
       rw[e6]at t107
       have aCC:=hf4.wf.lt alU
       by_cases hei:e=i
       .rw[hgs,ab hei,hei]at hst
        have hdE:decide ((Int.ofNat e:Int)=Int.ofNat i)=true:=aq (by rw[hei])
        simp(disch:=try exact jz)only[go_sem,W3,BF,JL,Gi,uy,aco,bJ,hei,alU,au alU,hsl,TR,aG TR,hst]
        refine⟨m-(k+1),jb,k+1,rfl,jb,?_⟩
        and_intros<;>try(first|rfl|omega|exact a3|exact fr)
       .have hne:¬(Int.ofNat e:Int)=Int.ofNat i:=λh=>hei (Int.ofNat.inj h)
        have hsk:=alP (m:=m) (k:=k) (F:=JR g x j i) (by rw[hgs,ae hei])
        simp(disch:=try exact jz)only[go_sem,W3,BF,JL,Gi,uy,aco,bJ,hne]
        rw[hsk]at TR
        refine⟨m-(k+1),jb,k+1,rfl,jb,?_⟩
        and_intros<;>try(first|rfl|omega|exact a3|exact TR|exact fr)
      .have:k=m:=jb
       subst this
       refine WN ?_
       rw[Aa]at TR
       exact⟨t0,t3,t5,t11,t12,t13,t14,t15,BF,t82,t83,JL,Gi,uy,TR,hf4,hn4⟩
     .rintro _ tm σ4 ⟨rfl,t0,t3,t5,t11,t12,t13,t14,t15,BF,t82,t83,JL,Gi,uy,TR,hf4,hn4⟩
      have pK:=hf4.le
      have azG:=hf4.get uf.wf azD
      have azH:=hf4.get uf.wf azE
      have hZ:∀k,k<m->(0<=Vk g x j k/\0<=JR g x j i k)/\Zk D 1 (Vk g x j k)/\Zk D 1 (JR g x j i k):=λk hk=>by
       obtain⟨e,c,h1,h2,h3⟩:=JO k hk;obtain⟨h4,h5⟩:=hSN.q e h2 c h3;obtain⟨h6,h7⟩:=hN.gs hlt i (BD (ix (ix g.d j).l k)) (cT.mpr ⟨_,ni jb,rfl⟩);refine⟨⟨?_,h7⟩,?_,h6⟩
       .unfold Vk;rw[h1];exact h4
       .unfold Vk;rw[h1];exact h5
      simp(disch:=try exact jz)only[go_sem,W3,BF,JL,Gi,uy,au azG]
      refine(alJ (W:=dW g j) (q:=Vk g x j) (r:=JR g x j i) (p:=λ_=>True) (p':=λ_=>True) hf4.wf rfl (by have:=hwf.1;have:=hwf.2;omega) (bD (G:=λk=>dP (Vk g x j k)) _ azH rfl trivial (λ_=>rfl) jj λ_ _=>rfl) (bD (G:=λk=>dP (JR g x j i k)) _ TR rfl trivial (λ_=>rfl) jj λ_ _=>rfl) jb (λk hk=>(hZ k hk).1) hw0 hD hwz λk hk=>(hZ k hk).2).mono ?_
      rintro _ σ5 ⟨⟨rb,rfl,hrb,aBJ,aBK⟩,hf5⟩
      have dY:=hf4.trans hf5
      have wu:=hf5.le
      have hM5:=hM8.fr dY jb
      have hK5:=hK8.trans dY.km
      have Xy:=hf5.get hf4.wf TR
      have azI:=hf5.get hf4.wf azG
      rw[alA j i]at hM5
      have hu1:∀k,k<=m->Zk D k (aB k (JR g x j i)):=λk hk=>Zk.AB λa ha=>(hZ a jb).2.2
      have hu2:∀k,k<=m->Zk D 1000 (aB k (TV (dW g j) (Vk g x j) (JR g x j i))):=λk hk=>by
       rw[OA];unfold pR;split
       .exact(hu1 k hk).mono jb
       .exact Zk.zero.mono (aM _)
      have hu3:∀k,k<m->Zk D 2000 (TV (dW g j) (Vk g x j) (JR g x j i) k):=λk hk=>by have h1:=hu2 (k+1) jb;have h2:=hu2 k jb;rw[OA]at h1 h2;exact h1.sub h2
      simp(disch:=try exact jz)only[go_sem,W3,BF,JL,Gi,uy]
      refine bM.mono (Q:=λex tm σ9=>ex=.exit 10/\r8 tm 0=.c (.ptr sb 0)/\r8 tm 3=.c (.ptr J.aj 0)/\r8 tm 5=.c (.sl (J.aj+1) 0 g.e.length (.ex g.e.length))/\r8 tm 11=.c (.ptr J'.aj 0)/\r8 tm 12=.c (.sl b12 0 m (.ex m))/\r8 tm 13=.c (.sl b13 0 m (.ex m))/\r8 tm 14=jN i/\r8 tm 15=.c (.sl σ8.aj 0 m (.ex m))/\r8 tm 18=.c (.sl rb 0 m (.ex m))/\r8 tm 81=.c (.sl b5 o5 g.d.length c5)/\r8 tm 82=jN g.d.length/\r8 tm 83=jN j/\r8 tm 98=.c lv/\r8 tm 99=jN g.e.length/\r8 tm 100=jN i/\qE σ9.h (J.aj+1) g.e.length (rC (LK g x j i (Vj g x j i m))) bs (J.aj+1+1) σ2.aj/\qc (J.aj+1+1) σ2.aj σ5 σ9)
       (aF (λq tm σ9=>∃k,q=m-k/\k<=m/\r8 tm 0=.c (.ptr sb 0)/\r8 tm 3=.c (.ptr J.aj 0)/\r8 tm 5=.c (.sl (J.aj+1) 0 g.e.length (.ex g.e.length))/\r8 tm 11=.c (.ptr J'.aj 0)/\r8 tm 12=.c (.sl b12 0 m (.ex m))/\r8 tm 13=.c (.sl b13 0 m (.ex m))/\r8 tm 14=jN i/\r8 tm 15=.c (.sl σ8.aj 0 m (.ex m))/\r8 tm 18=.c (.sl rb 0 m (.ex m))/\r8 tm 81=.c (.sl b5 o5 g.d.length c5)/\r8 tm 82=jN g.d.length/\r8 tm 83=jN j/\r8 tm 98=.c lv/\r8 tm 99=jN g.e.length/\r8 tm 100=jN i/\r8 tm 131=.c (.sl rb 0 m (.ex m))/\r8 tm 132=jN m/\r8 tm 133=jN k/\qE σ9.h (J.aj+1) g.e.length (rC (LK g x j i (Vj g x j i k))) bs (J.aj+1+1) σ2.aj/\qc (J.aj+1+1) σ2.aj σ5 σ9) m ?_ ?_) ?_
      .refine⟨0,jb,jb,?_⟩
       simp(disch:=try exact jz)only[go_sem,W3,BF,JL,Gi,uy,am]
       exact⟨hM5,(Fr.refl hf5.wf).km⟩
      .rintro q tm σ9 ⟨k,rfl,hk,t0,t3,t5,t11,t12,t13,t14,t15,uF,BF,t82,t83,JL,Gi,uy,t131,aci,avJ,hM9,hK9⟩
       have hn9:=hK9.le
       simp(disch:=try exact jz)only[go_sem,W3,uF,BF,JL,Gi,uy,aci,avJ,aA]
       refine aH (λhltk=>?_) (λhltk=>?_)
       .obtain⟨b6,o6,c6,e6,-,bJ⟩:=aZ.pos hL jb
        have bJ:=(hK9.fr (uf.trans dY) jb).ld hW (bJ k jb)
        obtain⟨e,c,Gj,he,hc⟩:=JO k hltk
        unfold NY at bJ
        rw[Gj]at bJ
        rw[hm]at e6
        have l1:=FI bJ 1 false jj jj
        have NG:=hK9.get hf5.wf azI (.inr jb)
        rw[e6]at NG
        have avK:=hK9.get hf5.wf hrb (.inr jb)
        have azd:=Fr.refl hK9.wf
        have m1:=hK9.wf.dh l1
        have m2:=hK9.wf.lt NG
        have m3:=hK9.wf.lt avK
        have zM:Sz (LK g x j i (Vj g x j i k) e i):=(hN.D' hlt LP (hN.U hlt i k e)).sz hD jb
        have zS:Sz (TV (dW g j) (Vk g x j) (JR g x j i) k):=(hu3 k hltk).sz hD jb
        have hst:=aqa (x:=x) (i:=i) (show k<(ix g.d j).l.length by omega) Gj
        simp(disch:=try exact jz)only[go_sem,W3,uF,BF,JL,Gi,uy,aci,avJ,avK,au avK,NG,au NG,l1]
        refine aC.st (Fr σ9) (fr) λhFa=>?_
        have aBU:=hFa.le
        refine(ac0 hFa.wf (hM9.fr hFa jb) hn jb he LP zM zS).mono ?_
        rintro _ σb ⟨hMb,hfb⟩
        rw[hst]at hMb
        have hKb:=(hK9.trans hFa.km).trans (hMb.km hfb he)
        simp(disch:=try exact jz)only[go_sem,W3,uF,BF,JL,Gi,uy,aci,avJ]
        refine⟨m-(k+1),jb,k+1,rfl,jb,?_⟩
        and_intros<;>try(first|rfl|omega|exact bp V.c e6.symm|exact hMb|exact hKb)
       .have:k=m:=jb
        subst this
        simp(disch:=try exact jz)only[go_sem,am]
        exact⟨t0,t3,t5,t11,t12,t13,t14,t15,uF,BF,t82,t83,JL,Gi,uy,hM9,hK9⟩
      .rintro _ tm σ9 ⟨rfl,t0,t3,t5,t11,t12,t13,t14,t15,uF,BF,t82,t83,JL,Gi,uy,hM9,hK9⟩
       have hn9:=hK9.le
       have S9:=hK9.fr (uf.trans dY) (show J.aj<=J.aj+1+1 by omega)
       have NG:=hK9.get hf5.wf azI (.inr jb)
       have avL:=hK5.trans hK9
       by_cases hm0:m=0
       .have hMe:qE σ9.h (J.aj+1) g.e.length (rC (LK g x j (i+1) λ_=>0)) bs (J.aj+1+1) σ2.aj:=by rw[<-RJ,<-aas (azz jb),hm];exact hM9
        have hz:(Int.ofNat 0<Int.ofNat m)=False:=by rw[hm0];exact propext ⟨λh=>absurd h jj,False.elim⟩
        simp(disch:=try exact jz)only[go_sem,W3,uF,BF,JL,Gi,uy,au NG,alT,hLk,hz]
        refine⟨g.e.length-(i+1),jb,i+1,rfl,jb,?_⟩
        and_intros<;>try(first|rfl|omega|exact hMe|exact avL)
       .obtain⟨e,c,Gj,he,hc⟩:=JO 0 jb
        have hz:(Int.ofNat 0<Int.ofNat m)=True:=eq_true (by show(0:Int)<(m:Int);omega)
        have hd:=avI (g:=g) (j:=j) jb Gj
        have hL9:=aZ.fr hW S9 hL
        have azd:=Fr.refl hK9.wf
        simp(disch:=try exact jz)only[go_sem,W3,uF,BF,JL,Gi,uy,au NG,alT,hLk,hz]
        refine(aaw hK9.wf (hs'.fr S9) hL9 rfl rfl rfl jb Gj he hc hn (hSN.k e he)).mono ?_
        rintro _ σa ⟨rfl,hfa⟩
        have aBV:=hfa.get hK9.wf NG
        have hfA:=S9.trans hfa
        have aBU:=hfa.le
        rcases hN.A.h e he c hc with hh|⟨hh,hh1,hh2⟩
        .have hh:apH g e c=.negSucc 0:=hh
         have hMe:qE σa.h (J.aj+1) g.e.length (rC (LK g x j (i+1) λ_=>0)) bs (J.aj+1+1) σ2.aj:=by rw[<-RJ,<-aas (hd.trans hh),hm];exact hM9.fr hfa jb
         simp(disch:=try exact jz)only[go_sem,W3,uF,BF,JL,Gi,uy,hh]
         refine⟨g.e.length-(i+1),jb,i+1,rfl,jb,?_⟩
         and_intros<;>try(first|rfl|omega|exact hMe|exact avL.trans hfa.km)
        .have hh1:apH g e c=.ofNat hh:=hh1
         simp(disch:=try exact jz)only[go_sem,W3,uF,BF,JL,Gi,uy,hh1,qL,au aBV,hLk]
         refine(aaw hfa.wf (hs'.fr hfA) (aZ.fr hW hfA hL) rfl rfl rfl jb Gj he hc hn (hSN.k e he)).mono ?_
         rintro _ σb ⟨rfl,hfb⟩
         have hFb:=hfa.trans hfb
         have qob:=hFb.get hK9.wf (hK9.get hf5.wf Xy (.inr jb))
         have aBW:=hFb.get hK9.wf (hK9.get hf5.wf hrb (.inr jb))
         simp(disch:=try exact jz)only[go_sem,W3,uF,BF,JL,Gi,uy,hh1]
         refine(arX (p:=λ_=>True) hfb.wf (bD (G:=λk=>dP (JR g x j i k)) _ qob rfl trivial (λ_=>rfl) jj λ_ _=>rfl) jb (λk hk=>(hZ k hk).2.2.sz hD jb) λk hk=>(hu1 k hk).sz hD jb).mono ?_
         rintro _ σc ⟨rfl,hfc⟩
         have aBX:=hfc.get hfb.wf aBW
         simp(disch:=try exact jz)only[go_sem,W3,uF,BF,JL,Gi,uy,hh1]
         refine(arX (p:=λ_=>True) hfc.wf (bD (G:=λk=>dP (TV (dW g j) (Vk g x j) (JR g x j i) k)) _ aBX rfl trivial (λ_=>rfl) jj λ_ _=>rfl) jb (λk hk=>(hu3 k hk).sz hD jb) λk hk=>(hu2 k hk).sz hD jb).mono ?_
         rintro _ σd ⟨rfl,hfd⟩
         have hFd:=(hFb.trans hfc).trans hfd
         have aDt:=hFd.le
         have z1:Sz (aB m (JR g x j i)):=(hu1 m jp).sz hD jb
         have z2:Sz (aB m (TV (dW g j) (Vk g x j) (JR g x j i))):=(hu2 m jp).sz hD jb
         have z3:Sz (aB m (JR g x j i)-aB m (TV (dW g j) (Vk g x j) (JR g x j i))):=((hu1 m jp).sub (hu2 m jp)).sz hD jb
         have zM:Sz (LK g x j i (Vj g x j i m) hh i):=(hN.D' hlt LP (hN.U hlt i m hh)).sz hD jb
         have hst:=aqb (x:=x) (t:=j) (i:=i) (hh:=hh) (hd.trans hh1)
         rw[hm]at hst
         simp(disch:=try exact jz)only[go_sem,W3,uF,BF,JL,Gi,uy,hh1]
         refine(ac0 hfd.wf (hM9.fr hFd jb) hn jb hh2 LP zM z3).mono ?_
         rintro _ σe ⟨hMe,hfe⟩
         rw[hst,RJ]at hMe
         have hKe:=(avL.trans hFd.km).trans (hMe.km hfe hh2)
         simp(disch:=try exact jz)only[go_sem,W3,uF,BF,JL,Gi,uy]
         refine⟨g.e.length-(i+1),jb,i+1,rfl,jb,?_⟩
         and_intros<;>try(first|rfl|omega|exact hMe|exact hKe)
    .have:i=g.e.length:=jb
     subst this
     simp(disch:=try exact jz)only[go_sem,am]
     exact⟨t0,t3,t5,BF,t82,t83,hM8,hK8⟩
   .rintro _ tm σ8 ⟨rfl,t0,t3,t5,BF,t82,t83,hM8,hK8⟩
    have uf:=hK8.fr als (show J.aj<=J.aj+1+1 by omega)
    have hn8:=hK8.le
    have q38:=hK8.get wz.wf q37 (.inl jb)
    have hM8:qE σ8.h (J.aj+1) g.e.length (rC (mgP g x (j+1))) bs (J.aj+1+1) σ2.aj:=⟨hM8.o,hM8.r.congr λi _ c hc=>by unfold rC;rw[ap8 hlt hc],hM8.b,hM8.l⟩
    simp(disch:=try exact jz)only[go_sem,W3,BF]
    exact⟨g.d.length-(j+1),jb,j+1,rfl,jb,rfl,q38,hM8,uf,jb⟩
  .have:j=g.d.length:=jb
   subst this
   simp(disch:=try exact jz)only[go_sem,t5]
   exact⟨⟨_,bs,σ2.aj,rfl,jb,hnx,hM.o,hM.r.congr λi _ c hc=>by unfold rC;rw[ap9],hM.b,hM.l⟩,hf⟩
end Go.Proofs.Xe
