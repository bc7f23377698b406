import Derived.Test.YtodnohicahohdaaGreatDoorYh35
set_option linter.all false
set_option maxHeartbeats 8000000
attribute [-go_sem] Go.Proofs.Xe.azd Go.Proofs.Xe.aze Go.Proofs.Xe.azf
namespace Go.Proofs.Xe
open Go.RowKit Go.Proofs.Ins
def al0.at{p:Nat->Prop}{h:Tr Bk}{bv:B}{el:List yg}{L:List fZ}(hb:al0 p h bv el L){i c:Nat}(hi:i<el.length)(hc:c<kE el i):∃b o cc b2 o2 cc2,bv=.sl b o el.length cc/\ld h b (o+i*1) 1 false=some (.c (.sl b2 o2 (kE el i) cc2))/\ld h b2 (o2+c*1) 1 false=some (.c (.bool (L.contains (i,c)))):=by obtain⟨T,h1,h2⟩:=hb;obtain⟨b,o,cc,e,-,hld⟩:=h1.pos jb;obtain⟨b2,o2,cc2,e2,-,uY⟩:=(h2 i hi).pos (by unfold kE at hc;omega);have h3:=(rW (hld i hi)).1;rw[e2]at h3;exact⟨b,o,cc,b2,o2,cc2,e,h3,(rW (uY c hc)).1⟩
theorem qO.grow{J J':St}{mb n lo hi:Nat}{C:Nat->Nat->List B}{bs:Nat->Nat}(hM:qO J'.h mb n C bs lo hi){σ0:St}(h0:Fr σ0 J){j:Nat}(hf:gY [bs j] J J')(hj:j<n)(hb:σ0.aj<=mb):Fr σ0 J':=
 hf.to h0 λb hbb=>by rw[cU]at hbb;subst hbb;have:=(hM.r.r j hj).2.1;have:=hM.b;omega
structure qy(lo hi:Nat)(J J':St):Prop where
 le:J.aj<=J'.aj
 wf:WF J'
 old:∀b,b<J.aj->b<lo\/hi<=b->J'.h b=J.h b
section
variable {lo hi:Nat} {J J' PV : St}
def Fr.km(h:Fr J J'):qy lo hi J J':=⟨h.le,h.wf,λb hb _=>h.old b hb⟩
def qy.trans(h:qy lo hi J J')(h':qy lo hi J' PV):qy lo hi J PV:=⟨ar h.le h'.le,h'.wf,λb hb h2=>(h'.old b (aE hb h.le) h2).trans (h.old b hb h2)⟩
def qy.get(h:qy lo hi J J')(hW:WF J){b:Nat}{k:Bk}(hb:J.h b=some k)(h2:b<lo\/hi<=b):J'.h b=some k:=by rw[h.old b (hW.lt hb) h2];exact hb
theorem qy.fr{σ0:St}(h0:Fr σ0 J)(h:qy lo hi J J')(hl:σ0.aj<=lo):Fr σ0 J':=⟨ar h0.le h.le,h.wf,λb hb=>(h.old b (aE hb h0.le) (.inl jb)).trans (h0.old b hb)⟩
def qO.km{mb n:Nat}{C:Nat->Nat->List B}{bs:Nat->Nat}(hM:qO J'.h mb n C bs lo hi){j:Nat}(hf:gY [bs j] J J')(hj:j<n):qy lo hi J J':=⟨hf.le,hf.wf,λb hb h2=>hf.old b hb λhm=>by rw[cU]at hm;subst hm;have:=hM.r.r j hj;omega⟩
end
def amq{m k:Nat}{F:Nat->Rat}(h:F k=0):dh m (λi=>if i<k then F i else 0)=dh m λi=>if i<k+1 then F i else 0:=dX λi _=>by
 by_cases e:i=k
 .subst e;rw[ae jb,ab jb,h]
 .by_cases e2:i<k
  .rw[ab e2,ab jb]
  .rw[ae e2,ae jb]
def awF{g:dV}{j e c:Nat}(h0:0<(ix g.d j).l.length)(He:ix (ix g.d j).l 0=⟨.ofNat e,.ofNat c⟩):TJ (bH g) (dW g j,dL g j)=apH g e c:=by
 unfold TJ dL;cases hl:(ix g.d j).l with
 |nil=>rw[hl]at h0;simp at h0
 |cons a t=>
  rw[hl]at He
  have He:a=⟨.ofNat e,.ofNat c⟩:=He
  rw[He];rfl
def aAa{g:dV}{j:Nat}(h0:(ix g.d j).l.length=0):TJ (bH g) (dW g j,dL g j)=-1:=by unfold TJ dL;rw[gp.mp h0];rfl
set_option maxRecDepth 10000 in
def ahX{J:St}(hW:WF J){sb:Nat}{g:dV}{x:Nat->Rat}(hs:Hf (Lt J.aj) J.h sb g){p:Nat->Prop}{Dv Sv:B}(UK:dP p J.h Dv g.e.length (kE g.e) (NM g x))(hSv:dP p J.h Sv g.e.length (kE g.e) (NR g x)){D:Nat}(hN:XP D g x):
  aB EN 90 [.c (.ptr sb 0),.agg [Dv,Sv]] J λr J'=>(∃mb bs hi,r=.c (.sl mb 0 g.e.length (.ex g.e.length))/\J.aj<=mb/\hi<=J'.aj/\qO J'.h mb g.e.length (rC (gM g.e.length (bH g) x)) bs (mb+1) hi)/\Fr J J':=by
 refine aI (jZ.o _ _) jZ.h ?_
 unfold jZ
 dsimp only
 have hs':=hs
 obtain⟨⟨ev,dvv,lv,bv,hsb,hg,⟨R,P,hL1,hL2⟩,hB⟩,hsl⟩:=hs
 have hSN:=hN.A.s
 have hn:=hSN.n
 have hnd:=hSN.d
 have hD:=hSN.hD
 have hu:=al8
 have hlk:=hL1.kn
 have hll:=hL1.len
 have hlE:=hg.e.len
 have hlD:=hg.d.len
 have hek:=hg.e.kn
 have hdk:=hg.d.kn
 have k1:=UK.kn
 have k2:=hSv.kn
 have hsl:sb<J.aj:=hsl
 have hFr:=Fr.refl hW
 simp(disch:=try exact jz)only[go_sem,k1,k2,ay hsb,hll,hlk]
 refine aB.st (Fr J) (fr) λhF=>?_
 refine(aaC hF.wf hn).mono ?_
 rintro _ σ2 ⟨⟨bs,rfl,hM⟩,hf2⟩
 have hF2:=hF.trans hf2
 have awx:=hF2.get hW hsb
 have q3:σ2.h J.aj=some ⟨[Dv,Sv],none⟩:=hf2.get hF.wf (aA _ _ _)
 have hle2:J.aj+1<=σ2.aj:=hf2.le
 have hlo2:=hM.l
 have hlo2:J.aj+1+1<=σ2.aj:=hlo2
 have hM:qO σ2.h (J.aj+1) g.e.length (rC λ_ _=>0) bs (J.aj+1+1) σ2.aj:=hM
 rw[<-al9 (g:=g) (x:=x)]at hM
 simp(disch:=try exact jz)only[go_sem,ay awx,hlE,hek]
 refine bI.mono (Q:=λex tm J'=>ex=.exit 0/\r8 tm 0=.c (.ptr sb 0)/\r8 tm 3=.c (.ptr J.aj 0)/\r8 tm 5=.c (.sl (J.aj+1) 0 g.e.length (.ex g.e.length))/\J'.h J.aj=some ⟨[Dv,Sv],none⟩/\qO J'.h (J.aj+1) g.e.length (rC (TV g x g.e.length 0)) bs (J.aj+1+1) σ2.aj/\Fr J J'/\σ2.aj<=J'.aj)
  (aG (λq tm J'=>∃i,q=g.e.length-i/\i<=g.e.length/\r8 tm 0=.c (.ptr sb 0)/\r8 tm 3=.c (.ptr J.aj 0)/\r8 tm 5=.c (.sl (J.aj+1) 0 g.e.length (.ex g.e.length))/\r8 tm 31=.c ev/\r8 tm 32=jN g.e.length/\r8 tm 33=jN i/\J'.h J.aj=some ⟨[Dv,Sv],none⟩/\qO J'.h (J.aj+1) g.e.length (rC (TV g x i 0)) bs (J.aj+1+1) σ2.aj/\Fr J J'/\σ2.aj<=J'.aj) g.e.length ?_ ?_) ?_
 .refine⟨0,jb,jb,?_⟩
  refine WP ?_
  exact⟨q3,hM,hF2,jp⟩
 .rintro q tm J' ⟨i,rfl,hi,t0,t3,t5,t31,t32,t33,q3,hM,hf,hnx⟩
  have hle:=hf.le
  refine W3 ?_
  refine aH (λhlt=>?_) (λhlt=>?_)
  .obtain⟨b5,o5,c5,rfl,C1,A1,bD,-,hC,hA1⟩:=hg.e.at hlt
   have bD:=hf.ld hW bD
   have Om:=aZ.kn hC
   have hAk:=hA1.kn
   have ZL:=aZ.len hC
   have hkk:=hSN.k i hlt
   have lM:=Fr.refl hf.wf
   simp(disch:=try exact jz)only[go_sem,W4,bD,Om,hAk,ZL]
   refine bI.st (Fr J') (fr) λeX=>?_
   have vS:=eX.le
   refine bI.mono (Q:=λex tm σ4=>ex=.exit 2/\r8 tm 0=.c (.ptr sb 0)/\r8 tm 3=.c (.ptr J.aj 0)/\r8 tm 5=.c (.sl (J.aj+1) 0 g.e.length (.ex g.e.length))/\r8 tm 31=.c (.sl b5 o5 g.e.length c5)/\r8 tm 32=jN g.e.length/\r8 tm 33=jN i/\σ4.h J.aj=some ⟨[Dv,Sv],none⟩/\qO σ4.h (J.aj+1) g.e.length (rC (TV g x i (kE g.e i))) bs (J.aj+1+1) σ2.aj/\Fr J σ4/\σ2.aj<=σ4.aj)
    (aG (λq tm σ4=>∃c,q=kE g.e i-c/\c<=kE g.e i/\r8 tm 0=.c (.ptr sb 0)/\r8 tm 3=.c (.ptr J.aj 0)/\r8 tm 5=.c (.sl (J.aj+1) 0 g.e.length (.ex g.e.length))/\r8 tm 6=jN i/\r8 tm 31=.c (.sl b5 o5 g.e.length c5)/\r8 tm 32=jN g.e.length/\r8 tm 33=jN i
     /\r8 tm 39=.c C1/\r8 tm 40=jN (kE g.e i)/\r8 tm 41=jN c/\σ4.h J.aj=some ⟨[Dv,Sv],none⟩/\qO σ4.h (J.aj+1) g.e.length (rC (TV g x i c)) bs (J.aj+1+1) σ2.aj/\Fr J σ4/\σ2.aj<=σ4.aj) (kE g.e i) ?_ ?_) ?_
   .refine⟨0,jb,jb,?_⟩
    refine W1 ?_
    and_intros<;>try(first|rfl|omega|exact q3|exact hM.fr eX jb|exact hf.trans eX)
   .rintro q tm σ4 ⟨c,rfl,hc,t0,t3,t5,t6,t31,t32,t33,t39,t40,t41,q34,hM4,hf4,hn4⟩
    have qM:=hf4.le
    refine W3 ?_
    refine aH (λNQ=>?_) (λNQ=>?_)
    .obtain⟨b8,o8,c8,e8,-,qh⟩:=aZ.pos hC (show 0<(ix g.e i).c.length by unfold kE at NQ;omega)
     have qh:=hf4.ld hW (qh c NQ)
     have e8:C1=.sl b8 o8 (kE g.e i) c8:=e8
     rw[e8]at t39
     unfold Ym at qh
     have ET:=Fr.refl hf4.wf
     have amr:=hf4.get hW hsb
     have a3:V.c (.sl b8 o8 (kE g.e i) c8)=V.c C1:=by rw[e8]
     rcases hN.A.h i hlt c NQ with hh|⟨hh,hh1,hh2⟩
     .have hsk:=aaz (g:=g) (x:=x) (i:=i) (c:=c) (.inr hh)
      rw[hsk]at hM4
      simp(disch:=try exact jz)only[go_sem,W4,qh,hh]
      refine⟨kE g.e i-(c+1),jb,c+1,rfl,jb,?_⟩
      and_intros<;>try(first|rfl|omega|exact a3|exact q34|exact fr|exact hM4.fr (J':=⟨_,σ4.aj+1⟩) fr hn4)
     .obtain⟨bb1,oo1,cc1,bb2,oo2,cc2,eb,acY,Rj⟩:=hB.at hlt NQ
      have acY:=hf4.ld hW acY
      have Rj:=hf4.ld hW Rj
      rw[eb]at amr
      cases hcn:(bH g).fM.contains (i,c)with
      |true=>
       rw[hcn]at Rj
       have hsk:=aaz (g:=g) (x:=x) (i:=i) (c:=c) (.inl hcn)
       rw[hsk]at hM4
       have m1:=hf4.wf.cZ acY
       have m2:=hf4.wf.cZ Rj
       simp(disch:=try exact jz)only[go_sem,W4,qh,hh1,qZ,ay amr,acY,Rj]
       refine⟨kE g.e i-(c+1),jb,c+1,rfl,jb,?_⟩
       and_intros<;>try(first|rfl|omega|exact a3|exact q34|exact fr|exact hM4.fr (J':=⟨_,σ4.aj+1⟩) fr hn4)
      |false=>
       rw[hcn]at Rj
       obtain⟨bS,oS,cS,TS,eS,pS,hlS,hSr⟩:=hSv.at hlt
       obtain⟨bS2,oS2,cS2,eS2,pS2,aq5⟩:=aZ.at3 hSr NQ
       have hlS:=hf4.ld hW hlS
       have aq5:=hf4.ld hW aq5
       rw[eS2]at hlS
       rw[eS]at q34
       have m1:=hf4.wf.cZ acY
       have m2:=hf4.wf.cZ Rj
       have m3:=hf4.wf.cZ hlS
       have m4:=hf4.wf.cZ aq5
       have zM:Sz (TV g x i c hh i):=(hN.A' hlt λ_=>jb).sz hD jb
       have zS:Sz (NR g x i c):=(hN.s i hlt c NQ).2.sz hD jb
       have aAb:=aqX (g:=g) (x:=x) hcn hh1
       simp(disch:=try exact jz)only[go_sem,W4,qh,hh1,qZ,ay amr,acY,Rj,hlS,aq5,q34,ay q34]
       refine aB.st (Fr σ4) (fr) λjO=>?_
       refine(adr jO.wf (hM4.fr jO hn4) hn (by have:=jO.le;omega) hh2 hlt zM zS).mono ?_
       rintro _ σ6 ⟨hM6,gX⟩
       rw[aAb]at hM6
       have AZ:=gX.le
       have aCw:=hM6.grow (hf4.trans jO) gX hh2 jb
       have q36:σ6.h J.aj=some ⟨[Dv,Sv],none⟩:=by rw[eS];refine gX.get jO.wf ?_ (jO.get hf4.wf q34);have:=(hM6.r.r hh hh2).2.1;simp;omega
       refine W0 ?_
       have aDd:=jO.le
       refine⟨kE g.e i-(c+1),jb,c+1,rfl,jb,?_⟩
       and_intros<;>try(first|rfl|omega|exact a3|exact q36|exact hM6|exact aCw)
    .have:c=kE g.e i:=jb
     subst this
     simp(disch:=try exact jz)only[go_sem,am]
     exact⟨t0,t3,t5,t31,t32,t33,q34,hM4,hf4,hn4⟩
   .rintro _ tm σ4 ⟨rfl,t0,t3,t5,t31,t32,t33,q34,hM4,hf4,hn4⟩
    rw[ama]at hM4
    refine W0 ?_
    exact⟨g.e.length-(i+1),jb,i+1,rfl,jb,rfl,q34,hM4,hf4,hn4⟩
  .have:i=g.e.length:=jb
   subst this
   simp(disch:=try exact jz)only[go_sem,am]
   exact⟨t0,t3,t5,q3,hM,hf,hnx⟩
 rintro _ tm σ3 ⟨rfl,t0,t3,t5,q3,hM,hf3,hn3⟩
 have hM:qO σ3.h (J.aj+1) g.e.length (rC (mgP g x 0)) bs (J.aj+1+1) σ2.aj:=⟨hM.o,hM.r.congr λi _ c hc=>by unfold rC;rw[aqY hc],hM.b,hM.l⟩
 have hle3:=hf3.le
 have al6:=hf3.get hW hsb
 simp(disch:=try exact jz)only[go_sem,W4,ay al6,hlD,hdk]
 refine aG (λq tm J'=>∃j,q=g.d.length-j/\j<=g.d.length/\r8 tm 0=.c (.ptr sb 0)/\r8 tm 3=.c (.ptr J.aj 0)/\r8 tm 5=.c (.sl (J.aj+1) 0 g.e.length (.ex g.e.length))/\r8 tm 81=.c dvv/\r8 tm 82=jN g.d.length/\r8 tm 83=jN j/\J'.h J.aj=some ⟨[Dv,Sv],none⟩/\qO J'.h (J.aj+1) g.e.length (rC (mgP g x j)) bs (J.aj+1+1) σ2.aj/\Fr J J'/\σ2.aj<=J'.aj) g.d.length ?_ ?_
 .refine⟨0,jb,jb,?_⟩
  refine W1 ?_
  exact⟨q3,hM,hf3,hn3⟩
 .rintro q tm J' ⟨j,rfl,hj,t0,t3,t5,BR,t82,t83,q3,hM,hf,hnx⟩
  have hle:=hf.le
  simp(disch:=try exact jz)only[go_sem,W4,BR,aC]
  refine aH (λhlt=>?_) (λhlt=>?_)
  .obtain⟨b5,o5,c5,rfl,L1,bD,hL⟩:=hg.d.el hlt
   have bD:=hf.ld hW bD
   have hLk:=aZ.kn hL
   have hlL:=aZ.len hL
   obtain⟨hlen,JX⟩:=hSN.l j hlt
   obtain⟨hwf,hw0,hwz⟩:=hSN.w j hlt
   have lM:=Fr.refl hf.wf
   generalize hm:(ix g.d j).l.length=m at*
   simp(disch:=try exact jz)only[go_sem,W4,BR,bD,hLk,ay q3,k1,k2]
   refine aB.st (Fr J') (fr) λeX=>?_
   have hf5:=hf.trans eX
   refine(adg eX.wf (aZ.fr hW hf5 hL) (UK.fr hW hf5) rfl rfl rfl jb (by rw[hm];exact JX)).mono ?_
   rintro _ σ6 ⟨⟨b12,rfl,aAc,as4,aDe⟩,gX⟩
   have jO:=eX.trans gX
   have ade:=hf.trans jO
   have AZ:J'.aj+1<=σ6.aj:=gX.le
   have as4:J'.aj+1<=b12:=as4
   have q11:σ6.h J'.aj=some ⟨[.bool (ix g.d j).w.n,.str (ix g.d j).w.s,.str (ix g.d j).w.d,L1],none⟩:=gX.get eX.wf (aA _ _ _)
   have q36:=jO.get hf.wf q3
   rw[hm]at aAc⊢
   simp(disch:=try exact jz)only[go_sem,W4,BR,ay q11,hLk,ay q36,k1,k2]
   refine(adg gX.wf (aZ.fr hW ade hL) (hSv.fr hW ade) rfl rfl rfl jb (by rw[hm];exact JX)).mono ?_
   rintro _ σ7 ⟨⟨b13,rfl,aAd,aDf,aDg⟩,vg⟩
   have pX:=jO.trans vg
   have al7:=hf.trans pX
   have aqV:=vg.le
   have ams:=vg.get gX.wf q11
   have q37:=vg.get gX.wf q36
   have amu:=vg.get gX.wf aAc
   have hM7:=hM.fr pX hnx
   have aCx:=al7.get hW hsb
   rw[hm]at aAd⊢
   have amu:σ7.h b12=some ⟨dh m (Ve g x j),none⟩:=amu
   rw[amb]at hM7
   simp(disch:=try exact jz)only[go_sem,W4,BR,ay aCx,hll,hlk]
   have aD2:σ2.aj<=σ7.aj:=jb
   refine bI.mono (Q:=λex tm σ8=>ex=.exit 6/\r8 tm 0=.c (.ptr sb 0)/\r8 tm 3=.c (.ptr J.aj 0)/\r8 tm 5=.c (.sl (J.aj+1) 0 g.e.length (.ex g.e.length))/\r8 tm 81=.c (.sl b5 o5 g.d.length c5)/\r8 tm 82=jN g.d.length/\r8 tm 83=jN j/\qO σ8.h (J.aj+1) g.e.length (rC (LU g x j g.e.length λ_=>0)) bs (J.aj+1+1) σ2.aj/\qy (J.aj+1+1) σ2.aj σ7 σ8)
    (aG (λq tm σ8=>∃i,q=g.e.length-i/\i<=g.e.length/\r8 tm 0=.c (.ptr sb 0)/\r8 tm 3=.c (.ptr J.aj 0)/\r8 tm 5=.c (.sl (J.aj+1) 0 g.e.length (.ex g.e.length))/\r8 tm 11=.c (.ptr J'.aj 0)/\r8 tm 12=.c (.sl b12 0 m (.ex m))/\r8 tm 13=.c (.sl b13 0 m (.ex m))/\r8 tm 81=.c (.sl b5 o5 g.d.length c5)/\r8 tm 82=jN g.d.length/\r8 tm 83=jN j
     /\r8 tm 98=.c lv/\r8 tm 99=jN g.e.length/\r8 tm 100=jN i/\qO σ8.h (J.aj+1) g.e.length (rC (LU g x j i λ_=>0)) bs (J.aj+1+1) σ2.aj/\qy (J.aj+1+1) σ2.aj σ7 σ8) g.e.length ?_ ?_) ?_
   .refine⟨0,jb,jb,?_⟩
    simp(disch:=try exact jz)only[go_sem,W4,BR,am]
    exact⟨hM7,(Fr.refl vg.wf).km⟩
   .rintro q tm σ8 ⟨i,rfl,hi,t0,t3,t5,t11,t12,t13,BR,t82,t83,JV,G9,uT,hM8,hK8⟩
    have uZ:=hK8.fr al7 jb
    have amo:=uZ.le
    have hn8:=hK8.le
    have q38:=hK8.get vg.wf q37 (.inl jb)
    have aAe:=hK8.get vg.wf ams (.inr jb)
    have aAf:=hK8.get vg.wf amu (.inr jb)
    have aAg:=hK8.get vg.wf aAd (.inr jb)
    simp(disch:=try exact jz)only[go_sem,W4,BR,JV,G9,uT,aC]
    refine aH (λLW=>?_) (λLW=>?_)
    .have aCy:=Fr.refl uZ.wf
     have amv:lenV (.c L1)=some (jN m):=hlL
     simp(disch:=try exact jz)only[go_sem,W4,BR,JV,G9,uT,ay aAe,amv,hLk]
     refine bI.st (Fr σ8) (fr) λFC=>?_
     have aCz:=FC.le
     refine bI.mono (Q:=λex tm σ4=>ex=.exit 8/\r8 tm 0=.c (.ptr sb 0)/\r8 tm 3=.c (.ptr J.aj 0)/\r8 tm 5=.c (.sl (J.aj+1) 0 g.e.length (.ex g.e.length))/\r8 tm 11=.c (.ptr J'.aj 0)/\r8 tm 12=.c (.sl b12 0 m (.ex m))/\r8 tm 13=.c (.sl b13 0 m (.ex m))/\r8 tm 14=jN i/\r8 tm 15=.c (.sl σ8.aj 0 m (.ex m))/\r8 tm 81=.c (.sl b5 o5 g.d.length c5)/\r8 tm 82=jN g.d.length/\r8 tm 83=jN j
       /\r8 tm 98=.c lv/\r8 tm 99=jN g.e.length/\r8 tm 100=jN i/\σ4.h σ8.aj=some ⟨dh m (JZ g x j i),none⟩/\Fr σ8 σ4/\σ8.aj+1<=σ4.aj)
      (aG (λq tm σ4=>∃k,q=m-k/\k<=m/\r8 tm 0=.c (.ptr sb 0)/\r8 tm 3=.c (.ptr J.aj 0)/\r8 tm 5=.c (.sl (J.aj+1) 0 g.e.length (.ex g.e.length))/\r8 tm 11=.c (.ptr J'.aj 0)/\r8 tm 12=.c (.sl b12 0 m (.ex m))/\r8 tm 13=.c (.sl b13 0 m (.ex m))/\r8 tm 14=jN i/\r8 tm 15=.c (.sl σ8.aj 0 m (.ex m))/\r8 tm 81=.c (.sl b5 o5 g.d.length c5)/\r8 tm 82=jN g.d.length/\r8 tm 83=jN j
       /\r8 tm 98=.c lv/\r8 tm 99=jN g.e.length/\r8 tm 100=jN i/\r8 tm 107=.c L1/\r8 tm 108=jN m/\r8 tm 109=jN k/\σ4.h σ8.aj=some ⟨dh m (λk'=>if k'<k then JZ g x j i k' else 0),none⟩/\Fr σ8 σ4/\σ8.aj+1<=σ4.aj) m ?_ ?_) ?_
     .refine⟨0,jb,jb,?_⟩
      simp(disch:=try exact jz)only[go_sem,W4,BR,JV,G9,uT,am]
      exact⟨by rw[zK],FC,jp⟩
     .rintro q tm σ4 ⟨k,rfl,hk,t0,t3,t5,t11,t12,t13,t14,t15,BR,t82,t83,JV,G9,uT,t107,acO,t109,TQ,hf4,hn4⟩
      have qM:=hf4.le
      simp(disch:=try exact jz)only[go_sem,W4,BR,JV,G9,uT,acO,aC]
      refine aH (λhltk=>?_) (λhltk=>?_)
      .obtain⟨b6,o6,c6,e6,-,bV⟩:=aZ.pos hL jb
       have bV:=(uZ.trans hf4).ld hW (bV k jb)
       obtain⟨e,c,He,he,hc⟩:=JX k hltk
       unfold Oh at bV
       rw[He]at bV
       rw[hm]at e6
       have amw:=hf4.get uZ.wf aAg
       have ET:=Fr.refl hf4.wf
       have hst:=uO m k (JZ g x j i)
       have hgs:JZ g x j i k=if e=i then NR g x e c else 0:=by unfold JZ;rw[He];rfl
       have a3:V.c (.sl b6 o6 m c6)=V.c L1:=by rw[e6]
       have hsl:(λk=>NR g x (BP (ix (ix g.d j).l k)).1 (BP (ix (ix g.d j).l k)).2) k=NR g x e c:=by dsimp only;rw[He];rfl
       rw[e6]at t107
       have aDh:=hf4.wf.lt amw
       by_cases hei:e=i
       .rw[hgs,ab hei,hei]at hst
        have hdE:decide ((Int.ofNat e:Int)=Int.ofNat i)=true:=aw (by rw[hei])
        simp(disch:=try exact jz)only[go_sem,W4,BR,JV,G9,uT,acO,bV,hei,amw,ay amw,hsl,TQ,aJ TQ,hst]
        refine⟨m-(k+1),jb,k+1,rfl,jb,?_⟩
        and_intros<;>try(first|rfl|omega|exact a3|exact fr)
       .have hne:¬(Int.ofNat e:Int)=Int.ofNat i:=λh=>hei (Int.ofNat.inj h)
        have hsk:=amq (m:=m) (k:=k) (F:=JZ g x j i) (by rw[hgs,ae hei])
        simp(disch:=try exact jz)only[go_sem,W4,BR,JV,G9,uT,acO,bV,hne]
        rw[hsk]at TQ
        refine⟨m-(k+1),jb,k+1,rfl,jb,?_⟩
        and_intros<;>try(first|rfl|omega|exact a3|exact TQ|exact fr)
      .have:k=m:=jb
       subst this
       refine WP ?_
       rw[Ar]at TQ
       exact⟨t0,t3,t5,t11,t12,t13,t14,t15,BR,t82,t83,JV,G9,uT,TQ,hf4,hn4⟩
     .rintro _ tm σ4 ⟨rfl,t0,t3,t5,t11,t12,t13,t14,t15,BR,t82,t83,JV,G9,uT,TQ,hf4,hn4⟩
      have qM:=hf4.le
      have aAh:=hf4.get uZ.wf aAe
      have aAi:=hf4.get uZ.wf aAf
      have hZ:∀k,k<m->(0<=Ve g x j k/\0<=JZ g x j i k)/\Zk D 1 (Ve g x j k)/\Zk D 1 (JZ g x j i k):=λk hk=>by
       obtain⟨e,c,h1,h2,h3⟩:=JX k hk;obtain⟨h4,h5⟩:=hSN.q e h2 c h3;obtain⟨h6,h7⟩:=hN.gs hlt i (BP (ix (ix g.d j).l k)) (cP.mpr ⟨_,l7 jb,rfl⟩);refine⟨⟨?_,h7⟩,?_,h6⟩
       .unfold Ve;rw[h1];exact h4
       .unfold Ve;rw[h1];exact h5
      simp(disch:=try exact jz)only[go_sem,W4,BR,JV,G9,uT,ay aAh]
      refine(amj (W:=dW g j) (q:=Ve g x j) (r:=JZ g x j i) (p:=λ_=>True) (p':=λ_=>True) hf4.wf rfl (by have:=hwf.1;have:=hwf.2;omega) (bK (G:=λk=>bY (Ve g x j k)) _ aAi rfl trivial (λ_=>rfl) jj λ_ _=>rfl) (bK (G:=λk=>bY (JZ g x j i k)) _ TQ rfl trivial (λ_=>rfl) jj λ_ _=>rfl) jb (λk hk=>(hZ k hk).1) hw0 hD hwz λk hk=>(hZ k hk).2).mono ?_
      rintro _ σ5 ⟨⟨rb,rfl,hrb,aCp,aCq⟩,hf5⟩
      have eX:=hf4.trans hf5
      have vS:=hf5.le
      have hM5:=hM8.fr eX jb
      have hK5:=hK8.trans eX.km
      have XL:=hf5.get hf4.wf TQ
      have aAj:=hf5.get hf4.wf aAh
      rw[amd j i]at hM5
      have hu1:∀k,k<=m->Zk D k (aF k (JZ g x j i)):=λk hk=>Zk.Bf λa ha=>(hZ a jb).2.2
      have hu2:∀k,k<=m->Zk D 1000 (aF k (TU (dW g j) (Ve g x j) (JZ g x j i))):=λk hk=>by
       rw[OO];unfold qg;split
       .exact(hu1 k hk).mono jb
       .exact Zk.zero.mono (aR _)
      have hu3:∀k,k<m->Zk D 2000 (TU (dW g j) (Ve g x j) (JZ g x j i) k):=λk hk=>by have h1:=hu2 (k+1) jb;have h2:=hu2 k jb;rw[OO]at h1 h2;exact h1.sub h2
      simp(disch:=try exact jz)only[go_sem,W4,BR,JV,G9,uT]
      refine bI.mono (Q:=λex tm σ9=>ex=.exit 10/\r8 tm 0=.c (.ptr sb 0)/\r8 tm 3=.c (.ptr J.aj 0)/\r8 tm 5=.c (.sl (J.aj+1) 0 g.e.length (.ex g.e.length))/\r8 tm 11=.c (.ptr J'.aj 0)/\r8 tm 12=.c (.sl b12 0 m (.ex m))/\r8 tm 13=.c (.sl b13 0 m (.ex m))/\r8 tm 14=jN i/\r8 tm 15=.c (.sl σ8.aj 0 m (.ex m))/\r8 tm 18=.c (.sl rb 0 m (.ex m))/\r8 tm 81=.c (.sl b5 o5 g.d.length c5)/\r8 tm 82=jN g.d.length/\r8 tm 83=jN j/\r8 tm 98=.c lv/\r8 tm 99=jN g.e.length/\r8 tm 100=jN i/\qO σ9.h (J.aj+1) g.e.length (rC (LU g x j i (Vd g x j i m))) bs (J.aj+1+1) σ2.aj/\qy (J.aj+1+1) σ2.aj σ5 σ9)
       (aG (λq tm σ9=>∃k,q=m-k/\k<=m/\r8 tm 0=.c (.ptr sb 0)/\r8 tm 3=.c (.ptr J.aj 0)/\r8 tm 5=.c (.sl (J.aj+1) 0 g.e.length (.ex g.e.length))/\r8 tm 11=.c (.ptr J'.aj 0)/\r8 tm 12=.c (.sl b12 0 m (.ex m))/\r8 tm 13=.c (.sl b13 0 m (.ex m))/\r8 tm 14=jN i/\r8 tm 15=.c (.sl σ8.aj 0 m (.ex m))/\r8 tm 18=.c (.sl rb 0 m (.ex m))/\r8 tm 81=.c (.sl b5 o5 g.d.length c5)/\r8 tm 82=jN g.d.length/\r8 tm 83=jN j/\r8 tm 98=.c lv/\r8 tm 99=jN g.e.length/\r8 tm 100=jN i/\r8 tm 131=.c (.sl rb 0 m (.ex m))/\r8 tm 132=jN m/\r8 tm 133=jN k/\qO σ9.h (J.aj+1) g.e.length (rC (LU g x j i (Vd g x j i k))) bs (J.aj+1+1) σ2.aj/\qy (J.aj+1+1) σ2.aj σ5 σ9) m ?_ ?_) ?_
      .refine⟨0,jb,jb,?_⟩
       simp(disch:=try exact jz)only[go_sem,W4,BR,JV,G9,uT,am]
       exact⟨hM5,(Fr.refl hf5.wf).km⟩
      .rintro q tm σ9 ⟨k,rfl,hk,t0,t3,t5,t11,t12,t13,t14,t15,qV,BR,t82,t83,JV,G9,uT,t131,acM,awG,hM9,hK9⟩
       have hn9:=hK9.le
       simp(disch:=try exact jz)only[go_sem,W4,qV,BR,JV,G9,uT,acM,awG,aC]
       refine aH (λhltk=>?_) (λhltk=>?_)
       .obtain⟨b6,o6,c6,e6,-,bV⟩:=aZ.pos hL jb
        have bV:=(hK9.fr (uZ.trans eX) jb).ld hW (bV k jb)
        obtain⟨e,c,He,he,hc⟩:=JX k hltk
        unfold Oh at bV
        rw[He]at bV
        rw[hm]at e6
        have l1:=Gi bV 1 false jj jj
        have NS:=hK9.get hf5.wf aAj (.inr jb)
        rw[e6]at NS
        have awH:=hK9.get hf5.wf hrb (.inr jb)
        have azN:=Fr.refl hK9.wf
        have m1:=hK9.wf.cZ l1
        have m2:=hK9.wf.lt NS
        have m3:=hK9.wf.lt awH
        have zM:Sz (LU g x j i (Vd g x j i k) e i):=(hN.D' hlt LW (hN.U hlt i k e)).sz hD jb
        have zS:Sz (TU (dW g j) (Ve g x j) (JZ g x j i) k):=(hu3 k hltk).sz hD jb
        have hst:=aq1 (x:=x) (i:=i) (show k<(ix g.d j).l.length by omega) He
        simp(disch:=try exact jz)only[go_sem,W4,qV,BR,JV,G9,uT,acM,awG,awH,ay awH,NS,ay NS,l1]
        refine aB.st (Fr σ9) (fr) λhFa=>?_
        have aCA:=hFa.le
        refine(adr hFa.wf (hM9.fr hFa jb) hn jb he LW zM zS).mono ?_
        rintro _ σb ⟨hMb,hfb⟩
        rw[hst]at hMb
        have hKb:=(hK9.trans hFa.km).trans (hMb.km hfb he)
        simp(disch:=try exact jz)only[go_sem,W4,qV,BR,JV,G9,uT,acM,awG]
        refine⟨m-(k+1),jb,k+1,rfl,jb,?_⟩
        and_intros<;>try(first|rfl|omega|exact br V.c e6.symm|exact hMb|exact hKb)
       .have:k=m:=jb
        subst this
        simp(disch:=try exact jz)only[go_sem,am]
        exact⟨t0,t3,t5,t11,t12,t13,t14,t15,qV,BR,t82,t83,JV,G9,uT,hM9,hK9⟩
      .rintro _ tm σ9 ⟨rfl,t0,t3,t5,t11,t12,t13,t14,t15,qV,BR,t82,t83,JV,G9,uT,hM9,hK9⟩
       have hn9:=hK9.le
       have hf9:=hK9.fr (uZ.trans eX) (show J.aj<=J.aj+1+1 by omega)
       have NS:=hK9.get hf5.wf aAj (.inr jb)
       have awI:=hK5.trans hK9
       by_cases hm0:m=0
       .have hMe:qO σ9.h (J.aj+1) g.e.length (rC (LU g x j (i+1) λ_=>0)) bs (J.aj+1+1) σ2.aj:=by rw[<-RG,<-aaA (aAa jb),hm];exact hM9
        have hz:(Int.ofNat 0<Int.ofNat m)=False:=by rw[hm0];exact propext ⟨λh=>absurd h jj,False.elim⟩
        simp(disch:=try exact jz)only[go_sem,W4,qV,BR,JV,G9,uT,ay NS,amv,hLk,hz]
        refine⟨g.e.length-(i+1),jb,i+1,rfl,jb,?_⟩
        and_intros<;>try(first|rfl|omega|exact hMe|exact awI)
       .obtain⟨e,c,He,he,hc⟩:=JX 0 jb
        have hz:(Int.ofNat 0<Int.ofNat m)=True:=eq_true (by show(0:Int)<(m:Int);omega)
        have hd:=awF (g:=g) (j:=j) jb He
        have hL9:=aZ.fr hW hf9 hL
        have azN:=Fr.refl hK9.wf
        simp(disch:=try exact jz)only[go_sem,W4,qV,BR,JV,G9,uT,ay NS,amv,hLk,hz]
        refine(aaD hK9.wf (hs'.fr hf9) hL9 rfl rfl rfl jb He he hc hn (hSN.k e he)).mono ?_
        rintro _ σa ⟨rfl,hfa⟩
        have aCB:=hfa.get hK9.wf NS
        have hfA:=hf9.trans hfa
        have aCA:=hfa.le
        rcases hN.A.h e he c hc with hh|⟨hh,hh1,hh2⟩
        .have hh:apH g e c=.negSucc 0:=hh
         have hMe:qO σa.h (J.aj+1) g.e.length (rC (LU g x j (i+1) λ_=>0)) bs (J.aj+1+1) σ2.aj:=by rw[<-RG,<-aaA (hd.trans hh),hm];exact hM9.fr hfa jb
         simp(disch:=try exact jz)only[go_sem,W4,qV,BR,JV,G9,uT,hh]
         refine⟨g.e.length-(i+1),jb,i+1,rfl,jb,?_⟩
         and_intros<;>try(first|rfl|omega|exact hMe|exact awI.trans hfa.km)
        .have hh1:apH g e c=.ofNat hh:=hh1
         simp(disch:=try exact jz)only[go_sem,W4,qV,BR,JV,G9,uT,hh1,qZ,ay aCB,hLk]
         refine(aaD hfa.wf (hs'.fr hfA) (aZ.fr hW hfA hL) rfl rfl rfl jb He he hc hn (hSN.k e he)).mono ?_
         rintro _ σb ⟨rfl,hfb⟩
         have hFb:=hfa.trans hfb
         have qob:=hFb.get hK9.wf (hK9.get hf5.wf XL (.inr jb))
         have aCC:=hFb.get hK9.wf (hK9.get hf5.wf hrb (.inr jb))
         simp(disch:=try exact jz)only[go_sem,W4,qV,BR,JV,G9,uT,hh1]
         refine(as3 (p:=λ_=>True) hfb.wf (bK (G:=λk=>bY (JZ g x j i k)) _ qob rfl trivial (λ_=>rfl) jj λ_ _=>rfl) jb (λk hk=>(hZ k hk).2.2.sz hD jb) λk hk=>(hu1 k hk).sz hD jb).mono ?_
         rintro _ σc ⟨rfl,hfc⟩
         have aCD:=hfc.get hfb.wf aCC
         simp(disch:=try exact jz)only[go_sem,W4,qV,BR,JV,G9,uT,hh1]
         refine(as3 (p:=λ_=>True) hfc.wf (bK (G:=λk=>bY (TU (dW g j) (Ve g x j) (JZ g x j i) k)) _ aCD rfl trivial (λ_=>rfl) jj λ_ _=>rfl) jb (λk hk=>(hu3 k hk).sz hD jb) λk hk=>(hu2 k hk).sz hD jb).mono ?_
         rintro _ σd ⟨rfl,hfd⟩
         have hFd:=(hFb.trans hfc).trans hfd
         have aD3:=hFd.le
         have z1:Sz (aF m (JZ g x j i)):=(hu1 m jp).sz hD jb
         have z2:Sz (aF m (TU (dW g j) (Ve g x j) (JZ g x j i))):=(hu2 m jp).sz hD jb
         have z3:Sz (aF m (JZ g x j i)-aF m (TU (dW g j) (Ve g x j) (JZ g x j i))):=((hu1 m jp).sub (hu2 m jp)).sz hD jb
         have zM:Sz (LU g x j i (Vd g x j i m) hh i):=(hN.D' hlt LW (hN.U hlt i m hh)).sz hD jb
         have hst:=aq2 (x:=x) (t:=j) (i:=i) (hh:=hh) (hd.trans hh1)
         rw[hm]at hst
         simp(disch:=try exact jz)only[go_sem,W4,qV,BR,JV,G9,uT,hh1]
         refine(adr hfd.wf (hM9.fr hFd jb) hn jb hh2 LW zM z3).mono ?_
         rintro _ σe ⟨hMe,hfe⟩
         rw[hst,RG]at hMe
         have hKe:=(awI.trans hFd.km).trans (hMe.km hfe hh2)
         simp(disch:=try exact jz)only[go_sem,W4,qV,BR,JV,G9,uT]
         refine⟨g.e.length-(i+1),jb,i+1,rfl,jb,?_⟩
         and_intros<;>try(first|rfl|omega|exact hMe|exact hKe)
    .have:i=g.e.length:=jb
     subst this
     simp(disch:=try exact jz)only[go_sem,am]
     exact⟨t0,t3,t5,BR,t82,t83,hM8,hK8⟩
   .rintro _ tm σ8 ⟨rfl,t0,t3,t5,BR,t82,t83,hM8,hK8⟩
    have uZ:=hK8.fr al7 (show J.aj<=J.aj+1+1 by omega)
    have hn8:=hK8.le
    have q38:=hK8.get vg.wf q37 (.inl jb)
    have hM8:qO σ8.h (J.aj+1) g.e.length (rC (mgP g x (j+1))) bs (J.aj+1+1) σ2.aj:=⟨hM8.o,hM8.r.congr λi _ c hc=>by unfold rC;rw[aqZ hlt hc],hM8.b,hM8.l⟩
    simp(disch:=try exact jz)only[go_sem,W4,BR]
    exact⟨g.d.length-(j+1),jb,j+1,rfl,jb,rfl,q38,hM8,uZ,jb⟩
  .have:j=g.d.length:=jb
   subst this
   simp(disch:=try exact jz)only[go_sem,t5]
   exact⟨⟨_,bs,σ2.aj,rfl,jb,hnx,hM.o,hM.r.congr λi _ c hc=>by unfold rC;rw[aq0],hM.b,hM.l⟩,hf⟩
end Go.Proofs.Xe
