import Derived.Test.YtchhojplceoifaaGreatDoorYf34
set_option linter.all false
set_option maxHeartbeats 8000000
namespace Go.Proofs.Xe
open Go.RowKit Go.Proofs.Ins
def aki.at{p:Nat->Prop}{h:Tr Bk}{bv:B}{el:List vP}{L:List fZ}(hb:aki p h bv el L){i c:Nat}(hi:i<el.length)(hc:c<kE el i):∃b o cc b2 o2 cc2,bv=.sl b o el.length cc/\ld h b (o+i*1) 1 false=some (.c (.sl b2 o2 (kE el i) cc2))/\ld h b2 (o2+c*1) 1 false=some (.c (.bool (L.contains (i,c)))):=by obtain⟨T,h1,h2⟩:=hb;obtain⟨b,o,cc,e,-,hld⟩:=h1.pos jb;obtain⟨b2,o2,cc2,e2,-,yY⟩:=(h2 i hi).pos (by unfold kE at hc;omega);have h3:=(sU (hld i hi)).1;rw[e2]at h3;exact⟨b,o,cc,b2,o2,cc2,e,h3,(sU (yY c hc)).1⟩
theorem qg.grow{σ σ':St}{mb n lo hi:Nat}{C:Nat->Nat->List B}{bs:Nat->Nat}(hM:qg σ'.h mb n C bs lo hi){σ0:St}(h0:Fr σ0 σ){j:Nat}(hf:aU [bs j] σ σ')(hj:j<n)(hb:σ0.aj<=mb):Fr σ0 σ':=
 hf.to h0 λb hbb=>by rw[dt]at hbb;subst hbb;have:=(hM.r.r j hj).2.1;have:=hM.b;omega
structure pG(lo hi:Nat)(σ σ':St):Prop where
 le:σ.aj<=σ'.aj
 wf:WF σ'
 old:∀b,b<σ.aj->b<lo\/hi<=b->σ'.h b=σ.h b
section
variable {lo hi:Nat} {σ σ' Ou : St}
def Fr.km(h:Fr σ σ'):pG lo hi σ σ':=⟨h.le,h.wf,λb hb _=>h.old b hb⟩
def pG.trans(h:pG lo hi σ σ')(h':pG lo hi σ' Ou):pG lo hi σ Ou:=⟨ap h.le h'.le,h'.wf,λb hb h2=>(h'.old b (aM hb h.le) h2).trans (h.old b hb h2)⟩
def pG.get(h:pG lo hi σ σ')(hW:WF σ){b:Nat}{k:Bk}(hb:σ.h b=some k)(h2:b<lo\/hi<=b):σ'.h b=some k:=by rw[h.old b (hW.lt hb) h2];exact hb
theorem pG.fr{σ0:St}(h0:Fr σ0 σ)(h:pG lo hi σ σ')(hl:σ0.aj<=lo):Fr σ0 σ':=⟨ap h0.le h.le,h.wf,λb hb=>(h.old b (aM hb h0.le) (.inl jb)).trans (h0.old b hb)⟩
def qg.km{mb n:Nat}{C:Nat->Nat->List B}{bs:Nat->Nat}(hM:qg σ'.h mb n C bs lo hi){j:Nat}(hf:aU [bs j] σ σ')(hj:j<n):pG lo hi σ σ':=⟨hf.le,hf.wf,λb hb h2=>hf.old b hb λhm=>by rw[dt]at hm;subst hm;have:=hM.r.r j hj;omega⟩
end
def akJ{m k:Nat}{F:Nat->Rat}(h:F k=0):cZ m (λi=>if i<k then F i else 0)=cZ m λi=>if i<k+1 then F i else 0:=dS λi _=>by
 by_cases e:i=k
 .subst e;rw[ab jb,ae jb,h]
 .by_cases e2:i<k
  .rw[ae e2,ae jb]
  .rw[ab e2,ab jb]
def aun{g:fC}{j e c:Nat}(h0:0<(ix g.d j).l.length)(FU:ix (ix g.d j).l 0=⟨.ofNat e,.ofNat c⟩):Ro (bI g) (dW g j,dL g j)=apH g e c:=by
 unfold Ro dL;cases hl:(ix g.d j).l with
 |nil=>rw[hl]at h0;simp at h0
 |cons a t=>
  rw[hl]at FU
  have FU:a=⟨.ofNat e,.ofNat c⟩:=FU
  rw[FU];rfl
def axR{g:fC}{j:Nat}(h0:(ix g.d j).l.length=0):Ro (bI g) (dW g j,dL g j)=-1:=by unfold Ro dL;rw[gH.mp h0];rfl
set_option maxRecDepth 10000 in
def agu{σ:St}(hW:WF σ){sb:Nat}{g:fC}{x:Nat->Rat}(hs:FV (Lt σ.aj) σ.h sb g){p:Nat->Prop}{Dv Sv:B}(hDv:dQ p σ.h Dv g.e.length (kE g.e) (Ns g x))(hSv:dQ p σ.h Sv g.e.length (kE g.e) (LX g x)){D:Nat}(hN:Wq D g x):
  aC EN 55 [.c (.ptr sb 0),.agg [Dv,Sv]] σ λr σ'=>(∃mb bs hi,r=.c (.sl mb 0 g.e.length (.ex g.e.length))/\σ.aj<=mb/\hi<=σ'.aj/\qg σ'.h mb g.e.length (rC (gM g.e.length (bI g) x)) bs (mb+1) hi)/\Fr σ σ':=by
 refine aO (jR.o _ _) jR.h ?_
 unfold jR
 dsimp only
 have hs':=hs
 obtain⟨⟨ev,dvv,lv,bv,hsb,hg,⟨R,P,hL1,hL2⟩,hB⟩,hsl⟩:=hs
 have hSN:=hN.A.s
 have hn:=hSN.n
 have hnd:=hSN.d
 have hD:=hSN.hD
 have hu:=akq
 have hlk:=hL1.kn
 have hll:=hL1.len
 have hlE:=hg.e.len
 have hlD:=hg.d.len
 have hek:=hg.e.kn
 have hdk:=hg.d.kn
 have k1:=hDv.kn
 have k2:=hSv.kn
 have hsl:sb<σ.aj:=hsl
 have hFr:=Fr.refl hW
 simp(disch:=try exact jz) only[go_sem,k1,k2,au hsb,hll,hlk]
 refine aC.st (Fr σ) (fr) λhF=>?_
 refine(Zl hF.wf hn).mono ?_
 rintro _ σ2 ⟨⟨bs,rfl,hM⟩,hf2⟩
 have hF2:=hF.trans hf2
 have aue:=hF2.get hW hsb
 have q3:σ2.h σ.aj=some ⟨[Dv,Sv],none⟩:=hf2.get hF.wf (aA _ _ _)
 have hle2:σ.aj+1<=σ2.aj:=hf2.le
 have hlo2:=hM.l
 have hlo2:σ.aj+1+1<=σ2.aj:=hlo2
 have hM:qg σ2.h (σ.aj+1) g.e.length (rC λ_ _=>0) bs (σ.aj+1+1) σ2.aj:=hM
 rw[<-akr (g:=g) (x:=x)]at hM
 simp(disch:=try exact jz) only[go_sem,au aue,hlE,hek]
 refine bM.mono (Q:=λex tm σ'=>ex=.exit 0/\Tr.ah tm 0=.c (.ptr sb 0)/\Tr.ah tm 3=.c (.ptr σ.aj 0)/\Tr.ah tm 5=.c (.sl (σ.aj+1) 0 g.e.length (.ex g.e.length))/\σ'.h σ.aj=some ⟨[Dv,Sv],none⟩/\qg σ'.h (σ.aj+1) g.e.length (rC (RH g x g.e.length 0)) bs (σ.aj+1+1) σ2.aj/\Fr σ σ'/\σ2.aj<=σ'.aj)
  (aF (λq tm σ'=>∃i,q=g.e.length-i/\i<=g.e.length/\Tr.ah tm 0=.c (.ptr sb 0)/\Tr.ah tm 3=.c (.ptr σ.aj 0)/\Tr.ah tm 5=.c (.sl (σ.aj+1) 0 g.e.length (.ex g.e.length))/\Tr.ah tm 31=.c ev/\Tr.ah tm 32=jN g.e.length/\Tr.ah tm 33=jN i/\σ'.h σ.aj=some ⟨[Dv,Sv],none⟩/\qg σ'.h (σ.aj+1) g.e.length (rC (RH g x i 0)) bs (σ.aj+1+1) σ2.aj/\Fr σ σ'/\σ2.aj<=σ'.aj) g.e.length ?_ ?_) ?_
 .refine⟨0,jb,jb,?_⟩
  simp(disch:=try exact jz) only[go_sem,am]
  exact⟨q3,hM,hF2,jp⟩
 .rintro q tm σ' ⟨i,rfl,hi,t0,t3,t5,t31,t32,t33,q3,hM,hf,hnx⟩
  have hle:=hf.le
  simp(disch:=try exact jz) only[go_sem,t0,t3,t5,t31,t32,t33,aG]
  refine aH (λhlt=>?_) (λhlt=>?_)
  .obtain⟨b5,o5,c5,rfl,C1,A1,bf,-,hC,hA1⟩:=hg.e.at hlt
   have bf:=hf.ld hW bf
   have LM:=aX.kn hC
   have hAk:=hA1.kn
   have Yv:=aX.len hC
   have hkk:=hSN.k i hlt
   have mJ:=Fr.refl hf.wf
   simp(disch:=try exact jz) only[go_sem,t0,t3,t5,t31,t32,t33,bf,LM,hAk,Yv]
   refine bM.st (Fr σ') (fr) λgy=>?_
   have uU:=gy.le
   refine bM.mono (Q:=λex tm σ4=>ex=.exit 2/\Tr.ah tm 0=.c (.ptr sb 0)/\Tr.ah tm 3=.c (.ptr σ.aj 0)/\Tr.ah tm 5=.c (.sl (σ.aj+1) 0 g.e.length (.ex g.e.length))/\Tr.ah tm 31=.c (.sl b5 o5 g.e.length c5)/\Tr.ah tm 32=jN g.e.length/\Tr.ah tm 33=jN i/\σ4.h σ.aj=some ⟨[Dv,Sv],none⟩/\qg σ4.h (σ.aj+1) g.e.length (rC (RH g x i (kE g.e i))) bs (σ.aj+1+1) σ2.aj/\Fr σ σ4/\σ2.aj<=σ4.aj)
    (aF (λq tm σ4=>∃c,q=kE g.e i-c/\c<=kE g.e i/\Tr.ah tm 0=.c (.ptr sb 0)/\Tr.ah tm 3=.c (.ptr σ.aj 0)/\Tr.ah tm 5=.c (.sl (σ.aj+1) 0 g.e.length (.ex g.e.length))/\Tr.ah tm 6=jN i/\Tr.ah tm 31=.c (.sl b5 o5 g.e.length c5)/\Tr.ah tm 32=jN g.e.length/\Tr.ah tm 33=jN i
     /\Tr.ah tm 39=.c C1/\Tr.ah tm 40=jN (kE g.e i)/\Tr.ah tm 41=jN c/\σ4.h σ.aj=some ⟨[Dv,Sv],none⟩/\qg σ4.h (σ.aj+1) g.e.length (rC (RH g x i c)) bs (σ.aj+1+1) σ2.aj/\Fr σ σ4/\σ2.aj<=σ4.aj) (kE g.e i) ?_ ?_) ?_
   .refine⟨0,jb,jb,?_⟩
    simp(disch:=try exact jz) only[go_sem,t0,t3,t5,t31,t32,t33,am]
    and_intros<;>try(first|rfl|omega|exact q3|exact hM.fr gy jb|exact hf.trans gy)
   .rintro q tm σ4 ⟨c,rfl,hc,t0,t3,t5,t6,t31,t32,t33,t39,t40,t41,Xf,hM4,hf4,hn4⟩
    have pY:=hf4.le
    simp(disch:=try exact jz) only[go_sem,t0,t3,t5,t6,t31,t32,t33,t39,t40,t41,aG]
    refine aH (λLW=>?_) (λLW=>?_)
    .obtain⟨b8,o8,c8,e8,-,oQ⟩:=aX.pos hC (show 0<(ix g.e i).c.length by unfold kE at LW;omega)
     have oQ:=hf4.ld hW (oQ c LW)
     have e8:C1=.sl b8 o8 (kE g.e i) c8:=e8
     rw[e8]at t39
     unfold Xb at oQ
     have FQ:=Fr.refl hf4.wf
     have akK:=hf4.get hW hsb
     have a3:V.c (.sl b8 o8 (kE g.e i) c8)=V.c C1:=by rw[e8]
     rcases hN.A.h i hlt c LW with hh|⟨hh,hh1,hh2⟩
     .have hsk:=Zg (g:=g) (x:=x) (i:=i) (c:=c) (.inr hh)
      rw[hsk]at hM4
      simp(disch:=try exact jz) only[go_sem,t0,t3,t5,t6,t31,t32,t33,t39,t40,t41,oQ,hh]
      refine⟨kE g.e i-(c+1),jb,c+1,rfl,jb,?_⟩
      and_intros<;>try(first|rfl|omega|exact a3|exact Xf|exact fr|exact hM4.fr (σ':=⟨_,σ4.aj+1⟩) fr hn4)
     .obtain⟨bb1,oo1,cc1,bb2,oo2,cc2,eb,abz,Qb⟩:=hB.at hlt LW
      have abz:=hf4.ld hW abz
      have Qb:=hf4.ld hW Qb
      rw[eb]at akK
      cases hcn:(bI g).fJ.contains (i,c)with
      |true=>
       rw[hcn]at Qb
       have hsk:=Zg (g:=g) (x:=x) (i:=i) (c:=c) (.inl hcn)
       rw[hsk]at hM4
       have m1:=hf4.wf.dA abz
       have m2:=hf4.wf.dA Qb
       simp(disch:=try exact jz) only[go_sem,t0,t3,t5,t6,t31,t32,t33,t39,t40,t41,oQ,hh1,qA,au akK,abz,Qb]
       refine⟨kE g.e i-(c+1),jb,c+1,rfl,jb,?_⟩
       and_intros<;>try(first|rfl|omega|exact a3|exact Xf|exact fr|exact hM4.fr (σ':=⟨_,σ4.aj+1⟩) fr hn4)
      |false=>
       rw[hcn]at Qb
       obtain⟨bS,oS,cS,TS,eS,pS,hlS,hSr⟩:=hSv.at hlt
       obtain⟨bS2,oS2,cS2,eS2,pS2,aoX⟩:=aX.at3 hSr LW
       have hlS:=hf4.ld hW hlS
       have aoX:=hf4.ld hW aoX
       rw[eS2]at hlS
       rw[eS]at Xf
       have m1:=hf4.wf.dA abz
       have m2:=hf4.wf.dA Qb
       have m3:=hf4.wf.dA hlS
       have m4:=hf4.wf.dA aoX
       have zM:Sz (RH g x i c hh i):=(hN.A' hlt λ_=>jb).sz hD jb
       have zS:Sz (LX g x i c):=(hN.s i hlt c LW).2.sz hD jb
       have axS:=aoO (g:=g) (x:=x) hcn hh1
       simp(disch:=try exact jz) only[go_sem,t0,t3,t5,t6,t31,t32,t33,t39,t40,t41,oQ,hh1,qA,au akK,abz,Qb,hlS,aoX,Xf,au Xf]
       refine aC.st (Fr σ4) (fr) λkL=>?_
       refine(abZ kL.wf (hM4.fr kL hn4) hn (by have:=kL.le;omega) hh2 hlt zM zS).mono ?_
       rintro _ σ6 ⟨hM6,gV⟩
       rw[axS]at hM6
       have yZ:=gV.le
       have az5:=hM6.grow (hf4.trans kL) gV hh2 jb
       have q36:σ6.h σ.aj=some ⟨[Dv,Sv],none⟩:=by rw[eS];refine gV.get kL.wf ?_ (kL.get hf4.wf Xf);have:=(hM6.r.r hh hh2).2.1;simp;omega
       simp(disch:=try exact jz) only[go_sem,t0,t3,t5,t6,t31,t32,t33,t39,t40,t41]
       have aAN:=kL.le
       refine⟨kE g.e i-(c+1),jb,c+1,rfl,jb,?_⟩
       and_intros<;>try(first|rfl|omega|exact a3|exact q36|exact hM6|exact az5)
    .have:c=kE g.e i:=jb
     subst this
     simp(disch:=try exact jz) only[go_sem,am]
     exact⟨t0,t3,t5,t31,t32,t33,Xf,hM4,hf4,hn4⟩
   .rintro _ tm σ4 ⟨rfl,t0,t3,t5,t31,t32,t33,Xf,hM4,hf4,hn4⟩
    rw[aks]at hM4
    simp(disch:=try exact jz) only[go_sem,t0,t3,t5,t31,t32,t33]
    exact⟨g.e.length-(i+1),jb,i+1,rfl,jb,rfl,Xf,hM4,hf4,hn4⟩
  .have:i=g.e.length:=jb
   subst this
   simp(disch:=try exact jz) only[go_sem,am]
   exact⟨t0,t3,t5,q3,hM,hf,hnx⟩
 rintro _ tm σ3 ⟨rfl,t0,t3,t5,q3,hM,hf3,hn3⟩
 have hM:qg σ3.h (σ.aj+1) g.e.length (rC (mgP g x 0)) bs (σ.aj+1+1) σ2.aj:=⟨hM.o,hM.r.congr λi _ c hc=>by unfold rC;rw[aoP hc],hM.b,hM.l⟩
 have hle3:=hf3.le
 have ako:=hf3.get hW hsb
 simp(disch:=try exact jz) only[go_sem,t0,t3,t5,au ako,hlD,hdk]
 refine aF (λq tm σ'=>∃j,q=g.d.length-j/\j<=g.d.length/\Tr.ah tm 0=.c (.ptr sb 0)/\Tr.ah tm 3=.c (.ptr σ.aj 0)/\Tr.ah tm 5=.c (.sl (σ.aj+1) 0 g.e.length (.ex g.e.length))/\Tr.ah tm 81=.c dvv/\Tr.ah tm 82=jN g.d.length/\Tr.ah tm 83=jN j/\σ'.h σ.aj=some ⟨[Dv,Sv],none⟩/\qg σ'.h (σ.aj+1) g.e.length (rC (mgP g x j)) bs (σ.aj+1+1) σ2.aj/\Fr σ σ'/\σ2.aj<=σ'.aj) g.d.length ?_ ?_
 .refine⟨0,jb,jb,?_⟩
  simp(disch:=try exact jz) only[go_sem,t0,t3,t5,am]
  exact⟨q3,hM,hf3,hn3⟩
 .rintro q tm σ' ⟨j,rfl,hj,t0,t3,t5,Bl,t82,t83,q3,hM,hf,hnx⟩
  have hle:=hf.le
  simp(disch:=try exact jz) only[go_sem,t0,t3,t5,Bl,t82,t83,aG]
  refine aH (λhlt=>?_) (λhlt=>?_)
  .obtain⟨b5,o5,c5,rfl,L1,bf,hL⟩:=hg.d.el hlt
   have bf:=hf.ld hW bf
   have hLk:=aX.kn hL
   have hlL:=aX.len hL
   obtain⟨hlen,Jj⟩:=hSN.l j hlt
   obtain⟨hwf,hw0,hwz⟩:=hSN.w j hlt
   have mJ:=Fr.refl hf.wf
   generalize hm:(ix g.d j).l.length=m at*
   simp(disch:=try exact jz) only[go_sem,t0,t3,t5,Bl,t82,t83,bf,hLk,au q3,k1,k2]
   refine aC.st (Fr σ') (fr) λgy=>?_
   have hf5:=hf.trans gy
   refine(abQ gy.wf (aX.fr hW hf5 hL) (hDv.fr hW hf5) rfl rfl rfl jb (by rw[hm];exact Jj)).mono ?_
   rintro _ σ6 ⟨⟨b12,rfl,Vr,aqG,aAO⟩,gV⟩
   have kL:=gy.trans gV
   have abO:=hf.trans kL
   have yZ:σ'.aj+1<=σ6.aj:=gV.le
   have aqG:σ'.aj+1<=b12:=aqG
   have q11:σ6.h σ'.aj=some ⟨[.bool (ix g.d j).w.n,.str (ix g.d j).w.s,.str (ix g.d j).w.d,L1],none⟩:=gV.get gy.wf (aA _ _ _)
   have q36:=kL.get hf.wf q3
   rw[hm]at Vr⊢
   simp(disch:=try exact jz) only[go_sem,t0,t3,t5,Bl,t82,t83,au q11,hLk,au q36,k1,k2]
   refine(abQ gV.wf (aX.fr hW abO hL) (hSv.fr hW abO) rfl rfl rfl jb (by rw[hm];exact Jj)).mono ?_
   rintro _ σ7 ⟨⟨b13,rfl,abd,aAP,aAQ⟩,pz⟩
   have um:=kL.trans pz
   have akp:=hf.trans um
   have aoM:=pz.le
   have akL:=pz.get gV.wf q11
   have q37:=pz.get gV.wf q36
   have akM:=pz.get gV.wf Vr
   have hM7:=hM.fr um hnx
   have az6:=akp.get hW hsb
   rw[hm]at abd⊢
   have akM:σ7.h b12=some ⟨cZ m (Uc g x j),none⟩:=akM
   rw[akt]at hM7
   simp(disch:=try exact jz) only[go_sem,t0,t3,t5,Bl,t82,t83,au az6,hll,hlk]
   have aBt:σ2.aj<=σ7.aj:=jb
   refine bM.mono (Q:=λex tm σ8=>ex=.exit 6/\Tr.ah tm 0=.c (.ptr sb 0)/\Tr.ah tm 3=.c (.ptr σ.aj 0)/\Tr.ah tm 5=.c (.sl (σ.aj+1) 0 g.e.length (.ex g.e.length))/\Tr.ah tm 81=.c (.sl b5 o5 g.d.length c5)/\Tr.ah tm 82=jN g.d.length/\Tr.ah tm 83=jN j/\qg σ8.h (σ.aj+1) g.e.length (rC (Kw g x j g.e.length λ_=>0)) bs (σ.aj+1+1) σ2.aj/\pG (σ.aj+1+1) σ2.aj σ7 σ8)
    (aF (λq tm σ8=>∃i,q=g.e.length-i/\i<=g.e.length/\Tr.ah tm 0=.c (.ptr sb 0)/\Tr.ah tm 3=.c (.ptr σ.aj 0)/\Tr.ah tm 5=.c (.sl (σ.aj+1) 0 g.e.length (.ex g.e.length))/\Tr.ah tm 11=.c (.ptr σ'.aj 0)/\Tr.ah tm 12=.c (.sl b12 0 m (.ex m))/\Tr.ah tm 13=.c (.sl b13 0 m (.ex m))/\Tr.ah tm 81=.c (.sl b5 o5 g.d.length c5)/\Tr.ah tm 82=jN g.d.length/\Tr.ah tm 83=jN j
     /\Tr.ah tm 98=.c lv/\Tr.ah tm 99=jN g.e.length/\Tr.ah tm 100=jN i/\qg σ8.h (σ.aj+1) g.e.length (rC (Kw g x j i λ_=>0)) bs (σ.aj+1+1) σ2.aj/\pG (σ.aj+1+1) σ2.aj σ7 σ8) g.e.length ?_ ?_) ?_
   .refine⟨0,jb,jb,?_⟩
    simp(disch:=try exact jz) only[go_sem,t0,t3,t5,Bl,t82,t83,am]
    exact⟨hM7,(Fr.refl pz.wf).km⟩
   .rintro q tm σ8 ⟨i,rfl,hi,t0,t3,t5,t11,t12,t13,Bl,t82,t83,H9,FT,uf,hM8,hK8⟩
    have oZ:=hK8.fr akp jb
    have agt:=oZ.le
    have hn8:=hK8.le
    have q38:=hK8.get pz.wf q37 (.inl jb)
    have axT:=hK8.get pz.wf akL (.inr jb)
    have axU:=hK8.get pz.wf akM (.inr jb)
    have axV:=hK8.get pz.wf abd (.inr jb)
    simp(disch:=try exact jz) only[go_sem,t0,t3,t5,t11,t12,t13,Bl,t82,t83,H9,FT,uf,aG]
    refine aH (λKz=>?_) (λKz=>?_)
    .have az7:=Fr.refl oZ.wf
     have akN:lenV (.c L1)=some (jN m):=hlL
     simp(disch:=try exact jz) only[go_sem,t0,t3,t5,t11,t12,t13,Bl,t82,t83,H9,FT,uf,au axT,akN,hLk]
     refine bM.st (Fr σ8) (fr) λEo=>?_
     have az8:=Eo.le
     refine bM.mono (Q:=λex tm σ4=>ex=.exit 8/\Tr.ah tm 0=.c (.ptr sb 0)/\Tr.ah tm 3=.c (.ptr σ.aj 0)/\Tr.ah tm 5=.c (.sl (σ.aj+1) 0 g.e.length (.ex g.e.length))/\Tr.ah tm 11=.c (.ptr σ'.aj 0)/\Tr.ah tm 12=.c (.sl b12 0 m (.ex m))/\Tr.ah tm 13=.c (.sl b13 0 m (.ex m))/\Tr.ah tm 14=jN i/\Tr.ah tm 15=.c (.sl σ8.aj 0 m (.ex m))/\Tr.ah tm 81=.c (.sl b5 o5 g.d.length c5)/\Tr.ah tm 82=jN g.d.length/\Tr.ah tm 83=jN j
       /\Tr.ah tm 98=.c lv/\Tr.ah tm 99=jN g.e.length/\Tr.ah tm 100=jN i/\σ4.h σ8.aj=some ⟨cZ m (Jk g x j i),none⟩/\Fr σ8 σ4/\σ8.aj+1<=σ4.aj)
      (aF (λq tm σ4=>∃k,q=m-k/\k<=m/\Tr.ah tm 0=.c (.ptr sb 0)/\Tr.ah tm 3=.c (.ptr σ.aj 0)/\Tr.ah tm 5=.c (.sl (σ.aj+1) 0 g.e.length (.ex g.e.length))/\Tr.ah tm 11=.c (.ptr σ'.aj 0)/\Tr.ah tm 12=.c (.sl b12 0 m (.ex m))/\Tr.ah tm 13=.c (.sl b13 0 m (.ex m))/\Tr.ah tm 14=jN i/\Tr.ah tm 15=.c (.sl σ8.aj 0 m (.ex m))/\Tr.ah tm 81=.c (.sl b5 o5 g.d.length c5)/\Tr.ah tm 82=jN g.d.length/\Tr.ah tm 83=jN j
       /\Tr.ah tm 98=.c lv/\Tr.ah tm 99=jN g.e.length/\Tr.ah tm 100=jN i/\Tr.ah tm 107=.c L1/\Tr.ah tm 108=jN m/\Tr.ah tm 109=jN k/\σ4.h σ8.aj=some ⟨cZ m (λk'=>if k'<k then Jk g x j i k' else 0),none⟩/\Fr σ8 σ4/\σ8.aj+1<=σ4.aj) m ?_ ?_) ?_
     .refine⟨0,jb,jb,?_⟩
      simp(disch:=try exact jz) only[go_sem,t0,t3,t5,t11,t12,t13,Bl,t82,t83,H9,FT,uf,am]
      exact⟨by rw[yP],Eo,jp⟩
     .rintro q tm σ4 ⟨k,rfl,hk,t0,t3,t5,t11,t12,t13,t14,t15,Bl,t82,t83,H9,FT,uf,t107,VD,t109,Ry,hf4,hn4⟩
      have pY:=hf4.le
      simp(disch:=try exact jz) only[go_sem,t0,t3,t5,t11,t12,t13,t14,t15,Bl,t82,t83,H9,FT,uf,t107,VD,t109,aG]
      refine aH (λhltk=>?_) (λhltk=>?_)
      .obtain⟨b6,o6,c6,e6,-,bJ⟩:=aX.pos hL jb
       have bJ:=(oZ.trans hf4).ld hW (bJ k jb)
       obtain⟨e,c,FU,he,hc⟩:=Jj k hltk
       unfold MH at bJ
       rw[FU]at bJ
       rw[hm]at e6
       have akO:=hf4.get oZ.wf axV
       have FQ:=Fr.refl hf4.wf
       have hst:=tN m k (Jk g x j i)
       have hgs:Jk g x j i k=if e=i then LX g x e c else 0:=by unfold Jk;rw[FU];rfl
       have a3:V.c (.sl b6 o6 m c6)=V.c L1:=by rw[e6]
       have hsl:(λk=>LX g x (Bj (ix (ix g.d j).l k)).1 (Bj (ix (ix g.d j).l k)).2) k=LX g x e c:=by dsimp only;rw[FU];rfl
       rw[e6]at t107
       have aAR:=hf4.wf.lt akO
       by_cases hei:e=i
       .rw[hgs,ae hei,hei]at hst
        have hdE:decide ((Int.ofNat e:Int)=Int.ofNat i)=true:=be (by rw[hei])
        simp(disch:=try exact jz) only[go_sem,t0,t3,t5,t11,t12,t13,t14,t15,Bl,t82,t83,H9,FT,uf,t107,VD,t109,bJ,hei,akO,au akO,hsl,Ry,aI Ry,hst]
        refine⟨m-(k+1),jb,k+1,rfl,jb,?_⟩
        and_intros<;>try(first|rfl|omega|exact a3|exact fr)
       .have hne:¬(Int.ofNat e:Int)=Int.ofNat i:=λh=>hei (Int.ofNat.inj h)
        have hsk:=akJ (m:=m) (k:=k) (F:=Jk g x j i) (by rw[hgs,ab hei])
        simp(disch:=try exact jz) only[go_sem,t0,t3,t5,t11,t12,t13,t14,t15,Bl,t82,t83,H9,FT,uf,t107,VD,t109,bJ,hne]
        rw[hsk]at Ry
        refine⟨m-(k+1),jb,k+1,rfl,jb,?_⟩
        and_intros<;>try(first|rfl|omega|exact a3|exact Ry|exact fr)
      .have:k=m:=jb
       subst this
       simp(disch:=try exact jz) only[go_sem,am]
       rw[zT]at Ry
       exact⟨t0,t3,t5,t11,t12,t13,t14,t15,Bl,t82,t83,H9,FT,uf,Ry,hf4,hn4⟩
     .rintro _ tm σ4 ⟨rfl,t0,t3,t5,t11,t12,t13,t14,t15,Bl,t82,t83,H9,FT,uf,Ry,hf4,hn4⟩
      have pY:=hf4.le
      have axW:=hf4.get oZ.wf axT
      have axX:=hf4.get oZ.wf axU
      have hZ:∀k,k<m->(0<=Uc g x j k/\0<=Jk g x j i k)/\Zk D 1 (Uc g x j k)/\Zk D 1 (Jk g x j i k):=λk hk=>by
       obtain⟨e,c,h1,h2,h3⟩:=Jj k hk;obtain⟨h4,h5⟩:=hSN.q e h2 c h3;obtain⟨h6,h7⟩:=hN.gs hlt i (Bj (ix (ix g.d j).l k)) (cW.mpr ⟨_,mX jb,rfl⟩);refine⟨⟨?_,h7⟩,?_,h6⟩
       .unfold Uc;rw[h1];exact h4
       .unfold Uc;rw[h1];exact h5
      simp(disch:=try exact jz) only[go_sem,t0,t3,t5,t11,t12,t13,t14,t15,Bl,t82,t83,H9,FT,uf,au axW]
      refine(akE (W:=dW g j) (q:=Uc g x j) (r:=Jk g x j i) (p:=λ_=>True) (p':=λ_=>True) hf4.wf rfl (by have:=hwf.1;have:=hwf.2;omega) (bD (G:=λk=>dO (Uc g x j k)) _ axX rfl trivial (λ_=>rfl) jj λ_ _=>rfl) (bD (G:=λk=>dO (Jk g x j i k)) _ Ry rfl trivial (λ_=>rfl) jj λ_ _=>rfl) jb (λk hk=>(hZ k hk).1) hw0 hD hwz λk hk=>(hZ k hk).2).mono ?_
      rintro _ σ5 ⟨⟨rb,rfl,hrb,azW,azX⟩,hf5⟩
      have gy:=hf4.trans hf5
      have uU:=hf5.le
      have Zn:=hM8.fr gy jb
      have hK5:=hK8.trans gy.km
      have Wj:=hf5.get hf4.wf Ry
      have axY:=hf5.get hf4.wf axW
      rw[akv j i]at Zn
      have hu1:∀k,k<=m->Zk D k (aB k (Jk g x j i)):=λk hk=>Zk.Am λa ha=>(hZ a jb).2.2
      have hu2:∀k,k<=m->Zk D 1000 (aB k (RF (dW g j) (Uc g x j) (Jk g x j i))):=λk hk=>by
       rw[Nv];unfold oP;split
       .exact(hu1 k hk).mono jb
       .exact Zk.zero.mono (br _)
      have hu3:∀k,k<m->Zk D 2000 (RF (dW g j) (Uc g x j) (Jk g x j i) k):=λk hk=>by have h1:=hu2 (k+1) jb;have h2:=hu2 k jb;rw[Nv]at h1 h2;exact h1.sub h2
      simp(disch:=try exact jz) only[go_sem,t0,t3,t5,t11,t12,t13,t14,t15,Bl,t82,t83,H9,FT,uf]
      refine bM.mono (Q:=λex tm σ9=>ex=.exit 10/\Tr.ah tm 0=.c (.ptr sb 0)/\Tr.ah tm 3=.c (.ptr σ.aj 0)/\Tr.ah tm 5=.c (.sl (σ.aj+1) 0 g.e.length (.ex g.e.length))/\Tr.ah tm 11=.c (.ptr σ'.aj 0)/\Tr.ah tm 12=.c (.sl b12 0 m (.ex m))/\Tr.ah tm 13=.c (.sl b13 0 m (.ex m))/\Tr.ah tm 14=jN i/\Tr.ah tm 15=.c (.sl σ8.aj 0 m (.ex m))/\Tr.ah tm 18=.c (.sl rb 0 m (.ex m))/\Tr.ah tm 81=.c (.sl b5 o5 g.d.length c5)/\Tr.ah tm 82=jN g.d.length/\Tr.ah tm 83=jN j/\Tr.ah tm 98=.c lv/\Tr.ah tm 99=jN g.e.length/\Tr.ah tm 100=jN i/\qg σ9.h (σ.aj+1) g.e.length (rC (Kw g x j i (Ub g x j i m))) bs (σ.aj+1+1) σ2.aj/\pG (σ.aj+1+1) σ2.aj σ5 σ9)
       (aF (λq tm σ9=>∃k,q=m-k/\k<=m/\Tr.ah tm 0=.c (.ptr sb 0)/\Tr.ah tm 3=.c (.ptr σ.aj 0)/\Tr.ah tm 5=.c (.sl (σ.aj+1) 0 g.e.length (.ex g.e.length))/\Tr.ah tm 11=.c (.ptr σ'.aj 0)/\Tr.ah tm 12=.c (.sl b12 0 m (.ex m))/\Tr.ah tm 13=.c (.sl b13 0 m (.ex m))/\Tr.ah tm 14=jN i/\Tr.ah tm 15=.c (.sl σ8.aj 0 m (.ex m))/\Tr.ah tm 18=.c (.sl rb 0 m (.ex m))/\Tr.ah tm 81=.c (.sl b5 o5 g.d.length c5)/\Tr.ah tm 82=jN g.d.length/\Tr.ah tm 83=jN j/\Tr.ah tm 98=.c lv/\Tr.ah tm 99=jN g.e.length/\Tr.ah tm 100=jN i/\Tr.ah tm 131=.c (.sl rb 0 m (.ex m))/\Tr.ah tm 132=jN m/\Tr.ah tm 133=jN k/\qg σ9.h (σ.aj+1) g.e.length (rC (Kw g x j i (Ub g x j i k))) bs (σ.aj+1+1) σ2.aj/\pG (σ.aj+1+1) σ2.aj σ5 σ9) m ?_ ?_) ?_
      .refine⟨0,jb,jb,?_⟩
       simp(disch:=try exact jz) only[go_sem,t0,t3,t5,t11,t12,t13,t14,t15,Bl,t82,t83,H9,FT,uf,am]
       exact⟨Zn,(Fr.refl hf5.wf).km⟩
      .rintro q tm σ9 ⟨k,rfl,hk,t0,t3,t5,t11,t12,t13,t14,t15,nP,Bl,t82,t83,H9,FT,uf,t131,auo,aup,hM9,hK9⟩
       have hn9:=hK9.le
       simp(disch:=try exact jz) only[go_sem,t0,t3,t5,t11,t12,t13,t14,t15,nP,Bl,t82,t83,H9,FT,uf,t131,auo,aup,aG]
       refine aH (λhltk=>?_) (λhltk=>?_)
       .obtain⟨b6,o6,c6,e6,-,bJ⟩:=aX.pos hL jb
        have bJ:=(hK9.fr (oZ.trans gy) jb).ld hW (bJ k jb)
        obtain⟨e,c,FU,he,hc⟩:=Jj k hltk
        unfold MH at bJ
        rw[FU]at bJ
        rw[hm]at e6
        have l1:=BM bJ 1 false jj jj
        have LY:=hK9.get hf5.wf axY (.inr jb)
        rw[e6]at LY
        have auq:=hK9.get hf5.wf hrb (.inr jb)
        have axw:=Fr.refl hK9.wf
        have m1:=hK9.wf.dA l1
        have m2:=hK9.wf.lt LY
        have m3:=hK9.wf.lt auq
        have zM:Sz (Kw g x j i (Ub g x j i k) e i):=(hN.D' hlt Kz (hN.U hlt i k e)).sz hD jb
        have zS:Sz (RF (dW g j) (Uc g x j) (Jk g x j i) k):=(hu3 k hltk).sz hD jb
        have hst:=aoS (x:=x) (i:=i) (show k<(ix g.d j).l.length by omega) FU
        simp(disch:=try exact jz) only[go_sem,t0,t3,t5,t11,t12,t13,t14,t15,nP,Bl,t82,t83,H9,FT,uf,t131,auo,aup,auq,au auq,LY,au LY,l1]
        refine aC.st (Fr σ9) (fr) λhFa=>?_
        have az9:=hFa.le
        refine(abZ hFa.wf (hM9.fr hFa jb) hn jb he Kz zM zS).mono ?_
        rintro _ σb ⟨hMb,hfb⟩
        rw[hst]at hMb
        have hKb:=(hK9.trans hFa.km).trans (hMb.km hfb he)
        simp(disch:=try exact jz) only[go_sem,t0,t3,t5,t11,t12,t13,t14,t15,nP,Bl,t82,t83,H9,FT,uf,t131,auo,aup]
        refine⟨m-(k+1),jb,k+1,rfl,jb,?_⟩
        and_intros<;>try(first|rfl|omega|exact bO V.c e6.symm|exact hMb|exact hKb)
       .have:k=m:=jb
        subst this
        simp(disch:=try exact jz) only[go_sem,am]
        exact⟨t0,t3,t5,t11,t12,t13,t14,t15,nP,Bl,t82,t83,H9,FT,uf,hM9,hK9⟩
      .rintro _ tm σ9 ⟨rfl,t0,t3,t5,t11,t12,t13,t14,t15,nP,Bl,t82,t83,H9,FT,uf,hM9,hK9⟩
       have hn9:=hK9.le
       have Jy:=hK9.fr (oZ.trans gy) (show σ.aj<=σ.aj+1+1 by omega)
       have LY:=hK9.get hf5.wf axY (.inr jb)
       have aur:=hK5.trans hK9
       by_cases hm0:m=0
       .have hMe:qg σ9.h (σ.aj+1) g.e.length (rC (Kw g x j (i+1) λ_=>0)) bs (σ.aj+1+1) σ2.aj:=by rw[<-Qo,<-Zh (axR jb),hm];exact hM9
        have hz:(Int.ofNat 0<Int.ofNat m)=False:=by rw[hm0];exact propext ⟨λh=>absurd h jj,False.elim⟩
        simp(disch:=try exact jz) only[go_sem,t0,t3,t5,t11,t12,t13,t14,t15,nP,Bl,t82,t83,H9,FT,uf,au LY,akN,hLk,hz]
        refine⟨g.e.length-(i+1),jb,i+1,rfl,jb,?_⟩
        and_intros<;>try(first|rfl|omega|exact hMe|exact aur)
       .obtain⟨e,c,FU,he,hc⟩:=Jj 0 jb
        have hz:(Int.ofNat 0<Int.ofNat m)=True:=eq_true (by show(0:Int)<(m:Int);omega)
        have hd:=aun (g:=g) (j:=j) jb FU
        have hL9:=aX.fr hW Jy hL
        have axw:=Fr.refl hK9.wf
        simp(disch:=try exact jz) only[go_sem,t0,t3,t5,t11,t12,t13,t14,t15,nP,Bl,t82,t83,H9,FT,uf,au LY,akN,hLk,hz]
        refine(Zm hK9.wf (hs'.fr Jy) hL9 rfl rfl rfl jb FU he hc hn (hSN.k e he)).mono ?_
        rintro _ σa ⟨rfl,hfa⟩
        have aAa:=hfa.get hK9.wf LY
        have hfA:=Jy.trans hfa
        have az9:=hfa.le
        rcases hN.A.h e he c hc with hh|⟨hh,hh1,hh2⟩
        .have hh:apH g e c=.negSucc 0:=hh
         have hMe:qg σa.h (σ.aj+1) g.e.length (rC (Kw g x j (i+1) λ_=>0)) bs (σ.aj+1+1) σ2.aj:=by rw[<-Qo,<-Zh (hd.trans hh),hm];exact hM9.fr hfa jb
         simp(disch:=try exact jz) only[go_sem,t0,t3,t5,t11,t12,t13,t14,t15,nP,Bl,t82,t83,H9,FT,uf,hh]
         refine⟨g.e.length-(i+1),jb,i+1,rfl,jb,?_⟩
         and_intros<;>try(first|rfl|omega|exact hMe|exact aur.trans hfa.km)
        .have hh1:apH g e c=.ofNat hh:=hh1
         simp(disch:=try exact jz) only[go_sem,t0,t3,t5,t11,t12,t13,t14,t15,nP,Bl,t82,t83,H9,FT,uf,hh1,qA,au aAa,hLk]
         refine(Zm hfa.wf (hs'.fr hfA) (aX.fr hW hfA hL) rfl rfl rfl jb FU he hc hn (hSN.k e he)).mono ?_
         rintro _ σb ⟨rfl,hfb⟩
         have hFb:=hfa.trans hfb
         have qob:=hFb.get hK9.wf (hK9.get hf5.wf Wj (.inr jb))
         have aAb:=hFb.get hK9.wf (hK9.get hf5.wf hrb (.inr jb))
         simp(disch:=try exact jz) only[go_sem,t0,t3,t5,t11,t12,t13,t14,t15,nP,Bl,t82,t83,H9,FT,uf,hh1]
         refine(aqF (p:=λ_=>True) hfb.wf (bD (G:=λk=>dO (Jk g x j i k)) _ qob rfl trivial (λ_=>rfl) jj λ_ _=>rfl) jb (λk hk=>(hZ k hk).2.2.sz hD jb) λk hk=>(hu1 k hk).sz hD jb).mono ?_
         rintro _ σc ⟨rfl,hfc⟩
         have aAc:=hfc.get hfb.wf aAb
         simp(disch:=try exact jz) only[go_sem,t0,t3,t5,t11,t12,t13,t14,t15,nP,Bl,t82,t83,H9,FT,uf,hh1]
         refine(aqF (p:=λ_=>True) hfc.wf (bD (G:=λk=>dO (RF (dW g j) (Uc g x j) (Jk g x j i) k)) _ aAc rfl trivial (λ_=>rfl) jj λ_ _=>rfl) jb (λk hk=>(hu3 k hk).sz hD jb) λk hk=>(hu2 k hk).sz hD jb).mono ?_
         rintro _ σd ⟨rfl,hfd⟩
         have hFd:=(hFb.trans hfc).trans hfd
         have aBu:=hFd.le
         have z1:Sz (aB m (Jk g x j i)):=(hu1 m jp).sz hD jb
         have z2:Sz (aB m (RF (dW g j) (Uc g x j) (Jk g x j i))):=(hu2 m jp).sz hD jb
         have z3:Sz (aB m (Jk g x j i)-aB m (RF (dW g j) (Uc g x j) (Jk g x j i))):=((hu1 m jp).sub (hu2 m jp)).sz hD jb
         have zM:Sz (Kw g x j i (Ub g x j i m) hh i):=(hN.D' hlt Kz (hN.U hlt i m hh)).sz hD jb
         have hst:=aoT (x:=x) (t:=j) (i:=i) (hh:=hh) (hd.trans hh1)
         rw[hm]at hst
         simp(disch:=try exact jz) only[go_sem,t0,t3,t5,t11,t12,t13,t14,t15,nP,Bl,t82,t83,H9,FT,uf,hh1]
         refine(abZ hfd.wf (hM9.fr hFd jb) hn jb hh2 Kz zM z3).mono ?_
         rintro _ σe ⟨hMe,hfe⟩
         rw[hst,Qo]at hMe
         have hKe:=(aur.trans hFd.km).trans (hMe.km hfe hh2)
         simp(disch:=try exact jz) only[go_sem,t0,t3,t5,t11,t12,t13,t14,t15,nP,Bl,t82,t83,H9,FT,uf]
         refine⟨g.e.length-(i+1),jb,i+1,rfl,jb,?_⟩
         and_intros<;>try(first|rfl|omega|exact hMe|exact hKe)
    .have:i=g.e.length:=jb
     subst this
     simp(disch:=try exact jz) only[go_sem,am]
     exact⟨t0,t3,t5,Bl,t82,t83,hM8,hK8⟩
   .rintro _ tm σ8 ⟨rfl,t0,t3,t5,Bl,t82,t83,hM8,hK8⟩
    have oZ:=hK8.fr akp (show σ.aj<=σ.aj+1+1 by omega)
    have hn8:=hK8.le
    have q38:=hK8.get pz.wf q37 (.inl jb)
    have hM8:qg σ8.h (σ.aj+1) g.e.length (rC (mgP g x (j+1))) bs (σ.aj+1+1) σ2.aj:=⟨hM8.o,hM8.r.congr λi _ c hc=>by unfold rC;rw[aoQ hlt hc],hM8.b,hM8.l⟩
    simp(disch:=try exact jz) only[go_sem,t0,t3,t5,Bl,t82,t83]
    exact⟨g.d.length-(j+1),jb,j+1,rfl,jb,rfl,q38,hM8,oZ,jb⟩
  .have:j=g.d.length:=jb
   subst this
   simp(disch:=try exact jz) only[go_sem,t5]
   exact⟨⟨_,bs,σ2.aj,rfl,jb,hnx,hM.o,hM.r.congr λi _ c hc=>by unfold rC;rw[aoR],hM.b,hM.l⟩,hf⟩
end Go.Proofs.Xe
