import Derived.Test.YtchhojplceoifaaGreatDoorYd34
set_option linter.all false
set_option maxHeartbeats 8000000
namespace Go.Proofs.Xe
open Go.RowKit Go.Proofs.Ins
def aj6.at{p:Nat->Prop}{h:Tr Bk}{bv:B}{el:List vM}{L:List fK}(hb:aj6 p h bv el L){i c:Nat}(hi:i<el.length)(hc:c<kE el i):∃b o cc b2 o2 cc2,bv=.sl b o el.length cc/\ld h b (o+i*1) 1 false=some (.c (.sl b2 o2 (kE el i) cc2))/\ld h b2 (o2+c*1) 1 false=some (.c (.bool (L.contains (i,c)))):=by obtain⟨T,h1,h2⟩:=hb;obtain⟨b,o,cc,e,-,hld⟩:=h1.pos jb;obtain⟨b2,o2,cc2,e2,-,yR⟩:=(h2 i hi).pos (by unfold kE at hc;omega);have h3:=(sK (hld i hi)).1;rw[e2]at h3;exact⟨b,o,cc,b2,o2,cc2,e,h3,(sK (yR c hc)).1⟩
theorem pW.grow{σ σ':St}{mb n lo hi:Nat}{C:Nat->Nat->List B}{bs:Nat->Nat}(hM:pW σ'.h mb n C bs lo hi){σ0:St}(h0:Fr σ0 σ){j:Nat}(hf:aU [bs j] σ σ')(hj:j<n)(hb:σ0.aj<=mb):Fr σ0 σ':=
 hf.to h0 λb hbb=>by rw[dp]at hbb;subst hbb;have:=(hM.r.r j hj).2.1;have:=hM.b;omega
structure oZ(lo hi:Nat)(σ σ':St):Prop where
 le:σ.aj<=σ'.aj
 wf:WF σ'
 old:∀b,b<σ.aj->b<lo\/hi<=b->σ'.h b=σ.h b
section
variable {lo hi:Nat} {σ σ' Ot : St}
def Fr.km(h:Fr σ σ'):oZ lo hi σ σ':=⟨h.le,h.wf,λb hb _=>h.old b hb⟩
def oZ.trans(h:oZ lo hi σ σ')(h':oZ lo hi σ' Ot):oZ lo hi σ Ot:=⟨ap h.le h'.le,h'.wf,λb hb h2=>(h'.old b (aL hb h.le) h2).trans (h.old b hb h2)⟩
def oZ.get(h:oZ lo hi σ σ')(hW:WF σ){b:Nat}{k:Bk}(hb:σ.h b=some k)(h2:b<lo\/hi<=b):σ'.h b=some k:=by rw[h.old b (hW.lt hb) h2];exact hb
theorem oZ.fr{σ0:St}(h0:Fr σ0 σ)(h:oZ lo hi σ σ')(hl:σ0.aj<=lo):Fr σ0 σ':=⟨ap h0.le h.le,h.wf,λb hb=>(h.old b (aL hb h0.le) (.inl jb)).trans (h0.old b hb)⟩
def pW.km{mb n:Nat}{C:Nat->Nat->List B}{bs:Nat->Nat}(hM:pW σ'.h mb n C bs lo hi){j:Nat}(hf:aU [bs j] σ σ')(hj:j<n):oZ lo hi σ σ':=⟨hf.le,hf.wf,λb hb h2=>hf.old b hb λhm=>by rw[dp]at hm;subst hm;have:=hM.r.r j hj;omega⟩
end
def akz{m k:Nat}{F:Nat->Rat}(h:F k=0):cO m (λi=>if i<k then F i else 0)=cO m λi=>if i<k+1 then F i else 0:=dR λi _=>by
 by_cases e:i=k
 .subst e;rw[ab jb,ae jb,h]
 .by_cases e2:i<k
  .rw[ae e2,ae jb]
  .rw[ab e2,ab jb]
def auc{g:fD}{j e c:Nat}(h0:0<(ix g.d j).l.length)(FN:ix (ix g.d j).l 0=⟨.ofNat e,.ofNat c⟩):Rj (bI g) (dW g j,dL g j)=apH g e c:=by
 unfold Rj dL;cases hl:(ix g.d j).l with
 |nil=>rw[hl]at h0;simp at h0
 |cons a t=>
  rw[hl]at FN
  have FN:a=⟨.ofNat e,.ofNat c⟩:=FN
  rw[FN];rfl
def axE{g:fD}{j:Nat}(h0:(ix g.d j).l.length=0):Rj (bI g) (dW g j,dL g j)=-1:=by unfold Rj dL;rw[gC.mp h0];rfl
set_option maxRecDepth 10000 in
def agh{σ:St}(hW:WF σ){sb:Nat}{g:fD}{x:Nat->Rat}(hs:FP (Lt σ.aj) σ.h sb g){p:Nat->Prop}{Dv Sv:B}(hDv:dO p σ.h Dv g.e.length (kE g.e) (LU g x))(hSv:dO p σ.h Sv g.e.length (kE g.e) (LW g x)){D:Nat}(hN:Wj D g x):
  aC EN 55 [.c (.ptr sb 0),.agg [Dv,Sv]] σ λr σ'=>(∃mb bs hi,r=.c (.sl mb 0 g.e.length (.ex g.e.length))/\σ.aj<=mb/\hi<=σ'.aj/\pW σ'.h mb g.e.length (rC (gM g.e.length (bI g) x)) bs (mb+1) hi)/\Fr σ σ':=by
 refine aP (jR.o _ _) jR.h ?_
 unfold jR
 dsimp only
 have hs':=hs
 obtain⟨⟨ev,dvv,lv,bv,hsb,hg,⟨R,P,hL1,hL2⟩,hB⟩,hsl⟩:=hs
 have ZV:=hN.A.s
 have hn:=ZV.n
 have hnd:=ZV.d
 have hD:=ZV.hD
 have hu:=akf
 have hlk:=hL1.kn
 have hll:=hL1.len
 have hlE:=hg.e.len
 have hlD:=hg.d.len
 have hek:=hg.e.kn
 have hdk:=hg.d.kn
 have k1:=hDv.kn
 have k2:=hSv.kn
 have hsl:sb<σ.aj:=hsl
 have hFr:=Fr.refl hW
 simp(disch:=try exact jz) only[go_sem,z3,k1,k2,au hsb,hll,hlk]
 refine aC.st (Fr σ) (fr) λhF=>?_
 refine(Za hF.wf hn).mono ?_
 rintro _ σ2 ⟨⟨bs,rfl,hM⟩,hf2⟩
 have hF2:=hF.trans hf2
 have atW:=hF2.get hW hsb
 have q3:σ2.h σ.aj=some ⟨[Dv,Sv],none⟩:=hf2.get hF.wf (aA _ _ _)
 have hle2:σ.aj+1<=σ2.aj:=hf2.le
 have hlo2:=hM.l
 have hlo2:σ.aj+1+1<=σ2.aj:=hlo2
 have hM:pW σ2.h (σ.aj+1) g.e.length (rC λ_ _=>0) bs (σ.aj+1+1) σ2.aj:=hM
 rw[<-akg (g:=g) (x:=x)]at hM
 simp(disch:=try exact jz) only[go_sem,z3,au atW,hlE,hek]
 refine bM.mono (Q:=λex tm σ'=>ex=.exit 0/\Tr.ah tm 0=.c (.ptr sb 0)/\Tr.ah tm 3=.c (.ptr σ.aj 0)/\Tr.ah tm 5=.c (.sl (σ.aj+1) 0 g.e.length (.ex g.e.length))/\σ'.h σ.aj=some ⟨[Dv,Sv],none⟩/\pW σ'.h (σ.aj+1) g.e.length (rC (Ry g x g.e.length 0)) bs (σ.aj+1+1) σ2.aj/\Fr σ σ'/\σ2.aj<=σ'.aj)
  (aF (λq tm σ'=>∃i,q=g.e.length-i/\i<=g.e.length/\Tr.ah tm 0=.c (.ptr sb 0)/\Tr.ah tm 3=.c (.ptr σ.aj 0)/\Tr.ah tm 5=.c (.sl (σ.aj+1) 0 g.e.length (.ex g.e.length))/\Tr.ah tm 31=.c ev/\Tr.ah tm 32=.c (.int .i64 (.ofNat g.e.length))/\Tr.ah tm 33=.c (.int .i64 (.ofNat i))/\σ'.h σ.aj=some ⟨[Dv,Sv],none⟩/\pW σ'.h (σ.aj+1) g.e.length (rC (Ry g x i 0)) bs (σ.aj+1+1) σ2.aj/\Fr σ σ'/\σ2.aj<=σ'.aj) g.e.length ?_ ?_) ?_
 .refine⟨0,jb,jb,?_⟩
  simp(disch:=try exact jz) only[go_sem,z3,am]
  exact⟨q3,hM,hF2,jp⟩
 .rintro q tm σ' ⟨i,rfl,hi,t0,t3,t5,t31,t32,t33,q3,hM,hf,hnx⟩
  have hle:=hf.le
  simp(disch:=try exact jz) only[go_sem,z3,t0,t3,t5,t31,t32,t33,aG]
  refine aH (λhlt=>?_) (λhlt=>?_)
  .obtain⟨b5,o5,c5,rfl,C1,A1,bf,-,hC,hA1⟩:=hg.e.at hlt
   have bf:=hf.ld hW bf
   have LK:=aX.kn hC
   have hAk:=hA1.kn
   have hlC:=aX.len hC
   have hkk:=ZV.k i hlt
   have lK:=Fr.refl hf.wf
   simp(disch:=try exact jz) only[go_sem,z3,t0,t3,t5,t31,t32,t33,bf,LK,hAk,hlC]
   refine bM.st (Fr σ') (fr) λfZ=>?_
   have vO:=fZ.le
   refine bM.mono (Q:=λex tm σ4=>ex=.exit 2/\Tr.ah tm 0=.c (.ptr sb 0)/\Tr.ah tm 3=.c (.ptr σ.aj 0)/\Tr.ah tm 5=.c (.sl (σ.aj+1) 0 g.e.length (.ex g.e.length))/\Tr.ah tm 31=.c (.sl b5 o5 g.e.length c5)/\Tr.ah tm 32=.c (.int .i64 (.ofNat g.e.length))/\Tr.ah tm 33=.c (.int .i64 (.ofNat i))/\σ4.h σ.aj=some ⟨[Dv,Sv],none⟩/\pW σ4.h (σ.aj+1) g.e.length (rC (Ry g x i (kE g.e i))) bs (σ.aj+1+1) σ2.aj/\Fr σ σ4/\σ2.aj<=σ4.aj)
    (aF (λq tm σ4=>∃c,q=kE g.e i-c/\c<=kE g.e i/\Tr.ah tm 0=.c (.ptr sb 0)/\Tr.ah tm 3=.c (.ptr σ.aj 0)/\Tr.ah tm 5=.c (.sl (σ.aj+1) 0 g.e.length (.ex g.e.length))/\Tr.ah tm 6=.c (.int .i64 (.ofNat i))/\Tr.ah tm 31=.c (.sl b5 o5 g.e.length c5)/\Tr.ah tm 32=.c (.int .i64 (.ofNat g.e.length))/\Tr.ah tm 33=.c (.int .i64 (.ofNat i))
     /\Tr.ah tm 39=.c C1/\Tr.ah tm 40=.c (.int .i64 (.ofNat (kE g.e i)))/\Tr.ah tm 41=.c (.int .i64 (.ofNat c))/\σ4.h σ.aj=some ⟨[Dv,Sv],none⟩/\pW σ4.h (σ.aj+1) g.e.length (rC (Ry g x i c)) bs (σ.aj+1+1) σ2.aj/\Fr σ σ4/\σ2.aj<=σ4.aj) (kE g.e i) ?_ ?_) ?_
   .refine⟨0,jb,jb,?_⟩
    simp(disch:=try exact jz) only[go_sem,z3,t0,t3,t5,t31,t32,t33,am]
    and_intros<;>try(first|rfl|omega|exact q3|exact hM.fr fZ jb|exact hf.trans fZ)
   .rintro q tm σ4 ⟨c,rfl,hc,t0,t3,t5,t6,t31,t32,t33,t39,t40,t41,q34,hM4,hf4,hn4⟩
    have oM:=hf4.le
    simp(disch:=try exact jz) only[go_sem,z3,t0,t3,t5,t6,t31,t32,t33,t39,t40,t41,aG]
    refine aH (λLV=>?_) (λLV=>?_)
    .obtain⟨b8,o8,c8,e8,-,oP⟩:=aX.pos hC (show 0<(ix g.e i).c.length by unfold kE at LV;omega)
     have oP:=hf4.ld hW (oP c LV)
     have e8:C1=.sl b8 o8 (kE g.e i) c8:=e8
     rw[e8]at t39
     unfold WW at oP
     have FH:=Fr.refl hf4.wf
     have akA:=hf4.get hW hsb
     have a3:V.c (.sl b8 o8 (kE g.e i) c8)=V.c C1:=by rw[e8]
     rcases hN.A.h i hlt c LV with hh|⟨hh,hh1,hh2⟩
     .have hsk:=Y6 (g:=g) (x:=x) (i:=i) (c:=c) (.inr hh)
      rw[hsk]at hM4
      simp(disch:=try exact jz) only[go_sem,z3,t0,t3,t5,t6,t31,t32,t33,t39,t40,t41,oP,hh]
      refine⟨kE g.e i-(c+1),jb,c+1,rfl,jb,?_⟩
      and_intros<;>try(first|rfl|omega|exact a3|exact q34|exact fr|exact hM4.fr (σ':=⟨_,σ4.aj+1⟩) fr hn4)
     .obtain⟨bb1,oo1,cc1,bb2,oo2,cc2,eb,abt,P9⟩:=hB.at hlt LV
      have abt:=hf4.ld hW abt
      have P9:=hf4.ld hW P9
      rw[eb]at akA
      cases hcn:(bI g).fE.contains (i,c)with
      |true=>
       rw[hcn]at P9
       have hsk:=Y6 (g:=g) (x:=x) (i:=i) (c:=c) (.inl hcn)
       rw[hsk]at hM4
       have m1:=hf4.wf.dw abt
       have m2:=hf4.wf.dw P9
       simp(disch:=try exact jz) only[go_sem,z3,t0,t3,t5,t6,t31,t32,t33,t39,t40,t41,oP,hh1,ql,au akA,abt,P9]
       refine⟨kE g.e i-(c+1),jb,c+1,rfl,jb,?_⟩
       and_intros<;>try(first|rfl|omega|exact a3|exact q34|exact fr|exact hM4.fr (σ':=⟨_,σ4.aj+1⟩) fr hn4)
      |false=>
       rw[hcn]at P9
       obtain⟨bS,oS,cS,TS,eS,pS,hlS,hSr⟩:=hSv.at hlt
       obtain⟨bS2,oS2,cS2,eS2,pS2,aoP⟩:=aX.at3 hSr LV
       have hlS:=hf4.ld hW hlS
       have aoP:=hf4.ld hW aoP
       rw[eS2]at hlS
       rw[eS]at q34
       have m1:=hf4.wf.dw abt
       have m2:=hf4.wf.dw P9
       have m3:=hf4.wf.dw hlS
       have m4:=hf4.wf.dw aoP
       have zM:Sz (Ry g x i c hh i):=(hN.A' hlt λ_=>jb).sz hD jb
       have zS:Sz (LW g x i c):=(hN.s i hlt c LV).2.sz hD jb
       have axF:=aoG (g:=g) (x:=x) hcn hh1
       simp(disch:=try exact jz) only[go_sem,z3,t0,t3,t5,t6,t31,t32,t33,t39,t40,t41,oP,hh1,ql,au akA,abt,P9,hlS,aoP,q34,au q34]
       refine aC.st (Fr σ4) (fr) λjI=>?_
       refine(abT jI.wf (hM4.fr jI hn4) hn (by have:=jI.le;omega) hh2 hlt zM zS).mono ?_
       rintro _ σ6 ⟨hM6,gX⟩
       rw[axF]at hM6
       have yS:=gX.le
       have azR:=hM6.grow (hf4.trans jI) gX hh2 jb
       have q36:σ6.h σ.aj=some ⟨[Dv,Sv],none⟩:=by rw[eS];refine gX.get jI.wf ?_ (jI.get hf4.wf q34);have:=(hM6.r.r hh hh2).2.1;simp;omega
       simp(disch:=try exact jz) only[go_sem,z3,t0,t3,t5,t6,t31,t32,t33,t39,t40,t41]
       have aAC:=jI.le
       refine⟨kE g.e i-(c+1),jb,c+1,rfl,jb,?_⟩
       and_intros<;>try(first|rfl|omega|exact a3|exact q36|exact hM6|exact azR)
    .have:c=kE g.e i:=jb
     subst this
     simp(disch:=try exact jz) only[go_sem,z3,am]
     exact⟨t0,t3,t5,t31,t32,t33,q34,hM4,hf4,hn4⟩
   .rintro _ tm σ4 ⟨rfl,t0,t3,t5,t31,t32,t33,q34,hM4,hf4,hn4⟩
    rw[akh]at hM4
    simp(disch:=try exact jz) only[go_sem,z3,t0,t3,t5,t31,t32,t33]
    exact⟨g.e.length-(i+1),jb,i+1,rfl,jb,rfl,q34,hM4,hf4,hn4⟩
  .have:i=g.e.length:=jb
   subst this
   simp(disch:=try exact jz) only[go_sem,z3,am]
   exact⟨t0,t3,t5,q3,hM,hf,hnx⟩
 rintro _ tm σ3 ⟨rfl,t0,t3,t5,q3,hM,hf3,hn3⟩
 have hM:pW σ3.h (σ.aj+1) g.e.length (rC (mgP g x 0)) bs (σ.aj+1+1) σ2.aj:=⟨hM.o,hM.r.congr λi _ c hc=>by unfold rC;rw[aoH hc],hM.b,hM.l⟩
 have hle3:=hf3.le
 have akd:=hf3.get hW hsb
 simp(disch:=try exact jz) only[go_sem,z3,t0,t3,t5,au akd,hlD,hdk]
 refine aF (λq tm σ'=>∃j,q=g.d.length-j/\j<=g.d.length/\Tr.ah tm 0=.c (.ptr sb 0)/\Tr.ah tm 3=.c (.ptr σ.aj 0)/\Tr.ah tm 5=.c (.sl (σ.aj+1) 0 g.e.length (.ex g.e.length))/\Tr.ah tm 81=.c dvv/\Tr.ah tm 82=.c (.int .i64 (.ofNat g.d.length))/\Tr.ah tm 83=.c (.int .i64 (.ofNat j))/\σ'.h σ.aj=some ⟨[Dv,Sv],none⟩/\pW σ'.h (σ.aj+1) g.e.length (rC (mgP g x j)) bs (σ.aj+1+1) σ2.aj/\Fr σ σ'/\σ2.aj<=σ'.aj) g.d.length ?_ ?_
 .refine⟨0,jb,jb,?_⟩
  simp(disch:=try exact jz) only[go_sem,z3,t0,t3,t5,am]
  exact⟨q3,hM,hf3,hn3⟩
 .rintro q tm σ' ⟨j,rfl,hj,t0,t3,t5,Bf,t82,t83,q3,hM,hf,hnx⟩
  have hle:=hf.le
  simp(disch:=try exact jz) only[go_sem,z3,t0,t3,t5,Bf,t82,t83,aG]
  refine aH (λhlt=>?_) (λhlt=>?_)
  .obtain⟨b5,o5,c5,rfl,L1,bf,hL⟩:=hg.d.el hlt
   have bf:=hf.ld hW bf
   have hLk:=aX.kn hL
   have hlL:=aX.len hL
   obtain⟨hlen,Jg⟩:=ZV.l j hlt
   obtain⟨hwf,hw0,hwz⟩:=ZV.w j hlt
   have lK:=Fr.refl hf.wf
   generalize hm:(ix g.d j).l.length=m at*
   simp(disch:=try exact jz) only[go_sem,z3,t0,t3,t5,Bf,t82,t83,bf,hLk,au q3,k1,k2]
   refine aC.st (Fr σ') (fr) λfZ=>?_
   have hf5:=hf.trans fZ
   refine(abK fZ.wf (aX.fr hW hf5 hL) (hDv.fr hW hf5) rfl rfl rfl jb (by rw[hm];exact Jg)).mono ?_
   rintro _ σ6 ⟨⟨b12,rfl,Vp,aqw,aAD⟩,gX⟩
   have jI:=fZ.trans gX
   have abI:=hf.trans jI
   have yS:σ'.aj+1<=σ6.aj:=gX.le
   have aqw:σ'.aj+1<=b12:=aqw
   have q11:σ6.h σ'.aj=some ⟨[.bool (ix g.d j).w.n,.str (ix g.d j).w.s,.str (ix g.d j).w.d,L1],none⟩:=gX.get fZ.wf (aA _ _ _)
   have q36:=jI.get hf.wf q3
   rw[hm]at Vp⊢
   simp(disch:=try exact jz) only[go_sem,z3,t0,t3,t5,Bf,t82,t83,au q11,hLk,au q36,k1,k2]
   refine(abK gX.wf (aX.fr hW abI hL) (hSv.fr hW abI) rfl rfl rfl jb (by rw[hm];exact Jg)).mono ?_
   rintro _ σ7 ⟨⟨b13,rfl,aa4,aAE,aAF⟩,uh⟩
   have oV:=jI.trans uh
   have ake:=hf.trans oV
   have aoE:=uh.le
   have akB:=uh.get gX.wf q11
   have q37:=uh.get gX.wf q36
   have akC:=uh.get gX.wf Vp
   have hM7:=hM.fr oV hnx
   have azS:=ake.get hW hsb
   rw[hm]at aa4⊢
   have akC:σ7.h b12=some ⟨cO m (TY g x j),none⟩:=akC
   rw[aki]at hM7
   simp(disch:=try exact jz) only[go_sem,z3,t0,t3,t5,Bf,t82,t83,au azS,hll,hlk]
   have aBi:σ2.aj<=σ7.aj:=jb
   refine bM.mono (Q:=λex tm σ8=>ex=.exit 6/\Tr.ah tm 0=.c (.ptr sb 0)/\Tr.ah tm 3=.c (.ptr σ.aj 0)/\Tr.ah tm 5=.c (.sl (σ.aj+1) 0 g.e.length (.ex g.e.length))/\Tr.ah tm 81=.c (.sl b5 o5 g.d.length c5)/\Tr.ah tm 82=.c (.int .i64 (.ofNat g.d.length))/\Tr.ah tm 83=.c (.int .i64 (.ofNat j))/\pW σ8.h (σ.aj+1) g.e.length (rC (Ku g x j g.e.length λ_=>0)) bs (σ.aj+1+1) σ2.aj/\oZ (σ.aj+1+1) σ2.aj σ7 σ8)
    (aF (λq tm σ8=>∃i,q=g.e.length-i/\i<=g.e.length/\Tr.ah tm 0=.c (.ptr sb 0)/\Tr.ah tm 3=.c (.ptr σ.aj 0)/\Tr.ah tm 5=.c (.sl (σ.aj+1) 0 g.e.length (.ex g.e.length))/\Tr.ah tm 11=.c (.ptr σ'.aj 0)/\Tr.ah tm 12=.c (.sl b12 0 m (.ex m))/\Tr.ah tm 13=.c (.sl b13 0 m (.ex m))/\Tr.ah tm 81=.c (.sl b5 o5 g.d.length c5)/\Tr.ah tm 82=.c (.int .i64 (.ofNat g.d.length))/\Tr.ah tm 83=.c (.int .i64 (.ofNat j))
     /\Tr.ah tm 98=.c lv/\Tr.ah tm 99=.c (.int .i64 (.ofNat g.e.length))/\Tr.ah tm 100=.c (.int .i64 (.ofNat i))/\pW σ8.h (σ.aj+1) g.e.length (rC (Ku g x j i λ_=>0)) bs (σ.aj+1+1) σ2.aj/\oZ (σ.aj+1+1) σ2.aj σ7 σ8) g.e.length ?_ ?_) ?_
   .refine⟨0,jb,jb,?_⟩
    simp(disch:=try exact jz) only[go_sem,z3,t0,t3,t5,Bf,t82,t83,am]
    exact⟨hM7,(Fr.refl uh.wf).km⟩
   .rintro q tm σ8 ⟨i,rfl,hi,t0,t3,t5,t11,t12,t13,Bf,t82,t83,Hz,FI,tN,hM8,hK8⟩
    have qL:=hK8.fr ake jb
    have aky:=qL.le
    have hn8:=hK8.le
    have q38:=hK8.get uh.wf q37 (.inl jb)
    have axG:=hK8.get uh.wf akB (.inr jb)
    have axH:=hK8.get uh.wf akC (.inr jb)
    have axI:=hK8.get uh.wf aa4 (.inr jb)
    simp(disch:=try exact jz) only[go_sem,z3,t0,t3,t5,t11,t12,t13,Bf,t82,t83,Hz,FI,tN,aG]
    refine aH (λKw=>?_) (λKw=>?_)
    .have azT:=Fr.refl qL.wf
     have akD:lenV (.c L1)=some (.c (.int .i64 (.ofNat m))):=hlL
     simp(disch:=try exact jz) only[go_sem,z3,t0,t3,t5,t11,t12,t13,Bf,t82,t83,Hz,FI,tN,au axG,akD,hLk]
     refine bM.st (Fr σ8) (fr) λEh=>?_
     have azU:=Eh.le
     refine bM.mono (Q:=λex tm σ4=>ex=.exit 8/\Tr.ah tm 0=.c (.ptr sb 0)/\Tr.ah tm 3=.c (.ptr σ.aj 0)/\Tr.ah tm 5=.c (.sl (σ.aj+1) 0 g.e.length (.ex g.e.length))/\Tr.ah tm 11=.c (.ptr σ'.aj 0)/\Tr.ah tm 12=.c (.sl b12 0 m (.ex m))/\Tr.ah tm 13=.c (.sl b13 0 m (.ex m))/\Tr.ah tm 14=.c (.int .i64 (.ofNat i))/\Tr.ah tm 15=.c (.sl σ8.aj 0 m (.ex m))/\Tr.ah tm 81=.c (.sl b5 o5 g.d.length c5)/\Tr.ah tm 82=.c (.int .i64 (.ofNat g.d.length))/\Tr.ah tm 83=.c (.int .i64 (.ofNat j))
       /\Tr.ah tm 98=.c lv/\Tr.ah tm 99=.c (.int .i64 (.ofNat g.e.length))/\Tr.ah tm 100=.c (.int .i64 (.ofNat i))/\σ4.h σ8.aj=some ⟨cO m (Jj g x j i),none⟩/\Fr σ8 σ4/\σ8.aj+1<=σ4.aj)
      (aF (λq tm σ4=>∃k,q=m-k/\k<=m/\Tr.ah tm 0=.c (.ptr sb 0)/\Tr.ah tm 3=.c (.ptr σ.aj 0)/\Tr.ah tm 5=.c (.sl (σ.aj+1) 0 g.e.length (.ex g.e.length))/\Tr.ah tm 11=.c (.ptr σ'.aj 0)/\Tr.ah tm 12=.c (.sl b12 0 m (.ex m))/\Tr.ah tm 13=.c (.sl b13 0 m (.ex m))/\Tr.ah tm 14=.c (.int .i64 (.ofNat i))/\Tr.ah tm 15=.c (.sl σ8.aj 0 m (.ex m))/\Tr.ah tm 81=.c (.sl b5 o5 g.d.length c5)/\Tr.ah tm 82=.c (.int .i64 (.ofNat g.d.length))/\Tr.ah tm 83=.c (.int .i64 (.ofNat j))
       /\Tr.ah tm 98=.c lv/\Tr.ah tm 99=.c (.int .i64 (.ofNat g.e.length))/\Tr.ah tm 100=.c (.int .i64 (.ofNat i))/\Tr.ah tm 107=.c L1/\Tr.ah tm 108=.c (.int .i64 (.ofNat m))/\Tr.ah tm 109=.c (.int .i64 (.ofNat k))/\σ4.h σ8.aj=some ⟨cO m (λk'=>if k'<k then Jj g x j i k' else 0),none⟩/\Fr σ8 σ4/\σ8.aj+1<=σ4.aj) m ?_ ?_) ?_
     .refine⟨0,jb,jb,?_⟩
      simp(disch:=try exact jz) only[go_sem,z3,t0,t3,t5,t11,t12,t13,Bf,t82,t83,Hz,FI,tN,am]
      exact⟨by rw[yK],Eh,jp⟩
     .rintro q tm σ4 ⟨k,rfl,hk,t0,t3,t5,t11,t12,t13,t14,t15,Bf,t82,t83,Hz,FI,tN,t107,VA,t109,Ru,hf4,hn4⟩
      have oM:=hf4.le
      simp(disch:=try exact jz) only[go_sem,z3,t0,t3,t5,t11,t12,t13,t14,t15,Bf,t82,t83,Hz,FI,tN,t107,VA,t109,aG]
      refine aH (λhltk=>?_) (λhltk=>?_)
      .obtain⟨b6,o6,c6,e6,-,bK⟩:=aX.pos hL jb
       have bK:=(qL.trans hf4).ld hW (bK k jb)
       obtain⟨e,c,FN,he,hc⟩:=Jg k hltk
       unfold MJ at bK
       rw[FN]at bK
       rw[hm]at e6
       have akE:=hf4.get qL.wf axI
       have FH:=Fr.refl hf4.wf
       have hst:=tH m k (Jj g x j i)
       have hgs:Jj g x j i k=if e=i then LW g x e c else 0:=by unfold Jj;rw[FN];rfl
       have a3:V.c (.sl b6 o6 m c6)=V.c L1:=by rw[e6]
       have hsl:(λk=>LW g x (Bd (ix (ix g.d j).l k)).1 (Bd (ix (ix g.d j).l k)).2) k=LW g x e c:=by dsimp only;rw[FN];rfl
       rw[e6]at t107
       have aAG:=hf4.wf.lt akE
       by_cases hei:e=i
       .rw[hgs,ae hei,hei]at hst
        have hdE:decide ((Int.ofNat e:Int)=Int.ofNat i)=true:=be (by rw[hei])
        simp(disch:=try exact jz) only[go_sem,z3,t0,t3,t5,t11,t12,t13,t14,t15,Bf,t82,t83,Hz,FI,tN,t107,VA,t109,bK,hei,akE,au akE,hsl,Ru,aI Ru,hst]
        refine⟨m-(k+1),jb,k+1,rfl,jb,?_⟩
        and_intros<;>try(first|rfl|omega|exact a3|exact fr)
       .have hne:¬(Int.ofNat e:Int)=Int.ofNat i:=λh=>hei (Int.ofNat.inj h)
        have hsk:=akz (m:=m) (k:=k) (F:=Jj g x j i) (by rw[hgs,ab hei])
        simp(disch:=try exact jz) only[go_sem,z3,t0,t3,t5,t11,t12,t13,t14,t15,Bf,t82,t83,Hz,FI,tN,t107,VA,t109,bK,hne]
        rw[hsk]at Ru
        refine⟨m-(k+1),jb,k+1,rfl,jb,?_⟩
        and_intros<;>try(first|rfl|omega|exact a3|exact Ru|exact fr)
      .have:k=m:=jb
       subst this
       simp(disch:=try exact jz) only[go_sem,z3,am]
       rw[zJ]at Ru
       exact⟨t0,t3,t5,t11,t12,t13,t14,t15,Bf,t82,t83,Hz,FI,tN,Ru,hf4,hn4⟩
     .rintro _ tm σ4 ⟨rfl,t0,t3,t5,t11,t12,t13,t14,t15,Bf,t82,t83,Hz,FI,tN,Ru,hf4,hn4⟩
      have oM:=hf4.le
      have axJ:=hf4.get qL.wf axG
      have axK:=hf4.get qL.wf axH
      have hZ:∀k,k<m->(0<=TY g x j k/\0<=Jj g x j i k)/\Zk D 1 (TY g x j k)/\Zk D 1 (Jj g x j i k):=λk hk=>by
       obtain⟨e,c,h1,h2,h3⟩:=Jg k hk;obtain⟨h4,h5⟩:=ZV.q e h2 c h3;obtain⟨h6,h7⟩:=hN.gs hlt i (Bd (ix (ix g.d j).l k)) (cU.mpr ⟨_,mP jb,rfl⟩);refine⟨⟨?_,h7⟩,?_,h6⟩
       .unfold TY;rw[h1];exact h4
       .unfold TY;rw[h1];exact h5
      simp(disch:=try exact jz) only[go_sem,z3,t0,t3,t5,t11,t12,t13,t14,t15,Bf,t82,t83,Hz,FI,tN,au axJ]
      refine(akt (W:=dW g j) (q:=TY g x j) (r:=Jj g x j i) (p:=λ_=>True) (p':=λ_=>True) hf4.wf rfl (by have:=hwf.1;have:=hwf.2;omega) (bD (G:=λk=>dY (TY g x j k)) _ axK rfl trivial (λ_=>rfl) jj λ_ _=>rfl) (bD (G:=λk=>dY (Jj g x j i k)) _ Ru rfl trivial (λ_=>rfl) jj λ_ _=>rfl) jb (λk hk=>(hZ k hk).1) hw0 hD hwz λk hk=>(hZ k hk).2).mono ?_
      rintro _ σ5 ⟨⟨rb,rfl,hrb,azJ,azK⟩,hf5⟩
      have fZ:=hf4.trans hf5
      have vO:=hf5.le
      have Zc:=hM8.fr fZ jb
      have hK5:=hK8.trans fZ.km
      have V9:=hf5.get hf4.wf Ru
      have axL:=hf5.get hf4.wf axJ
      rw[akk j i]at Zc
      have hu1:∀k,k<=m->Zk D k (aB k (Jj g x j i)):=λk hk=>Zk.Aj λa ha=>(hZ a jb).2.2
      have hu2:∀k,k<=m->Zk D 1000 (aB k (Rx (dW g j) (TY g x j) (Jj g x j i))):=λk hk=>by
       rw[Nv];unfold oO;split
       .exact(hu1 k hk).mono jb
       .exact Zk.zero.mono (bp _)
      have hu3:∀k,k<m->Zk D 2000 (Rx (dW g j) (TY g x j) (Jj g x j i) k):=λk hk=>by have h1:=hu2 (k+1) jb;have h2:=hu2 k jb;rw[Nv]at h1 h2;exact h1.sub h2
      simp(disch:=try exact jz) only[go_sem,z3,t0,t3,t5,t11,t12,t13,t14,t15,Bf,t82,t83,Hz,FI,tN]
      refine bM.mono (Q:=λex tm σ9=>ex=.exit 10/\Tr.ah tm 0=.c (.ptr sb 0)/\Tr.ah tm 3=.c (.ptr σ.aj 0)/\Tr.ah tm 5=.c (.sl (σ.aj+1) 0 g.e.length (.ex g.e.length))/\Tr.ah tm 11=.c (.ptr σ'.aj 0)/\Tr.ah tm 12=.c (.sl b12 0 m (.ex m))/\Tr.ah tm 13=.c (.sl b13 0 m (.ex m))/\Tr.ah tm 14=.c (.int .i64 (.ofNat i))/\Tr.ah tm 15=.c (.sl σ8.aj 0 m (.ex m))/\Tr.ah tm 18=.c (.sl rb 0 m (.ex m))/\Tr.ah tm 81=.c (.sl b5 o5 g.d.length c5)/\Tr.ah tm 82=.c (.int .i64 (.ofNat g.d.length))/\Tr.ah tm 83=.c (.int .i64 (.ofNat j))/\Tr.ah tm 98=.c lv/\Tr.ah tm 99=.c (.int .i64 (.ofNat g.e.length))/\Tr.ah tm 100=.c (.int .i64 (.ofNat i))/\pW σ9.h (σ.aj+1) g.e.length (rC (Ku g x j i (TW g x j i m))) bs (σ.aj+1+1) σ2.aj/\oZ (σ.aj+1+1) σ2.aj σ5 σ9)
       (aF (λq tm σ9=>∃k,q=m-k/\k<=m/\Tr.ah tm 0=.c (.ptr sb 0)/\Tr.ah tm 3=.c (.ptr σ.aj 0)/\Tr.ah tm 5=.c (.sl (σ.aj+1) 0 g.e.length (.ex g.e.length))/\Tr.ah tm 11=.c (.ptr σ'.aj 0)/\Tr.ah tm 12=.c (.sl b12 0 m (.ex m))/\Tr.ah tm 13=.c (.sl b13 0 m (.ex m))/\Tr.ah tm 14=.c (.int .i64 (.ofNat i))/\Tr.ah tm 15=.c (.sl σ8.aj 0 m (.ex m))/\Tr.ah tm 18=.c (.sl rb 0 m (.ex m))/\Tr.ah tm 81=.c (.sl b5 o5 g.d.length c5)/\Tr.ah tm 82=.c (.int .i64 (.ofNat g.d.length))/\Tr.ah tm 83=.c (.int .i64 (.ofNat j))/\Tr.ah tm 98=.c lv/\Tr.ah tm 99=.c (.int .i64 (.ofNat g.e.length))/\Tr.ah tm 100=.c (.int .i64 (.ofNat i))/\Tr.ah tm 131=.c (.sl rb 0 m (.ex m))/\Tr.ah tm 132=.c (.int .i64 (.ofNat m))/\Tr.ah tm 133=.c (.int .i64 (.ofNat k))/\pW σ9.h (σ.aj+1) g.e.length (rC (Ku g x j i (TW g x j i k))) bs (σ.aj+1+1) σ2.aj/\oZ (σ.aj+1+1) σ2.aj σ5 σ9) m ?_ ?_) ?_
      .refine⟨0,jb,jb,?_⟩
       simp(disch:=try exact jz) only[go_sem,z3,t0,t3,t5,t11,t12,t13,t14,t15,Bf,t82,t83,Hz,FI,tN,am]
       exact⟨Zc,(Fr.refl hf5.wf).km⟩
      .rintro q tm σ9 ⟨k,rfl,hk,t0,t3,t5,t11,t12,t13,t14,t15,qc,Bf,t82,t83,Hz,FI,tN,t131,aud,aue,hM9,hK9⟩
       have hn9:=hK9.le
       simp(disch:=try exact jz) only[go_sem,z3,t0,t3,t5,t11,t12,t13,t14,t15,qc,Bf,t82,t83,Hz,FI,tN,t131,aud,aue,aG]
       refine aH (λhltk=>?_) (λhltk=>?_)
       .obtain⟨b6,o6,c6,e6,-,bK⟩:=aX.pos hL jb
        have bK:=(hK9.fr (qL.trans fZ) jb).ld hW (bK k jb)
        obtain⟨e,c,FN,he,hc⟩:=Jg k hltk
        unfold MJ at bK
        rw[FN]at bK
        rw[hm]at e6
        have l1:=BF bK 1 false jj jj
        have LX:=hK9.get hf5.wf axL (.inr jb)
        rw[e6]at LX
        have auf:=hK9.get hf5.wf hrb (.inr jb)
        have axg:=Fr.refl hK9.wf
        have m1:=hK9.wf.dw l1
        have m2:=hK9.wf.lt LX
        have m3:=hK9.wf.lt auf
        have zM:Sz (Ku g x j i (TW g x j i k) e i):=(hN.D' hlt Kw (hN.U hlt i k e)).sz hD jb
        have zS:Sz (Rx (dW g j) (TY g x j) (Jj g x j i) k):=(hu3 k hltk).sz hD jb
        have hst:=aoK (x:=x) (i:=i) (show k<(ix g.d j).l.length by omega) FN
        simp(disch:=try exact jz) only[go_sem,z3,t0,t3,t5,t11,t12,t13,t14,t15,qc,Bf,t82,t83,Hz,FI,tN,t131,aud,aue,auf,au auf,LX,au LX,l1]
        refine aC.st (Fr σ9) (fr) λhFa=>?_
        have azV:=hFa.le
        refine(abT hFa.wf (hM9.fr hFa jb) hn jb he Kw zM zS).mono ?_
        rintro _ σb ⟨hMb,hfb⟩
        rw[hst]at hMb
        have hKb:=(hK9.trans hFa.km).trans (hMb.km hfb he)
        simp(disch:=try exact jz) only[go_sem,z3,t0,t3,t5,t11,t12,t13,t14,t15,qc,Bf,t82,t83,Hz,FI,tN,t131,aud,aue]
        refine⟨m-(k+1),jb,k+1,rfl,jb,?_⟩
        and_intros<;>try(first|rfl|omega|exact bN V.c e6.symm|exact hMb|exact hKb)
       .have:k=m:=jb
        subst this
        simp(disch:=try exact jz) only[go_sem,z3,am]
        exact⟨t0,t3,t5,t11,t12,t13,t14,t15,qc,Bf,t82,t83,Hz,FI,tN,hM9,hK9⟩
      .rintro _ tm σ9 ⟨rfl,t0,t3,t5,t11,t12,t13,t14,t15,qc,Bf,t82,t83,Hz,FI,tN,hM9,hK9⟩
       have hn9:=hK9.le
       have WZ:=hK9.fr (qL.trans fZ) (show σ.aj<=σ.aj+1+1 by omega)
       have LX:=hK9.get hf5.wf axL (.inr jb)
       have aug:=hK5.trans hK9
       by_cases hm0:m=0
       .have hMe:pW σ9.h (σ.aj+1) g.e.length (rC (Ku g x j (i+1) λ_=>0)) bs (σ.aj+1+1) σ2.aj:=by rw[<-Ql,<-Y7 (axE jb),hm];exact hM9
        have hz:(Int.ofNat 0<Int.ofNat m)=False:=by rw[hm0];exact propext ⟨λh=>absurd h jj,False.elim⟩
        simp(disch:=try exact jz) only[go_sem,z3,t0,t3,t5,t11,t12,t13,t14,t15,qc,Bf,t82,t83,Hz,FI,tN,au LX,akD,hLk,hz]
        refine⟨g.e.length-(i+1),jb,i+1,rfl,jb,?_⟩
        and_intros<;>try(first|rfl|omega|exact hMe|exact aug)
       .obtain⟨e,c,FN,he,hc⟩:=Jg 0 jb
        have hz:(Int.ofNat 0<Int.ofNat m)=True:=eq_true (by show(0:Int)<(m:Int);omega)
        have hd:=auc (g:=g) (j:=j) jb FN
        have hL9:=aX.fr hW WZ hL
        have axg:=Fr.refl hK9.wf
        simp(disch:=try exact jz) only[go_sem,z3,t0,t3,t5,t11,t12,t13,t14,t15,qc,Bf,t82,t83,Hz,FI,tN,au LX,akD,hLk,hz]
        refine(Zb hK9.wf (hs'.fr WZ) hL9 rfl rfl rfl jb FN he hc hn (ZV.k e he)).mono ?_
        rintro _ σa ⟨rfl,hfa⟩
        have azW:=hfa.get hK9.wf LX
        have hfA:=WZ.trans hfa
        have azV:=hfa.le
        rcases hN.A.h e he c hc with hh|⟨hh,hh1,hh2⟩
        .have hh:apH g e c=.negSucc 0:=hh
         have hMe:pW σa.h (σ.aj+1) g.e.length (rC (Ku g x j (i+1) λ_=>0)) bs (σ.aj+1+1) σ2.aj:=by rw[<-Ql,<-Y7 (hd.trans hh),hm];exact hM9.fr hfa jb
         simp(disch:=try exact jz) only[go_sem,z3,t0,t3,t5,t11,t12,t13,t14,t15,qc,Bf,t82,t83,Hz,FI,tN,hh]
         refine⟨g.e.length-(i+1),jb,i+1,rfl,jb,?_⟩
         and_intros<;>try(first|rfl|omega|exact hMe|exact aug.trans hfa.km)
        .have hh1:apH g e c=.ofNat hh:=hh1
         simp(disch:=try exact jz) only[go_sem,z3,t0,t3,t5,t11,t12,t13,t14,t15,qc,Bf,t82,t83,Hz,FI,tN,hh1,ql,au azW,hLk]
         refine(Zb hfa.wf (hs'.fr hfA) (aX.fr hW hfA hL) rfl rfl rfl jb FN he hc hn (ZV.k e he)).mono ?_
         rintro _ σb ⟨rfl,hfb⟩
         have hFb:=hfa.trans hfb
         have qob:=hFb.get hK9.wf (hK9.get hf5.wf V9 (.inr jb))
         have azX:=hFb.get hK9.wf (hK9.get hf5.wf hrb (.inr jb))
         simp(disch:=try exact jz) only[go_sem,z3,t0,t3,t5,t11,t12,t13,t14,t15,qc,Bf,t82,t83,Hz,FI,tN,hh1]
         refine(aqv (p:=λ_=>True) hfb.wf (bD (G:=λk=>dY (Jj g x j i k)) _ qob rfl trivial (λ_=>rfl) jj λ_ _=>rfl) jb (λk hk=>(hZ k hk).2.2.sz hD jb) λk hk=>(hu1 k hk).sz hD jb).mono ?_
         rintro _ σc ⟨rfl,hfc⟩
         have azY:=hfc.get hfb.wf azX
         simp(disch:=try exact jz) only[go_sem,z3,t0,t3,t5,t11,t12,t13,t14,t15,qc,Bf,t82,t83,Hz,FI,tN,hh1]
         refine(aqv (p:=λ_=>True) hfc.wf (bD (G:=λk=>dY (Rx (dW g j) (TY g x j) (Jj g x j i) k)) _ azY rfl trivial (λ_=>rfl) jj λ_ _=>rfl) jb (λk hk=>(hu3 k hk).sz hD jb) λk hk=>(hu2 k hk).sz hD jb).mono ?_
         rintro _ σd ⟨rfl,hfd⟩
         have hFd:=(hFb.trans hfc).trans hfd
         have aBj:=hFd.le
         have z1:Sz (aB m (Jj g x j i)):=(hu1 m jp).sz hD jb
         have z2:Sz (aB m (Rx (dW g j) (TY g x j) (Jj g x j i))):=(hu2 m jp).sz hD jb
         have z3:Sz (aB m (Jj g x j i)-aB m (Rx (dW g j) (TY g x j) (Jj g x j i))):=((hu1 m jp).sub (hu2 m jp)).sz hD jb
         have zM:Sz (Ku g x j i (TW g x j i m) hh i):=(hN.D' hlt Kw (hN.U hlt i m hh)).sz hD jb
         have hst:=aoL (x:=x) (t:=j) (i:=i) (hh:=hh) (hd.trans hh1)
         rw[hm]at hst
         simp(disch:=try exact jz) only[go_sem,z3,t0,t3,t5,t11,t12,t13,t14,t15,qc,Bf,t82,t83,Hz,FI,tN,hh1]
         refine(abT hfd.wf (hM9.fr hFd jb) hn jb hh2 Kw zM z3).mono ?_
         rintro _ σe ⟨hMe,hfe⟩
         rw[hst,Ql]at hMe
         have hKe:=(aug.trans hFd.km).trans (hMe.km hfe hh2)
         simp(disch:=try exact jz) only[go_sem,z3,t0,t3,t5,t11,t12,t13,t14,t15,qc,Bf,t82,t83,Hz,FI,tN]
         refine⟨g.e.length-(i+1),jb,i+1,rfl,jb,?_⟩
         and_intros<;>try(first|rfl|omega|exact hMe|exact hKe)
    .have:i=g.e.length:=jb
     subst this
     simp(disch:=try exact jz) only[go_sem,z3,am]
     exact⟨t0,t3,t5,Bf,t82,t83,hM8,hK8⟩
   .rintro _ tm σ8 ⟨rfl,t0,t3,t5,Bf,t82,t83,hM8,hK8⟩
    have qL:=hK8.fr ake (show σ.aj<=σ.aj+1+1 by omega)
    have hn8:=hK8.le
    have q38:=hK8.get uh.wf q37 (.inl jb)
    have hM8:pW σ8.h (σ.aj+1) g.e.length (rC (mgP g x (j+1))) bs (σ.aj+1+1) σ2.aj:=⟨hM8.o,hM8.r.congr λi _ c hc=>by unfold rC;rw[aoI hlt hc],hM8.b,hM8.l⟩
    simp(disch:=try exact jz) only[go_sem,z3,t0,t3,t5,Bf,t82,t83]
    exact⟨g.d.length-(j+1),jb,j+1,rfl,jb,rfl,q38,hM8,qL,jb⟩
  .have:j=g.d.length:=jb
   subst this
   simp(disch:=try exact jz) only[go_sem,z3,t5]
   exact⟨⟨_,bs,σ2.aj,rfl,jb,hnx,hM.o,hM.r.congr λi _ c hc=>by unfold rC;rw[aoJ],hM.b,hM.l⟩,hf⟩
end Go.Proofs.Xe
