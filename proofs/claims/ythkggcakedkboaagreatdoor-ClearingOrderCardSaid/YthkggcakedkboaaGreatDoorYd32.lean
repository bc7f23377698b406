import Derived.Test.YthkggcakedkboaaGreatDoorYd31
set_option linter.all false
set_option maxHeartbeats 8000000
namespace Go.Proofs.Xe
open Go.RowKit Go.Proofs.Ins
def ait.at{p:Nat->Prop}{h:Tr Bk}{bv:B}{el:List wF}{L:List fA}(hb:ait p h bv el L){i c:Nat}(hi:i<el.length)(hc:c<kE el i):∃b o cc b2 o2 cc2,bv=.sl b o el.length cc/\ld h b (o+i*1) 1 false=some (.c (.sl b2 o2 (kE el i) cc2))/\ld h b2 (o2+c*1) 1 false=some (.c (.bool (L.contains (i,c)))):=by obtain⟨T,h1,h2⟩:=hb;obtain⟨b,o,cc,e,-,hld⟩:=h1.pos jb;obtain⟨b2,o2,cc2,e2,-,Ez⟩:=(h2 i hi).pos (by unfold kE at hc;omega);have h3:=(vg (hld i hi)).1;rw[e2]at h3;exact⟨b,o,cc,b2,o2,cc2,e,h3,(vg (Ez c hc)).1⟩
theorem og.grow{σ σ':St}{mb n lo hi:Nat}{C:Nat->Nat->List B}{bs:Nat->Nat}(hM:og σ'.h mb n C bs lo hi){σ0:St}(h0:Fr σ0 σ){j:Nat}(hf:aT [bs j] σ σ')(hj:j<n)(hb:σ0.aj<=mb):Fr σ0 σ':=
 hf.to h0 λb hbb=>by rw[dy]at hbb;subst hbb;have:=(hM.r.r j hj).2.1;have:=hM.b;omega
structure nT(lo hi:Nat)(σ σ':St):Prop where
 le:σ.aj<=σ'.aj
 wf:WF σ'
 old:∀b,b<σ.aj->b<lo\/hi<=b->σ'.h b=σ.h b
section
variable {lo hi:Nat} {σ σ' MS : St}
def Fr.km(h:Fr σ σ'):nT lo hi σ σ':=⟨h.le,h.wf,λb hb _=>h.old b hb⟩
def nT.trans(h:nT lo hi σ σ')(h':nT lo hi σ' MS):nT lo hi σ MS:=⟨av h.le h'.le,h'.wf,λb hb h2=>(h'.old b (aE hb h.le) h2).trans (h.old b hb h2)⟩
def nT.get(h:nT lo hi σ σ')(hW:WF σ){b:Nat}{k:Bk}(hb:σ.h b=some k)(h2:b<lo\/hi<=b):σ'.h b=some k:=by rw[h.old b (hW.lt hb) h2];exact hb
theorem nT.fr{σ0:St}(h0:Fr σ0 σ)(h:nT lo hi σ σ')(hl:σ0.aj<=lo):Fr σ0 σ':=⟨av h0.le h.le,h.wf,λb hb=>(h.old b (aE hb h0.le) (.inl jb)).trans (h0.old b hb)⟩
def og.km{mb n:Nat}{C:Nat->Nat->List B}{bs:Nat->Nat}(hM:og σ'.h mb n C bs lo hi){j:Nat}(hf:aT [bs j] σ σ')(hj:j<n):nT lo hi σ σ':=⟨hf.le,hf.wf,λb hb h2=>hf.old b hb λhm=>by rw[dy]at hm;subst hm;have:=hM.r.r j hj;omega⟩
end
def aiU{m k:Nat}{F:Nat->Rat}(h:F k=0):bZ m (λi=>if i<k then F i else 0)=bZ m λi=>if i<k+1 then F i else 0:=dN λi _=>by
 by_cases e:i=k
 .subst e;rw[ae jb,ab jb,h]
 .by_cases e2:i<k
  .rw[ab e2,ab jb]
  .rw[ae e2,ae jb]
def arK{g:gW}{j e c:Nat}(h0:0<(ix g.d j).l.length)(EF:ix (ix g.d j).l 0=⟨.ofNat e,.ofNat c⟩):Oq (aX g) (dW g j,dL g j)=apH g e c:=by
 unfold Oq dL;cases hl:(ix g.d j).l with
 |nil=>rw[hl]at h0;simp at h0
 |cons a t=>
  rw[hl]at EF
  have EF:a=⟨.ofNat e,.ofNat c⟩:=EF
  rw[EF];rfl
def avc{g:gW}{j:Nat}(h0:(ix g.d j).l.length=0):Oq (aX g) (dW g j,dL g j)=-1:=by unfold Oq dL;rw[gH.mp h0];rfl
set_option maxRecDepth 10000 in
def aeP{σ:St}(hW:WF σ){sb:Nat}{g:gW}{x:Nat->Rat}(hs:EH (Lt σ.aj) σ.h sb g){p:Nat->Prop}{Dv Sv:B}(hDv:dQ p σ.h Dv g.e.length (kE g.e) (PW g x))(hSv:dQ p σ.h Sv g.e.length (kE g.e) (Kt g x)){D:Nat}(hN:UU D g x):
  aC EN 64 [.c (.ptr sb 0),.agg [Dv,Sv]] σ λr σ'=>(∃mb bs hi,r=.c (.sl mb 0 g.e.length (.ex g.e.length))/\σ.aj<=mb/\hi<=σ'.aj/\og σ'.h mb g.e.length (rC (gM g.e.length (aX g) x)) bs (mb+1) hi)/\Fr σ σ':=by
 refine aQ (jw.o _ _) jw.h ?_
 unfold jw
 dsimp only
 have hs':=hs
 obtain⟨⟨ev,dvv,lv,bv,hsb,hg,⟨R,P,hL1,hL2⟩,hB⟩,hsl⟩:=hs
 have Yz:=hN.A.s
 have hn:=Yz.n
 have hnd:=Yz.d
 have hD:=Yz.hD
 have hu:=aiA
 have hlk:=hL1.kn
 have hll:=hL1.len
 have hlE:=hg.e.len
 have hlD:=hg.d.len
 have hek:=hg.e.kn
 have hdk:=hg.d.kn
 have k1:=hDv.kn
 have k2:=hSv.kn
 have hsl:sb<σ.aj:=hsl
 have hFr:=Fr.refl hW
 simp(disch:=try exact jz) only[go_sem,z3,k1,k2,au hsb,hll,hlk]
 refine aC.st (Fr σ) (fr) λhF=>?_
 refine(XR hF.wf hn).mono ?_
 rintro _ σ2 ⟨⟨bs,rfl,hM⟩,hf2⟩
 have hF2:=hF.trans hf2
 have arB:=hF2.get hW hsb
 have q3:σ2.h σ.aj=some ⟨[Dv,Sv],none⟩:=hf2.get hF.wf (aA _ _ _)
 have hle2:σ.aj+1<=σ2.aj:=hf2.le
 have hlo2:=hM.l
 have hlo2:σ.aj+1+1<=σ2.aj:=hlo2
 have hM:og σ2.h (σ.aj+1) g.e.length (rC λ_ _=>0) bs (σ.aj+1+1) σ2.aj:=hM
 rw[<-aiB (g:=g) (x:=x)]at hM
 simp(disch:=try exact jz) only[go_sem,z3,au arB,hlE,hek]
 refine bH.mono (Q:=λex tm σ'=>ex=.exit 0/\Tr.ah tm 0=.c (.ptr sb 0)/\Tr.ah tm 3=.c (.ptr σ.aj 0)/\Tr.ah tm 5=.c (.sl (σ.aj+1) 0 g.e.length (.ex g.e.length))/\σ'.h σ.aj=some ⟨[Dv,Sv],none⟩/\og σ'.h (σ.aj+1) g.e.length (rC (P8 g x g.e.length 0)) bs (σ.aj+1+1) σ2.aj/\Fr σ σ'/\σ2.aj<=σ'.aj)
  (aF (λq tm σ'=>∃i,q=g.e.length-i/\i<=g.e.length/\Tr.ah tm 0=.c (.ptr sb 0)/\Tr.ah tm 3=.c (.ptr σ.aj 0)/\Tr.ah tm 5=.c (.sl (σ.aj+1) 0 g.e.length (.ex g.e.length))/\Tr.ah tm 31=.c ev/\Tr.ah tm 32=.c (.int .i64 (.ofNat g.e.length))/\Tr.ah tm 33=.c (.int .i64 (.ofNat i))/\σ'.h σ.aj=some ⟨[Dv,Sv],none⟩/\og σ'.h (σ.aj+1) g.e.length (rC (P8 g x i 0)) bs (σ.aj+1+1) σ2.aj/\Fr σ σ'/\σ2.aj<=σ'.aj) g.e.length ?_ ?_) ?_
 .refine⟨0,jb,jb,?_⟩
  simp(disch:=try exact jz) only[go_sem,z3,am]
  exact⟨q3,hM,hF2,jp⟩
 .rintro q tm σ' ⟨i,rfl,hi,t0,t3,t5,t31,t32,t33,q3,hM,hf,hnx⟩
  have hle:=hf.le
  simp(disch:=try exact jz) only[go_sem,z3,t0,t3,t5,t31,t32,t33,aG]
  refine aH (λhlt=>?_) (λhlt=>?_)
  .obtain⟨b5,o5,c5,rfl,C1,A1,bU,-,hC,hA1⟩:=hg.e.at hlt
   have bU:=hf.ld hW bU
   have UL:=bf.kn hC
   have hAk:=hA1.kn
   have hlC:=bf.len hC
   have hkk:=Yz.k i hlt
   have kC:=Fr.refl hf.wf
   simp(disch:=try exact jz) only[go_sem,z3,t0,t3,t5,t31,t32,t33,bU,UL,hAk,hlC]
   refine bH.st (Fr σ') (fr) λiE=>?_
   have yV:=iE.le
   refine bH.mono (Q:=λex tm σ4=>ex=.exit 2/\Tr.ah tm 0=.c (.ptr sb 0)/\Tr.ah tm 3=.c (.ptr σ.aj 0)/\Tr.ah tm 5=.c (.sl (σ.aj+1) 0 g.e.length (.ex g.e.length))/\Tr.ah tm 31=.c (.sl b5 o5 g.e.length c5)/\Tr.ah tm 32=.c (.int .i64 (.ofNat g.e.length))/\Tr.ah tm 33=.c (.int .i64 (.ofNat i))/\σ4.h σ.aj=some ⟨[Dv,Sv],none⟩/\og σ4.h (σ.aj+1) g.e.length (rC (P8 g x i (kE g.e i))) bs (σ.aj+1+1) σ2.aj/\Fr σ σ4/\σ2.aj<=σ4.aj)
    (aF (λq tm σ4=>∃c,q=kE g.e i-c/\c<=kE g.e i/\Tr.ah tm 0=.c (.ptr sb 0)/\Tr.ah tm 3=.c (.ptr σ.aj 0)/\Tr.ah tm 5=.c (.sl (σ.aj+1) 0 g.e.length (.ex g.e.length))/\Tr.ah tm 6=.c (.int .i64 (.ofNat i))/\Tr.ah tm 31=.c (.sl b5 o5 g.e.length c5)/\Tr.ah tm 32=.c (.int .i64 (.ofNat g.e.length))/\Tr.ah tm 33=.c (.int .i64 (.ofNat i))
     /\Tr.ah tm 39=.c C1/\Tr.ah tm 40=.c (.int .i64 (.ofNat (kE g.e i)))/\Tr.ah tm 41=.c (.int .i64 (.ofNat c))/\σ4.h σ.aj=some ⟨[Dv,Sv],none⟩/\og σ4.h (σ.aj+1) g.e.length (rC (P8 g x i c)) bs (σ.aj+1+1) σ2.aj/\Fr σ σ4/\σ2.aj<=σ4.aj) (kE g.e i) ?_ ?_) ?_
   .refine⟨0,jb,jb,?_⟩
    simp(disch:=try exact jz) only[go_sem,z3,t0,t3,t5,t31,t32,t33,am]
    and_intros<;>try(first|rfl|omega|exact q3|exact hM.fr iE jb|exact hf.trans iE)
   .rintro q tm σ4 ⟨c,rfl,hc,t0,t3,t5,t6,t31,t32,t33,t39,t40,t41,q34,hM4,hf4,hn4⟩
    have xM:=hf4.le
    simp(disch:=try exact jz) only[go_sem,z3,t0,t3,t5,t6,t31,t32,t33,t39,t40,t41,aG]
    refine aH (λy8=>?_) (λy8=>?_)
    .obtain⟨b8,o8,c8,e8,-,nP⟩:=bf.pos hC (show 0<(ix g.e i).c.length by unfold kE at y8;omega)
     have nP:=hf4.ld hW (nP c y8)
     have e8:C1=.sl b8 o8 (kE g.e i) c8:=e8
     rw[e8]at t39
     unfold Zz at nP
     have y7:=Fr.refl hf4.wf
     have aiV:=hf4.get hW hsb
     have a3:V.c (.sl b8 o8 (kE g.e i) c8)=V.c C1:=by rw[e8]
     rcases hN.A.h i hlt c y8 with hh|⟨hh,hh1,hh2⟩
     .have hsk:=XM (g:=g) (x:=x) (i:=i) (c:=c) (.inr hh)
      rw[hsk]at hM4
      simp(disch:=try exact jz) only[go_sem,z3,t0,t3,t5,t6,t31,t32,t33,t39,t40,t41,nP,hh]
      refine⟨kE g.e i-(c+1),jb,c+1,rfl,jb,?_⟩
      and_intros<;>try(first|rfl|omega|exact a3|exact q34|exact fr|exact hM4.fr (σ':=⟨_,σ4.aj+1⟩) fr hn4)
     .obtain⟨bb1,oo1,cc1,bb2,oo2,cc2,eb,Z5,OA⟩:=hB.at hlt y8
      have Z5:=hf4.ld hW Z5
      have OA:=hf4.ld hW OA
      rw[eb]at aiV
      cases hcn:(aX g).eX.contains (i,c)with
      |true=>
       rw[hcn]at OA
       have hsk:=XM (g:=g) (x:=x) (i:=i) (c:=c) (.inl hcn)
       rw[hsk]at hM4
       have m1:=hf4.wf.dw Z5
       have m2:=hf4.wf.dw OA
       simp(disch:=try exact jz) only[go_sem,z3,t0,t3,t5,t6,t31,t32,t33,t39,t40,t41,nP,hh1,oG,au aiV,Z5,OA]
       refine⟨kE g.e i-(c+1),jb,c+1,rfl,jb,?_⟩
       and_intros<;>try(first|rfl|omega|exact a3|exact q34|exact fr|exact hM4.fr (σ':=⟨_,σ4.aj+1⟩) fr hn4)
      |false=>
       rw[hcn]at OA
       obtain⟨bS,oS,cS,TS,eS,pS,hlS,hSr⟩:=hSv.at hlt
       obtain⟨bS2,oS2,cS2,eS2,pS2,amT⟩:=bf.at3 hSr y8
       have hlS:=hf4.ld hW hlS
       have amT:=hf4.ld hW amT
       rw[eS2]at hlS
       rw[eS]at q34
       have m1:=hf4.wf.dw Z5
       have m2:=hf4.wf.dw OA
       have m3:=hf4.wf.dw hlS
       have m4:=hf4.wf.dw amT
       have zM:Sz (P8 g x i c hh i):=(hN.A' hlt λ_=>jb).sz hD jb
       have zS:Sz (Kt g x i c):=(hN.s i hlt c y8).2.sz hD jb
       have avd:=amK (g:=g) (x:=x) hcn hh1
       simp(disch:=try exact jz) only[go_sem,z3,t0,t3,t5,t6,t31,t32,t33,t39,t40,t41,nP,hh1,oG,au aiV,Z5,OA,hlS,amT,q34,au q34]
       refine aC.st (Fr σ4) (fr) λlI=>?_
       refine(aaB lI.wf (hM4.fr lI hn4) hn (by have:=lI.le;omega) hh2 hlt zM zS).mono ?_
       rintro _ σ6 ⟨hM6,iC⟩
       rw[avd]at hM6
       have zV:=iC.le
       have axc:=hM6.grow (hf4.trans lI) iC hh2 jb
       have q36:σ6.h σ.aj=some ⟨[Dv,Sv],none⟩:=by rw[eS];refine iC.get lI.wf ?_ (lI.get hf4.wf q34);have:=(hM6.r.r hh hh2).2.1;simp;omega
       simp(disch:=try exact jz) only[go_sem,z3,t0,t3,t5,t6,t31,t32,t33,t39,t40,t41]
       have ax5:=lI.le
       refine⟨kE g.e i-(c+1),jb,c+1,rfl,jb,?_⟩
       and_intros<;>try(first|rfl|omega|exact a3|exact q36|exact hM6|exact axc)
    .have:c=kE g.e i:=jb
     subst this
     simp(disch:=try exact jz) only[go_sem,z3,am]
     exact⟨t0,t3,t5,t31,t32,t33,q34,hM4,hf4,hn4⟩
   .rintro _ tm σ4 ⟨rfl,t0,t3,t5,t31,t32,t33,q34,hM4,hf4,hn4⟩
    rw[aiC]at hM4
    simp(disch:=try exact jz) only[go_sem,z3,t0,t3,t5,t31,t32,t33]
    exact⟨g.e.length-(i+1),jb,i+1,rfl,jb,rfl,q34,hM4,hf4,hn4⟩
  .have:i=g.e.length:=jb
   subst this
   simp(disch:=try exact jz) only[go_sem,z3,am]
   exact⟨t0,t3,t5,q3,hM,hf,hnx⟩
 rintro _ tm σ3 ⟨rfl,t0,t3,t5,q3,hM,hf3,hn3⟩
 have hM:og σ3.h (σ.aj+1) g.e.length (rC (mgP g x 0)) bs (σ.aj+1+1) σ2.aj:=⟨hM.o,hM.r.congr λi _ c hc=>by unfold rC;rw[amL hc],hM.b,hM.l⟩
 have hle3:=hf3.le
 have aiy:=hf3.get hW hsb
 simp(disch:=try exact jz) only[go_sem,z3,t0,t3,t5,au aiy,hlD,hdk]
 refine aF (λq tm σ'=>∃j,q=g.d.length-j/\j<=g.d.length/\Tr.ah tm 0=.c (.ptr sb 0)/\Tr.ah tm 3=.c (.ptr σ.aj 0)/\Tr.ah tm 5=.c (.sl (σ.aj+1) 0 g.e.length (.ex g.e.length))/\Tr.ah tm 81=.c dvv/\Tr.ah tm 82=.c (.int .i64 (.ofNat g.d.length))/\Tr.ah tm 83=.c (.int .i64 (.ofNat j))/\σ'.h σ.aj=some ⟨[Dv,Sv],none⟩/\og σ'.h (σ.aj+1) g.e.length (rC (mgP g x j)) bs (σ.aj+1+1) σ2.aj/\Fr σ σ'/\σ2.aj<=σ'.aj) g.d.length ?_ ?_
 .refine⟨0,jb,jb,?_⟩
  simp(disch:=try exact jz) only[go_sem,z3,t0,t3,t5,am]
  exact⟨q3,hM,hf3,hn3⟩
 .rintro q tm σ' ⟨j,rfl,hj,t0,t3,t5,zX,t82,t83,q3,hM,hf,hnx⟩
  have hle:=hf.le
  simp(disch:=try exact jz) only[go_sem,z3,t0,t3,t5,zX,t82,t83,aG]
  refine aH (λhlt=>?_) (λhlt=>?_)
  .obtain⟨b5,o5,c5,rfl,L1,bU,hL⟩:=hg.d.el hlt
   have bU:=hf.ld hW bU
   have hLk:=bf.kn hL
   have hlL:=bf.len hL
   obtain⟨hlen,Iq⟩:=Yz.l j hlt
   obtain⟨hwf,hw0,hwz⟩:=Yz.w j hlt
   have kC:=Fr.refl hf.wf
   generalize hm:(ix g.d j).l.length=m at*
   simp(disch:=try exact jz) only[go_sem,z3,t0,t3,t5,zX,t82,t83,bU,hLk,au q3,k1,k2]
   refine aC.st (Fr σ') (fr) λiE=>?_
   have hf5:=hf.trans iE
   refine(aaq iE.wf (bf.fr hW hf5 hL) (hDv.fr hW hf5) rfl rfl rfl jb (by rw[hm];exact Iq)).mono ?_
   rintro _ σ6 ⟨⟨b12,rfl,TW,aop,ax6⟩,iC⟩
   have lI:=iE.trans iC
   have aam:=hf.trans lI
   have zV:σ'.aj+1<=σ6.aj:=iC.le
   have aop:σ'.aj+1<=b12:=aop
   have q11:σ6.h σ'.aj=some ⟨[.bool (ix g.d j).w.n,.str (ix g.d j).w.s,.str (ix g.d j).w.d,L1],none⟩:=iC.get iE.wf (aA _ _ _)
   have q36:=lI.get hf.wf q3
   rw[hm]at TW⊢
   simp(disch:=try exact jz) only[go_sem,z3,t0,t3,t5,zX,t82,t83,au q11,hLk,au q36,k1,k2]
   refine(aaq iC.wf (bf.fr hW aam hL) (hSv.fr hW aam) rfl rfl rfl jb (by rw[hm];exact Iq)).mono ?_
   rintro _ σ7 ⟨⟨b13,rfl,ZH,ax7,ax8⟩,pU⟩
   have rW:=lI.trans pU
   have aiz:=hf.trans rW
   have amI:=pU.le
   have aiW:=pU.get iC.wf q11
   have q37:=pU.get iC.wf q36
   have aiX:=pU.get iC.wf TW
   have hM7:=hM.fr rW hnx
   have axd:=aiz.get hW hsb
   rw[hm]at ZH⊢
   have aiX:σ7.h b12=some ⟨bZ m (Rj g x j),none⟩:=aiX
   rw[aiD]at hM7
   simp(disch:=try exact jz) only[go_sem,z3,t0,t3,t5,zX,t82,t83,au axd,hll,hlk]
   have ayI:σ2.aj<=σ7.aj:=jb
   refine bH.mono (Q:=λex tm σ8=>ex=.exit 6/\Tr.ah tm 0=.c (.ptr sb 0)/\Tr.ah tm 3=.c (.ptr σ.aj 0)/\Tr.ah tm 5=.c (.sl (σ.aj+1) 0 g.e.length (.ex g.e.length))/\Tr.ah tm 81=.c (.sl b5 o5 g.d.length c5)/\Tr.ah tm 82=.c (.int .i64 (.ofNat g.d.length))/\Tr.ah tm 83=.c (.int .i64 (.ofNat j))/\og σ8.h (σ.aj+1) g.e.length (rC (Ju g x j g.e.length λ_=>0)) bs (σ.aj+1+1) σ2.aj/\nT (σ.aj+1+1) σ2.aj σ7 σ8)
    (aF (λq tm σ8=>∃i,q=g.e.length-i/\i<=g.e.length/\Tr.ah tm 0=.c (.ptr sb 0)/\Tr.ah tm 3=.c (.ptr σ.aj 0)/\Tr.ah tm 5=.c (.sl (σ.aj+1) 0 g.e.length (.ex g.e.length))/\Tr.ah tm 11=.c (.ptr σ'.aj 0)/\Tr.ah tm 12=.c (.sl b12 0 m (.ex m))/\Tr.ah tm 13=.c (.sl b13 0 m (.ex m))/\Tr.ah tm 81=.c (.sl b5 o5 g.d.length c5)/\Tr.ah tm 82=.c (.int .i64 (.ofNat g.d.length))/\Tr.ah tm 83=.c (.int .i64 (.ofNat j))
     /\Tr.ah tm 98=.c lv/\Tr.ah tm 99=.c (.int .i64 (.ofNat g.e.length))/\Tr.ah tm 100=.c (.int .i64 (.ofNat i))/\og σ8.h (σ.aj+1) g.e.length (rC (Ju g x j i λ_=>0)) bs (σ.aj+1+1) σ2.aj/\nT (σ.aj+1+1) σ2.aj σ7 σ8) g.e.length ?_ ?_) ?_
   .refine⟨0,jb,jb,?_⟩
    simp(disch:=try exact jz) only[go_sem,z3,t0,t3,t5,zX,t82,t83,am]
    exact⟨hM7,(Fr.refl pU.wf).km⟩
   .rintro q tm σ8 ⟨i,rfl,hi,t0,t3,t5,t11,t12,t13,zX,t82,t83,Gg,EC,rH,hM8,hK8⟩
    have rP:=hK8.fr aiz jb
    have aiT:=rP.le
    have hn8:=hK8.le
    have q38:=hK8.get pU.wf q37 (.inl jb)
    have ave:=hK8.get pU.wf aiW (.inr jb)
    have avf:=hK8.get pU.wf aiX (.inr jb)
    have avg:=hK8.get pU.wf ZH (.inr jb)
    simp(disch:=try exact jz) only[go_sem,z3,t0,t3,t5,t11,t12,t13,zX,t82,t83,Gg,EC,rH,aG]
    refine aH (λJw=>?_) (λJw=>?_)
    .have axe:=Fr.refl rP.wf
     have aiY:lenV (.c L1)=some (.c (.int .i64 (.ofNat m))):=hlL
     simp(disch:=try exact jz) only[go_sem,z3,t0,t3,t5,t11,t12,t13,zX,t82,t83,Gg,EC,rH,au ave,aiY,hLk]
     refine bH.st (Fr σ8) (fr) λDu=>?_
     have axf:=Du.le
     refine bH.mono (Q:=λex tm σ4=>ex=.exit 8/\Tr.ah tm 0=.c (.ptr sb 0)/\Tr.ah tm 3=.c (.ptr σ.aj 0)/\Tr.ah tm 5=.c (.sl (σ.aj+1) 0 g.e.length (.ex g.e.length))/\Tr.ah tm 11=.c (.ptr σ'.aj 0)/\Tr.ah tm 12=.c (.sl b12 0 m (.ex m))/\Tr.ah tm 13=.c (.sl b13 0 m (.ex m))/\Tr.ah tm 14=.c (.int .i64 (.ofNat i))/\Tr.ah tm 15=.c (.sl σ8.aj 0 m (.ex m))/\Tr.ah tm 81=.c (.sl b5 o5 g.d.length c5)/\Tr.ah tm 82=.c (.int .i64 (.ofNat g.d.length))/\Tr.ah tm 83=.c (.int .i64 (.ofNat j))
       /\Tr.ah tm 98=.c lv/\Tr.ah tm 99=.c (.int .i64 (.ofNat g.e.length))/\Tr.ah tm 100=.c (.int .i64 (.ofNat i))/\σ4.h σ8.aj=some ⟨bZ m (Ir g x j i),none⟩/\Fr σ8 σ4/\σ8.aj+1<=σ4.aj)
      (aF (λq tm σ4=>∃k,q=m-k/\k<=m/\Tr.ah tm 0=.c (.ptr sb 0)/\Tr.ah tm 3=.c (.ptr σ.aj 0)/\Tr.ah tm 5=.c (.sl (σ.aj+1) 0 g.e.length (.ex g.e.length))/\Tr.ah tm 11=.c (.ptr σ'.aj 0)/\Tr.ah tm 12=.c (.sl b12 0 m (.ex m))/\Tr.ah tm 13=.c (.sl b13 0 m (.ex m))/\Tr.ah tm 14=.c (.int .i64 (.ofNat i))/\Tr.ah tm 15=.c (.sl σ8.aj 0 m (.ex m))/\Tr.ah tm 81=.c (.sl b5 o5 g.d.length c5)/\Tr.ah tm 82=.c (.int .i64 (.ofNat g.d.length))/\Tr.ah tm 83=.c (.int .i64 (.ofNat j))
       /\Tr.ah tm 98=.c lv/\Tr.ah tm 99=.c (.int .i64 (.ofNat g.e.length))/\Tr.ah tm 100=.c (.int .i64 (.ofNat i))/\Tr.ah tm 107=.c L1/\Tr.ah tm 108=.c (.int .i64 (.ofNat m))/\Tr.ah tm 109=.c (.int .i64 (.ofNat k))/\σ4.h σ8.aj=some ⟨bZ m (λk'=>if k'<k then Ir g x j i k' else 0),none⟩/\Fr σ8 σ4/\σ8.aj+1<=σ4.aj) m ?_ ?_) ?_
     .refine⟨0,jb,jb,?_⟩
      simp(disch:=try exact jz) only[go_sem,z3,t0,t3,t5,t11,t12,t13,zX,t82,t83,Gg,EC,rH,am]
      exact⟨by rw[xK],Du,jp⟩
     .rintro q tm σ4 ⟨k,rfl,hk,t0,t3,t5,t11,t12,t13,t14,t15,zX,t82,t83,Gg,EC,rH,t107,UY,t109,PZ,hf4,hn4⟩
      have xM:=hf4.le
      simp(disch:=try exact jz) only[go_sem,z3,t0,t3,t5,t11,t12,t13,t14,t15,zX,t82,t83,Gg,EC,rH,t107,UY,t109,aG]
      refine aH (λhltk=>?_) (λhltk=>?_)
      .obtain⟨b6,o6,c6,e6,-,bW⟩:=bf.pos hL jb
       have bW:=(rP.trans hf4).ld hW (bW k jb)
       obtain⟨e,c,EF,he,hc⟩:=Iq k hltk
       unfold J9 at bW
       rw[EF]at bW
       rw[hm]at e6
       have aiZ:=hf4.get rP.wf avg
       have y7:=Fr.refl hf4.wf
       have hst:=qZ m k (Ir g x j i)
       have hgs:Ir g x j i k=if e=i then Kt g x e c else 0:=by unfold Ir;rw[EF];rfl
       have a3:V.c (.sl b6 o6 m c6)=V.c L1:=by rw[e6]
       have hsl:(λk=>Kt g x (yY (ix (ix g.d j).l k)).1 (yY (ix (ix g.d j).l k)).2) k=Kt g x e c:=by dsimp only;rw[EF];rfl
       rw[e6]at t107
       have ax9:=hf4.wf.lt aiZ
       by_cases hei:e=i
       .rw[hgs,ab hei,hei]at hst
        have hdE:decide ((Int.ofNat e:Int)=Int.ofNat i)=true:=bw (by rw[hei])
        simp(disch:=try exact jz) only[go_sem,z3,t0,t3,t5,t11,t12,t13,t14,t15,zX,t82,t83,Gg,EC,rH,t107,UY,t109,bW,hei,aiZ,au aiZ,hsl,PZ,aI PZ,hst]
        refine⟨m-(k+1),jb,k+1,rfl,jb,?_⟩
        and_intros<;>try(first|rfl|omega|exact a3|exact fr)
       .have hne:¬(Int.ofNat e:Int)=Int.ofNat i:=λh=>hei (gd h)
        have hsk:=aiU (m:=m) (k:=k) (F:=Ir g x j i) (by rw[hgs,ae hei])
        simp(disch:=try exact jz) only[go_sem,z3,t0,t3,t5,t11,t12,t13,t14,t15,zX,t82,t83,Gg,EC,rH,t107,UY,t109,bW,hne]
        rw[hsk]at PZ
        refine⟨m-(k+1),jb,k+1,rfl,jb,?_⟩
        and_intros<;>try(first|rfl|omega|exact a3|exact PZ|exact fr)
      .have:k=m:=jb
       subst this
       simp(disch:=try exact jz) only[go_sem,z3,am]
       rw[yF]at PZ
       exact⟨t0,t3,t5,t11,t12,t13,t14,t15,zX,t82,t83,Gg,EC,rH,PZ,hf4,hn4⟩
     .rintro _ tm σ4 ⟨rfl,t0,t3,t5,t11,t12,t13,t14,t15,zX,t82,t83,Gg,EC,rH,PZ,hf4,hn4⟩
      have xM:=hf4.le
      have avh:=hf4.get rP.wf ave
      have avi:=hf4.get rP.wf avf
      have hZ:∀k,k<m->(0<=Rj g x j k/\0<=Ir g x j i k)/\Zk D 1 (Rj g x j k)/\Zk D 1 (Ir g x j i k):=λk hk=>by
       obtain⟨e,c,h1,h2,h3⟩:=Iq k hk;obtain⟨h4,h5⟩:=Yz.q e h2 c h3;obtain⟨h6,h7⟩:=hN.gs hlt i (yY (ix (ix g.d j).l k)) (cH.mpr ⟨_,lM jb,rfl⟩);refine⟨⟨?_,h7⟩,?_,h6⟩
       .unfold Rj;rw[h1];exact h4
       .unfold Rj;rw[h1];exact h5
      simp(disch:=try exact jz) only[go_sem,z3,t0,t3,t5,t11,t12,t13,t14,t15,zX,t82,t83,Gg,EC,rH,au avh]
      refine(aiO (W:=dW g j) (q:=Rj g x j) (r:=Ir g x j i) (p:=λ_=>True) (p':=λ_=>True) hf4.wf rfl (by have:=hwf.1;have:=hwf.2;omega) (bC (G:=λk=>gX (Rj g x j k)) _ avi rfl trivial (λ_=>rfl) jj λ_ _=>rfl) (bC (G:=λk=>gX (Ir g x j i k)) _ PZ rfl trivial (λ_=>rfl) jj λ_ _=>rfl) jb (λk hk=>(hZ k hk).1) hw0 hD hwz λk hk=>(hZ k hk).2).mono ?_
      rintro _ σ5 ⟨⟨rb,rfl,hrb,aw3,aw4⟩,hf5⟩
      have iE:=hf4.trans hf5
      have yV:=hf5.le
      have XU:=hM8.fr iE jb
      have hK5:=hK8.trans iE.km
      have UQ:=hf5.get hf4.wf PZ
      have avj:=hf5.get hf4.wf avh
      rw[aiF j i]at XU
      have hu1:∀k,k<=m->Zk D k (aB k (Ir g x j i)):=λk hk=>Zk.zW λa ha=>(hZ a jb).2.2
      have hu2:∀k,k<=m->Zk D 1000 (aB k (P7 (dW g j) (Rj g x j) (Ir g x j i))):=λk hk=>by
       rw[Lp];unfold nN;split
       .exact(hu1 k hk).mono jb
       .exact Zk.zero.mono (bp _)
      have hu3:∀k,k<m->Zk D 2000 (P7 (dW g j) (Rj g x j) (Ir g x j i) k):=λk hk=>by have h1:=hu2 (k+1) jb;have h2:=hu2 k jb;rw[Lp]at h1 h2;exact h1.sub h2
      simp(disch:=try exact jz) only[go_sem,z3,t0,t3,t5,t11,t12,t13,t14,t15,zX,t82,t83,Gg,EC,rH]
      refine bH.mono (Q:=λex tm σ9=>ex=.exit 10/\Tr.ah tm 0=.c (.ptr sb 0)/\Tr.ah tm 3=.c (.ptr σ.aj 0)/\Tr.ah tm 5=.c (.sl (σ.aj+1) 0 g.e.length (.ex g.e.length))/\Tr.ah tm 11=.c (.ptr σ'.aj 0)/\Tr.ah tm 12=.c (.sl b12 0 m (.ex m))/\Tr.ah tm 13=.c (.sl b13 0 m (.ex m))/\Tr.ah tm 14=.c (.int .i64 (.ofNat i))/\Tr.ah tm 15=.c (.sl σ8.aj 0 m (.ex m))/\Tr.ah tm 18=.c (.sl rb 0 m (.ex m))/\Tr.ah tm 81=.c (.sl b5 o5 g.d.length c5)/\Tr.ah tm 82=.c (.int .i64 (.ofNat g.d.length))/\Tr.ah tm 83=.c (.int .i64 (.ofNat j))/\Tr.ah tm 98=.c lv/\Tr.ah tm 99=.c (.int .i64 (.ofNat g.e.length))/\Tr.ah tm 100=.c (.int .i64 (.ofNat i))/\og σ9.h (σ.aj+1) g.e.length (rC (Ju g x j i (Ri g x j i m))) bs (σ.aj+1+1) σ2.aj/\nT (σ.aj+1+1) σ2.aj σ5 σ9)
       (aF (λq tm σ9=>∃k,q=m-k/\k<=m/\Tr.ah tm 0=.c (.ptr sb 0)/\Tr.ah tm 3=.c (.ptr σ.aj 0)/\Tr.ah tm 5=.c (.sl (σ.aj+1) 0 g.e.length (.ex g.e.length))/\Tr.ah tm 11=.c (.ptr σ'.aj 0)/\Tr.ah tm 12=.c (.sl b12 0 m (.ex m))/\Tr.ah tm 13=.c (.sl b13 0 m (.ex m))/\Tr.ah tm 14=.c (.int .i64 (.ofNat i))/\Tr.ah tm 15=.c (.sl σ8.aj 0 m (.ex m))/\Tr.ah tm 18=.c (.sl rb 0 m (.ex m))/\Tr.ah tm 81=.c (.sl b5 o5 g.d.length c5)/\Tr.ah tm 82=.c (.int .i64 (.ofNat g.d.length))/\Tr.ah tm 83=.c (.int .i64 (.ofNat j))/\Tr.ah tm 98=.c lv/\Tr.ah tm 99=.c (.int .i64 (.ofNat g.e.length))/\Tr.ah tm 100=.c (.int .i64 (.ofNat i))/\Tr.ah tm 131=.c (.sl rb 0 m (.ex m))/\Tr.ah tm 132=.c (.int .i64 (.ofNat m))/\Tr.ah tm 133=.c (.int .i64 (.ofNat k))/\og σ9.h (σ.aj+1) g.e.length (rC (Ju g x j i (Ri g x j i k))) bs (σ.aj+1+1) σ2.aj/\nT (σ.aj+1+1) σ2.aj σ5 σ9) m ?_ ?_) ?_
      .refine⟨0,jb,jb,?_⟩
       simp(disch:=try exact jz) only[go_sem,z3,t0,t3,t5,t11,t12,t13,t14,t15,zX,t82,t83,Gg,EC,rH,am]
       exact⟨XU,(Fr.refl hf5.wf).km⟩
      .rintro q tm σ9 ⟨k,rfl,hk,t0,t3,t5,t11,t12,t13,t14,t15,ou,zX,t82,t83,Gg,EC,rH,t131,arL,arM,hM9,hK9⟩
       have hn9:=hK9.le
       simp(disch:=try exact jz) only[go_sem,z3,t0,t3,t5,t11,t12,t13,t14,t15,ou,zX,t82,t83,Gg,EC,rH,t131,arL,arM,aG]
       refine aH (λhltk=>?_) (λhltk=>?_)
       .obtain⟨b6,o6,c6,e6,-,bW⟩:=bf.pos hL jb
        have bW:=(hK9.fr (rP.trans iE) jb).ld hW (bW k jb)
        obtain⟨e,c,EF,he,hc⟩:=Iq k hltk
        unfold J9 at bW
        rw[EF]at bW
        rw[hm]at e6
        have l1:=Aj bW 1 false jj jj
        have Ku:=hK9.get hf5.wf avj (.inr jb)
        rw[e6]at Ku
        have arN:=hK9.get hf5.wf hrb (.inr jb)
        have auK:=Fr.refl hK9.wf
        have m1:=hK9.wf.dw l1
        have m2:=hK9.wf.lt Ku
        have m3:=hK9.wf.lt arN
        have zM:Sz (Ju g x j i (Ri g x j i k) e i):=(hN.D' hlt Jw (hN.U hlt i k e)).sz hD jb
        have zS:Sz (P7 (dW g j) (Rj g x j) (Ir g x j i) k):=(hu3 k hltk).sz hD jb
        have hst:=amO (x:=x) (i:=i) (show k<(ix g.d j).l.length by omega) EF
        simp(disch:=try exact jz) only[go_sem,z3,t0,t3,t5,t11,t12,t13,t14,t15,ou,zX,t82,t83,Gg,EC,rH,t131,arL,arM,arN,au arN,Ku,au Ku,l1]
        refine aC.st (Fr σ9) (fr) λYB=>?_
        have axg:=YB.le
        refine(aaB YB.wf (hM9.fr YB jb) hn jb he Jw zM zS).mono ?_
        rintro _ σb ⟨hMb,hfb⟩
        rw[hst]at hMb
        have hKb:=(hK9.trans YB.km).trans (hMb.km hfb he)
        simp(disch:=try exact jz) only[go_sem,z3,t0,t3,t5,t11,t12,t13,t14,t15,ou,zX,t82,t83,Gg,EC,rH,t131,arL,arM]
        refine⟨m-(k+1),jb,k+1,rfl,jb,?_⟩
        and_intros<;>try(first|rfl|omega|exact bL V.c e6.symm|exact hMb|exact hKb)
       .have:k=m:=jb
        subst this
        simp(disch:=try exact jz) only[go_sem,z3,am]
        exact⟨t0,t3,t5,t11,t12,t13,t14,t15,ou,zX,t82,t83,Gg,EC,rH,hM9,hK9⟩
      .rintro _ tm σ9 ⟨rfl,t0,t3,t5,t11,t12,t13,t14,t15,ou,zX,t82,t83,Gg,EC,rH,hM9,hK9⟩
       have hn9:=hK9.le
       have hf9:=hK9.fr (rP.trans iE) (show σ.aj<=σ.aj+1+1 by omega)
       have Ku:=hK9.get hf5.wf avj (.inr jb)
       have arO:=hK5.trans hK9
       by_cases hm0:m=0
       .have hMe:og σ9.h (σ.aj+1) g.e.length (rC (Ju g x j (i+1) λ_=>0)) bs (σ.aj+1+1) σ2.aj:=by rw[<-OO,<-XO (avc jb),hm];exact hM9
        have hz:(Int.ofNat 0<Int.ofNat m)=False:=by rw[hm0];exact propext ⟨λh=>absurd h jj,False.elim⟩
        simp(disch:=try exact jz) only[go_sem,z3,t0,t3,t5,t11,t12,t13,t14,t15,ou,zX,t82,t83,Gg,EC,rH,au Ku,aiY,hLk,hz]
        refine⟨g.e.length-(i+1),jb,i+1,rfl,jb,?_⟩
        and_intros<;>try(first|rfl|omega|exact hMe|exact arO)
       .obtain⟨e,c,EF,he,hc⟩:=Iq 0 jb
        have hz:(Int.ofNat 0<Int.ofNat m)=True:=eq_true (by show(0:Int)<(m:Int);omega)
        have hd:=arK (g:=g) (j:=j) jb EF
        have hL9:=bf.fr hW hf9 hL
        have auK:=Fr.refl hK9.wf
        simp(disch:=try exact jz) only[go_sem,z3,t0,t3,t5,t11,t12,t13,t14,t15,ou,zX,t82,t83,Gg,EC,rH,au Ku,aiY,hLk,hz]
        refine(XT hK9.wf (hs'.fr hf9) hL9 rfl rfl rfl jb EF he hc hn (Yz.k e he)).mono ?_
        rintro _ σa ⟨rfl,hfa⟩
        have axh:=hfa.get hK9.wf Ku
        have hfA:=hf9.trans hfa
        have axg:=hfa.le
        rcases hN.A.h e he c hc with hh|⟨hh,hh1,hh2⟩
        .have hh:apH g e c=.negSucc 0:=hh
         have hMe:og σa.h (σ.aj+1) g.e.length (rC (Ju g x j (i+1) λ_=>0)) bs (σ.aj+1+1) σ2.aj:=by rw[<-OO,<-XO (hd.trans hh),hm];exact hM9.fr hfa jb
         simp(disch:=try exact jz) only[go_sem,z3,t0,t3,t5,t11,t12,t13,t14,t15,ou,zX,t82,t83,Gg,EC,rH,hh]
         refine⟨g.e.length-(i+1),jb,i+1,rfl,jb,?_⟩
         and_intros<;>try(first|rfl|omega|exact hMe|exact arO.trans hfa.km)
        .have hh1:apH g e c=.ofNat hh:=hh1
         simp(disch:=try exact jz) only[go_sem,z3,t0,t3,t5,t11,t12,t13,t14,t15,ou,zX,t82,t83,Gg,EC,rH,hh1,oG,au axh,hLk]
         refine(XT hfa.wf (hs'.fr hfA) (bf.fr hW hfA hL) rfl rfl rfl jb EF he hc hn (Yz.k e he)).mono ?_
         rintro _ σb ⟨rfl,hfb⟩
         have hFb:=hfa.trans hfb
         have qob:=hFb.get hK9.wf (hK9.get hf5.wf UQ (.inr jb))
         have axi:=hFb.get hK9.wf (hK9.get hf5.wf hrb (.inr jb))
         simp(disch:=try exact jz) only[go_sem,z3,t0,t3,t5,t11,t12,t13,t14,t15,ou,zX,t82,t83,Gg,EC,rH,hh1]
         refine(aom (p:=λ_=>True) hfb.wf (bC (G:=λk=>gX (Ir g x j i k)) _ qob rfl trivial (λ_=>rfl) jj λ_ _=>rfl) jb (λk hk=>(hZ k hk).2.2.sz hD jb) λk hk=>(hu1 k hk).sz hD jb).mono ?_
         rintro _ σc ⟨rfl,hfc⟩
         have axj:=hfc.get hfb.wf axi
         simp(disch:=try exact jz) only[go_sem,z3,t0,t3,t5,t11,t12,t13,t14,t15,ou,zX,t82,t83,Gg,EC,rH,hh1]
         refine(aom (p:=λ_=>True) hfc.wf (bC (G:=λk=>gX (P7 (dW g j) (Rj g x j) (Ir g x j i) k)) _ axj rfl trivial (λ_=>rfl) jj λ_ _=>rfl) jb (λk hk=>(hu3 k hk).sz hD jb) λk hk=>(hu2 k hk).sz hD jb).mono ?_
         rintro _ σd ⟨rfl,hfd⟩
         have hFd:=(hFb.trans hfc).trans hfd
         have ayJ:=hFd.le
         have z1:Sz (aB m (Ir g x j i)):=(hu1 m jp).sz hD jb
         have z2:Sz (aB m (P7 (dW g j) (Rj g x j) (Ir g x j i))):=(hu2 m jp).sz hD jb
         have z3:Sz (aB m (Ir g x j i)-aB m (P7 (dW g j) (Rj g x j) (Ir g x j i))):=((hu1 m jp).sub (hu2 m jp)).sz hD jb
         have zM:Sz (Ju g x j i (Ri g x j i m) hh i):=(hN.D' hlt Jw (hN.U hlt i m hh)).sz hD jb
         have hst:=amP (x:=x) (t:=j) (i:=i) (hh:=hh) (hd.trans hh1)
         rw[hm]at hst
         simp(disch:=try exact jz) only[go_sem,z3,t0,t3,t5,t11,t12,t13,t14,t15,ou,zX,t82,t83,Gg,EC,rH,hh1]
         refine(aaB hfd.wf (hM9.fr hFd jb) hn jb hh2 Jw zM z3).mono ?_
         rintro _ σe ⟨hMe,hfe⟩
         rw[hst,OO]at hMe
         have hKe:=(arO.trans hFd.km).trans (hMe.km hfe hh2)
         simp(disch:=try exact jz) only[go_sem,z3,t0,t3,t5,t11,t12,t13,t14,t15,ou,zX,t82,t83,Gg,EC,rH]
         refine⟨g.e.length-(i+1),jb,i+1,rfl,jb,?_⟩
         and_intros<;>try(first|rfl|omega|exact hMe|exact hKe)
    .have:i=g.e.length:=jb
     subst this
     simp(disch:=try exact jz) only[go_sem,z3,am]
     exact⟨t0,t3,t5,zX,t82,t83,hM8,hK8⟩
   .rintro _ tm σ8 ⟨rfl,t0,t3,t5,zX,t82,t83,hM8,hK8⟩
    have rP:=hK8.fr aiz (show σ.aj<=σ.aj+1+1 by omega)
    have hn8:=hK8.le
    have q38:=hK8.get pU.wf q37 (.inl jb)
    have hM8:og σ8.h (σ.aj+1) g.e.length (rC (mgP g x (j+1))) bs (σ.aj+1+1) σ2.aj:=⟨hM8.o,hM8.r.congr λi _ c hc=>by unfold rC;rw[amM hlt hc],hM8.b,hM8.l⟩
    simp(disch:=try exact jz) only[go_sem,z3,t0,t3,t5,zX,t82,t83]
    exact⟨g.d.length-(j+1),jb,j+1,rfl,jb,rfl,q38,hM8,rP,jb⟩
  .have:j=g.d.length:=jb
   subst this
   simp(disch:=try exact jz) only[go_sem,z3,t5]
   exact⟨⟨_,bs,σ2.aj,rfl,jb,hnx,hM.o,hM.r.congr λi _ c hc=>by unfold rC;rw[amN],hM.b,hM.l⟩,hf⟩
end Go.Proofs.Xe
