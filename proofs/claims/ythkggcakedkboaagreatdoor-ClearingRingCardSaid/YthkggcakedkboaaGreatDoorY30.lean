import Derived.Test.YthkggcakedkboaaGreatDoorY29
set_option linter.all false
set_option maxHeartbeats 8000000
namespace Go.Proofs.Xe
open Go.RowKit Go.Proofs.Ins
def ag4.at{p:Nat->Prop}{h:Tr Bk}{bv:B}{el:List Bc}{L:List fD}(hb:ag4 p h bv el L){i c:Nat}(hi:i<el.length)(hc:c<kE el i):∃b o cc b2 o2 cc2,bv=.sl b o el.length cc/\ld h b (o+i*1) 1 false=some (.c (.sl b2 o2 (kE el i) cc2))/\ld h b2 (o2+c*1) 1 false=some (.c (.bool (L.contains (i,c)))):=by obtain⟨T,h1,h2⟩:=hb;obtain⟨b,o,cc,e,-,hld⟩:=h1.pos jb;obtain⟨b2,o2,cc2,e2,-,Dw⟩:=(h2 i hi).pos (by unfold kE at hc;omega);have h3:=(zG (hld i hi)).1;rw[e2]at h3;exact⟨b,o,cc,b2,o2,cc2,e,h3,(zG (Dw c hc)).1⟩
theorem nJ.grow{σ σ':St}{mb n lo hi:Nat}{C:Nat->Nat->List B}{bs:Nat->Nat}(hM:nJ σ'.h mb n C bs lo hi){σ0:St}(h0:Fr σ0 σ){j:Nat}(hf:aP [bs j] σ σ')(hj:j<n)(hb:σ0.aj<=mb):Fr σ0 σ':=
 hf.to h0 λb hbb=>by rw[eh]at hbb;subst hbb;have:=(hM.r.r j hj).2.1;have:=hM.b;omega
structure ni(lo hi:Nat)(σ σ':St):Prop where
 le:σ.aj<=σ'.aj
 wf:WF σ'
 old:∀b,b<σ.aj->b<lo\/hi<=b->σ'.h b=σ.h b
section
variable {lo hi:Nat} {σ σ' KQ : St}
def Fr.km(h:Fr σ σ'):ni lo hi σ σ':=⟨h.le,h.wf,λb hb _=>h.old b hb⟩
def ni.trans(h:ni lo hi σ σ')(h':ni lo hi σ' KQ):ni lo hi σ KQ:=⟨ag h.le h'.le,h'.wf,λb hb h2=>(h'.old b (aD hb h.le) h2).trans (h.old b hb h2)⟩
def ni.get(h:ni lo hi σ σ')(hW:WF σ){b:Nat}{k:Bk}(hb:σ.h b=some k)(h2:b<lo\/hi<=b):σ'.h b=some k:=by rw[h.old b (hW.lt hb) h2];exact hb
theorem ni.fr{σ0:St}(h0:Fr σ0 σ)(h:ni lo hi σ σ')(hl:σ0.aj<=lo):Fr σ0 σ':=⟨ag h0.le h.le,h.wf,λb hb=>(h.old b (aD hb h0.le) (.inl jb)).trans (h0.old b hb)⟩
def nJ.km{mb n:Nat}{C:Nat->Nat->List B}{bs:Nat->Nat}(hM:nJ σ'.h mb n C bs lo hi){j:Nat}(hf:aP [bs j] σ σ')(hj:j<n):ni lo hi σ σ':=⟨hf.le,hf.wf,λb hb h2=>hf.old b hb λhm=>by rw[eh]at hm;subst hm;have:=hM.r.r j hj;omega⟩
end
def ahv{m k:Nat}{F:Nat->Rat}(h:F k=0):bU m (λi=>if i<k then F i else 0)=bU m λi=>if i<k+1 then F i else 0:=dI λi _=>by
 by_cases e:i=k
 .subst e;rw[ab jb,ae jb,h]
 .by_cases e2:i<k
  .rw[ae e2,ae jb]
  .rw[ab e2,ab jb]
def apW{g:iD}{j e c:Nat}(h0:0<(ix g.d j).l.length)(Dz:ix (ix g.d j).l 0=⟨.ofNat e,.ofNat c⟩):Oi (aY g) (dW g j,dL g j)=apH g e c:=by
 unfold Oi dL;cases hl:(ix g.d j).l with
 |nil=>rw[hl]at h0;simp at h0
 |cons a t=>
  rw[hl]at Dz
  have Dz:a=⟨.ofNat e,.ofNat c⟩:=Dz
  rw[Dz];rfl
def ata{g:iD}{j:Nat}(h0:(ix g.d j).l.length=0):Oi (aY g) (dW g j,dL g j)=-1:=by unfold Oi dL;rw[gn.mp h0];rfl
set_option maxRecDepth 10000 in
def ado{σ:St}(hW:WF σ){sb:Nat}{g:iD}{x:Nat->Rat}(hs:DC (Lt σ.aj) σ.h sb g){p:Nat->Prop}{Dv Sv:B}(hDv:dN p σ.h Dv g.e.length (kE g.e) (Oq g x))(hSv:dN p σ.h Sv g.e.length (kE g.e) (Jg g x)){D:Nat}(hN:Tc D g x):
  aC EN 64 [.c (.ptr sb 0),.agg [Dv,Sv]] σ λr σ'=>(∃mb bs hi,r=.c (.sl mb 0 g.e.length (.ex g.e.length))/\σ.aj<=mb/\hi<=σ'.aj/\nJ σ'.h mb g.e.length (rC (gM g.e.length (aY g) x)) bs (mb+1) hi)/\Fr σ σ':=by
 refine aN (jh.o _ _) jh.h ?_
 unfold jh
 dsimp only
 have hs':=hs
 obtain⟨⟨ev,Zb,lv,bv,hsb,hg,⟨R,P,hL1,hL2⟩,hB⟩,hsl⟩:=hs
 have Xj:=hN.A.s
 have hn:=Xj.n
 have hnd:=Xj.d
 have hD:=Xj.hD
 have hu:=ahb
 have hlk:=hL1.kn
 have hll:=hL1.len
 have hlE:=hg.e.len
 have hlD:=hg.d.len
 have hek:=hg.e.kn
 have hdk:=hg.d.kn
 have k1:=hDv.kn
 have k2:=hSv.kn
 have hsl:sb<σ.aj:=hsl
 have hFr:=Fr.refl hW
 simp(disch:=try exact jz) only[go_sem,z3,k1,k2,ak hsb,hll,hlk]
 refine aC.st (Fr σ) (fr) λhF=>?_
 refine(Wq hF.wf hn).mono ?_
 rintro _ σ2 ⟨⟨bs,rfl,hM⟩,hf2⟩
 have hF2:=hF.trans hf2
 have apN:=hF2.get hW hsb
 have q3:σ2.h σ.aj=some ⟨[Dv,Sv],none⟩:=hf2.get hF.wf (aB _ _ _)
 have hle2:σ.aj+1<=σ2.aj:=hf2.le
 have hlo2:=hM.l
 have hlo2:σ.aj+1+1<=σ2.aj:=hlo2
 have hM:nJ σ2.h (σ.aj+1) g.e.length (rC λ_ _=>0) bs (σ.aj+1+1) σ2.aj:=hM
 rw[<-ahc (g:=g) (x:=x)]at hM
 simp(disch:=try exact jz) only[go_sem,z3,ak apN,hlE,hek]
 refine bK.mono (Q:=λex tm σ'=>ex=.exit 0/\Tr.ah tm 0=.c (.ptr sb 0)/\Tr.ah tm 3=.c (.ptr σ.aj 0)/\Tr.ah tm 5=.c (.sl (σ.aj+1) 0 g.e.length (.ex g.e.length))/\σ'.h σ.aj=some ⟨[Dv,Sv],none⟩/\nJ σ'.h (σ.aj+1) g.e.length (rC (Oz g x g.e.length 0)) bs (σ.aj+1+1) σ2.aj/\Fr σ σ'/\σ2.aj<=σ'.aj)
  (aF (λq tm σ'=>∃i,q=g.e.length-i/\i<=g.e.length/\Tr.ah tm 0=.c (.ptr sb 0)/\Tr.ah tm 3=.c (.ptr σ.aj 0)/\Tr.ah tm 5=.c (.sl (σ.aj+1) 0 g.e.length (.ex g.e.length))/\Tr.ah tm 31=.c ev/\Tr.ah tm 32=.c (.int .i64 (.ofNat g.e.length))/\Tr.ah tm 33=.c (.int .i64 (.ofNat i))/\σ'.h σ.aj=some ⟨[Dv,Sv],none⟩/\nJ σ'.h (σ.aj+1) g.e.length (rC (Oz g x i 0)) bs (σ.aj+1+1) σ2.aj/\Fr σ σ'/\σ2.aj<=σ'.aj) g.e.length ?_ ?_) ?_
 .refine⟨0,jb,jb,?_⟩
  simp(disch:=try exact jz) only[go_sem,z3,ap]
  exact⟨q3,hM,hF2,jp⟩
 .rintro q tm σ' ⟨i,rfl,hi,t0,t3,t5,t31,t32,t33,q3,hM,hf,hnx⟩
  have hle:=hf.le
  simp(disch:=try exact jz) only[go_sem,z3,t0,t3,t5,t31,t32,t33,aH]
  refine aJ (λhlt=>?_) (λhlt=>?_)
  .obtain⟨b5,o5,c5,rfl,C1,A1,bP,-,hC,hA1⟩:=hg.e.at hlt
   have bP:=hf.ld hW bP
   have V3:=aZ.kn hC
   have hAk:=hA1.kn
   have hlC:=aZ.len hC
   have hkk:=Xj.k i hlt
   have jQ:=Fr.refl hf.wf
   simp(disch:=try exact jz) only[go_sem,z3,t0,t3,t5,t31,t32,t33,bP,V3,hAk,hlC]
   refine bK.st (Fr σ') (fr) λgZ=>?_
   have yJ:=gZ.le
   refine bK.mono (Q:=λex tm σ4=>ex=.exit 2/\Tr.ah tm 0=.c (.ptr sb 0)/\Tr.ah tm 3=.c (.ptr σ.aj 0)/\Tr.ah tm 5=.c (.sl (σ.aj+1) 0 g.e.length (.ex g.e.length))/\Tr.ah tm 31=.c (.sl b5 o5 g.e.length c5)/\Tr.ah tm 32=.c (.int .i64 (.ofNat g.e.length))/\Tr.ah tm 33=.c (.int .i64 (.ofNat i))/\σ4.h σ.aj=some ⟨[Dv,Sv],none⟩/\nJ σ4.h (σ.aj+1) g.e.length (rC (Oz g x i (kE g.e i))) bs (σ.aj+1+1) σ2.aj/\Fr σ σ4/\σ2.aj<=σ4.aj)
    (aF (λq tm σ4=>∃c,q=kE g.e i-c/\c<=kE g.e i/\Tr.ah tm 0=.c (.ptr sb 0)/\Tr.ah tm 3=.c (.ptr σ.aj 0)/\Tr.ah tm 5=.c (.sl (σ.aj+1) 0 g.e.length (.ex g.e.length))/\Tr.ah tm 6=.c (.int .i64 (.ofNat i))/\Tr.ah tm 31=.c (.sl b5 o5 g.e.length c5)/\Tr.ah tm 32=.c (.int .i64 (.ofNat g.e.length))/\Tr.ah tm 33=.c (.int .i64 (.ofNat i))
     /\Tr.ah tm 39=.c C1/\Tr.ah tm 40=.c (.int .i64 (.ofNat (kE g.e i)))/\Tr.ah tm 41=.c (.int .i64 (.ofNat c))/\σ4.h σ.aj=some ⟨[Dv,Sv],none⟩/\nJ σ4.h (σ.aj+1) g.e.length (rC (Oz g x i c)) bs (σ.aj+1+1) σ2.aj/\Fr σ σ4/\σ2.aj<=σ4.aj) (kE g.e i) ?_ ?_) ?_
   .refine⟨0,jb,jb,?_⟩
    simp(disch:=try exact jz) only[go_sem,z3,t0,t3,t5,t31,t32,t33,ap]
    and_intros<;>try(first|rfl|omega|exact q3|exact hM.fr gZ jb|exact hf.trans gZ)
   .rintro q tm σ4 ⟨c,rfl,hc,t0,t3,t5,t6,t31,t32,t33,t39,t40,t41,q34,hM4,hf4,hn4⟩
    have yH:=hf4.le
    simp(disch:=try exact jz) only[go_sem,z3,t0,t3,t5,t6,t31,t32,t33,t39,t40,t41,aH]
    refine aJ (λJf=>?_) (λJf=>?_)
    .obtain⟨b8,o8,c8,e8,-,mY⟩:=aZ.pos hC (show 0<(ix g.e i).c.length by unfold kE at Jf;omega)
     have mY:=hf4.ld hW (mY c Jf)
     have e8:C1=.sl b8 o8 (kE g.e i) c8:=e8
     rw[e8]at t39
     unfold c5B at mY
     have Em:=Fr.refl hf4.wf
     have ahw:=hf4.get hW hsb
     have a3:V.c (.sl b8 o8 (kE g.e i) c8)=V.c C1:=by rw[e8]
     rcases hN.A.h i hlt c Jf with hh|⟨hh,hh1,hh2⟩
     .have hsk:=Wi (g:=g) (x:=x) (i:=i) (c:=c) (.inr hh)
      rw[hsk]at hM4
      simp(disch:=try exact jz) only[go_sem,z3,t0,t3,t5,t6,t31,t32,t33,t39,t40,t41,mY,hh]
      refine⟨kE g.e i-(c+1),jb,c+1,rfl,jb,?_⟩
      and_intros<;>try(first|rfl|omega|exact a3|exact q34|exact fr|exact hM4.fr (σ':=⟨_,σ4.aj+1⟩) fr hn4)
     .obtain⟨bb1,oo1,cc1,bb2,oo2,cc2,eb,YH,Nb⟩:=hB.at hlt Jf
      have YH:=hf4.ld hW YH
      have Nb:=hf4.ld hW Nb
      rw[eb]at ahw
      cases hcn:(aY g).eH.contains (i,c)with
      |true=>
       rw[hcn]at Nb
       have hsk:=Wi (g:=g) (x:=x) (i:=i) (c:=c) (.inl hcn)
       rw[hsk]at hM4
       have m1:=hf4.wf.dw YH
       have m2:=hf4.wf.dw Nb
       simp(disch:=try exact jz) only[go_sem,z3,t0,t3,t5,t6,t31,t32,t33,t39,t40,t41,mY,hh1,nS,ak ahw,YH,Nb]
       refine⟨kE g.e i-(c+1),jb,c+1,rfl,jb,?_⟩
       and_intros<;>try(first|rfl|omega|exact a3|exact q34|exact fr|exact hM4.fr (σ':=⟨_,σ4.aj+1⟩) fr hn4)
      |false=>
       rw[hcn]at Nb
       obtain⟨bS,oS,cS,TS,eS,pS,hlS,hSr⟩:=hSv.at hlt
       obtain⟨bS2,oS2,cS2,eS2,pS2,ali⟩:=aZ.at3 hSr Jf
       have hlS:=hf4.ld hW hlS
       have ali:=hf4.ld hW ali
       rw[eS2]at hlS
       rw[eS]at q34
       have m1:=hf4.wf.dw YH
       have m2:=hf4.wf.dw Nb
       have m3:=hf4.wf.dw hlS
       have m4:=hf4.wf.dw ali
       have zM:Sz (Oz g x i c hh i):=(hN.A' hlt λ_=>jb).sz hD jb
       have zS:Sz (Jg g x i c):=(hN.s i hlt c Jf).2.sz hD jb
       have atb:=ak9 (g:=g) (x:=x) hcn hh1
       simp(disch:=try exact jz) only[go_sem,z3,t0,t3,t5,t6,t31,t32,t33,t39,t40,t41,mY,hh1,nS,ak ahw,YH,Nb,hlS,ali,q34,ak q34]
       refine aC.st (Fr σ4) (fr) λkH=>?_
       refine(Zf kH.wf (hM4.fr kH hn4) hn (by have:=kH.le;omega) hh2 hlt zM zS).mono ?_
       rintro _ σ6 ⟨hM6,gX⟩
       rw[atb]at hM6
       have yI:=gX.le
       have avc:=hM6.grow (hf4.trans kH) gX hh2 jb
       have q36:σ6.h σ.aj=some ⟨[Dv,Sv],none⟩:=by rw[eS];refine gX.get kH.wf ?_ (kH.get hf4.wf q34);have:=(hM6.r.r hh hh2).2.1;simp;omega
       simp(disch:=try exact jz) only[go_sem,z3,t0,t3,t5,t6,t31,t32,t33,t39,t40,t41]
       have avT:=kH.le
       refine⟨kE g.e i-(c+1),jb,c+1,rfl,jb,?_⟩
       and_intros<;>try(first|rfl|omega|exact a3|exact q36|exact hM6|exact avc)
    .have:c=kE g.e i:=jb
     subst this
     simp(disch:=try exact jz) only[go_sem,z3,ap]
     exact⟨t0,t3,t5,t31,t32,t33,q34,hM4,hf4,hn4⟩
   .rintro _ tm σ4 ⟨rfl,t0,t3,t5,t31,t32,t33,q34,hM4,hf4,hn4⟩
    rw[ahd]at hM4
    simp(disch:=try exact jz) only[go_sem,z3,t0,t3,t5,t31,t32,t33]
    exact⟨g.e.length-(i+1),jb,i+1,rfl,jb,rfl,q34,hM4,hf4,hn4⟩
  .have:i=g.e.length:=jb
   subst this
   simp(disch:=try exact jz) only[go_sem,z3,ap]
   exact⟨t0,t3,t5,q3,hM,hf,hnx⟩
 rintro _ tm σ3 ⟨rfl,t0,t3,t5,q3,hM,hf3,hn3⟩
 have hM:nJ σ3.h (σ.aj+1) g.e.length (rC (mgP g x 0)) bs (σ.aj+1+1) σ2.aj:=⟨hM.o,hM.r.congr λi _ c hc=>by unfold rC;rw[ala hc],hM.b,hM.l⟩
 have hle3:=hf3.le
 have ag9:=hf3.get hW hsb
 simp(disch:=try exact jz) only[go_sem,z3,t0,t3,t5,ak ag9,hlD,hdk]
 refine aF (λq tm σ'=>∃j,q=g.d.length-j/\j<=g.d.length/\Tr.ah tm 0=.c (.ptr sb 0)/\Tr.ah tm 3=.c (.ptr σ.aj 0)/\Tr.ah tm 5=.c (.sl (σ.aj+1) 0 g.e.length (.ex g.e.length))/\Tr.ah tm 81=.c Zb/\Tr.ah tm 82=.c (.int .i64 (.ofNat g.d.length))/\Tr.ah tm 83=.c (.int .i64 (.ofNat j))/\σ'.h σ.aj=some ⟨[Dv,Sv],none⟩/\nJ σ'.h (σ.aj+1) g.e.length (rC (mgP g x j)) bs (σ.aj+1+1) σ2.aj/\Fr σ σ'/\σ2.aj<=σ'.aj) g.d.length ?_ ?_
 .refine⟨0,jb,jb,?_⟩
  simp(disch:=try exact jz) only[go_sem,z3,t0,t3,t5,ap]
  exact⟨q3,hM,hf3,hn3⟩
 .rintro q tm σ' ⟨j,rfl,hj,t0,t3,t5,yL,t82,t83,q3,hM,hf,hnx⟩
  have hle:=hf.le
  simp(disch:=try exact jz) only[go_sem,z3,t0,t3,t5,yL,t82,t83,aH]
  refine aJ (λhlt=>?_) (λhlt=>?_)
  .obtain⟨b5,o5,c5,rfl,L1,bP,hL⟩:=hg.d.el hlt
   have bP:=hf.ld hW bP
   have hLk:=aZ.kn hL
   have hlL:=aZ.len hL
   obtain⟨hlen,Gp⟩:=Xj.l j hlt
   obtain⟨hwf,hw0,hwz⟩:=Xj.w j hlt
   have jQ:=Fr.refl hf.wf
   generalize hm:(ix g.d j).l.length=m at*
   simp(disch:=try exact jz) only[go_sem,z3,t0,t3,t5,yL,t82,t83,bP,hLk,ak q3,k1,k2]
   refine aC.st (Fr σ') (fr) λgZ=>?_
   have hf5:=hf.trans gZ
   refine(Y3 gZ.wf (aZ.fr hW hf5 hL) (hDv.fr hW hf5) rfl rfl rfl jb (by rw[hm];exact Gp)).mono ?_
   rintro _ σ6 ⟨⟨b12,rfl,Rj,amS,avU⟩,gX⟩
   have kH:=gZ.trans gX
   have YZ:=hf.trans kH
   have yI:σ'.aj+1<=σ6.aj:=gX.le
   have amS:σ'.aj+1<=b12:=amS
   have q11:σ6.h σ'.aj=some ⟨[.bool (ix g.d j).w.n,.str (ix g.d j).w.s,.str (ix g.d j).w.d,L1],none⟩:=gX.get gZ.wf (aB _ _ _)
   have q36:=kH.get hf.wf q3
   rw[hm]at Rj⊢
   simp(disch:=try exact jz) only[go_sem,z3,t0,t3,t5,yL,t82,t83,ak q11,hLk,ak q36,k1,k2]
   refine(Y3 gX.wf (aZ.fr hW YZ hL) (hSv.fr hW YZ) rfl rfl rfl jb (by rw[hm];exact Gp)).mono ?_
   rintro _ σ7 ⟨⟨b13,rfl,Yn,avV,avW⟩,oI⟩
   have qG:=kH.trans oI
   have aha:=hf.trans qG
   have ak7:=oI.le
   have ahx:=oI.get gX.wf q11
   have q37:=oI.get gX.wf q36
   have ahy:=oI.get gX.wf Rj
   have hM7:=hM.fr qG hnx
   have avd:=aha.get hW hsb
   rw[hm]at Yn⊢
   have ahy:σ7.h b12=some ⟨bU m (PX g x j),none⟩:=ahy
   rw[ahe]at hM7
   simp(disch:=try exact jz) only[go_sem,z3,t0,t3,t5,yL,t82,t83,ak avd,hll,hlk]
   have aww:σ2.aj<=σ7.aj:=jb
   refine bK.mono (Q:=λex tm σ8=>ex=.exit 6/\Tr.ah tm 0=.c (.ptr sb 0)/\Tr.ah tm 3=.c (.ptr σ.aj 0)/\Tr.ah tm 5=.c (.sl (σ.aj+1) 0 g.e.length (.ex g.e.length))/\Tr.ah tm 81=.c (.sl b5 o5 g.d.length c5)/\Tr.ah tm 82=.c (.int .i64 (.ofNat g.d.length))/\Tr.ah tm 83=.c (.int .i64 (.ofNat j))/\nJ σ8.h (σ.aj+1) g.e.length (rC (Il g x j g.e.length λ_=>0)) bs (σ.aj+1+1) σ2.aj/\ni (σ.aj+1+1) σ2.aj σ7 σ8)
    (aF (λq tm σ8=>∃i,q=g.e.length-i/\i<=g.e.length/\Tr.ah tm 0=.c (.ptr sb 0)/\Tr.ah tm 3=.c (.ptr σ.aj 0)/\Tr.ah tm 5=.c (.sl (σ.aj+1) 0 g.e.length (.ex g.e.length))/\Tr.ah tm 11=.c (.ptr σ'.aj 0)/\Tr.ah tm 12=.c (.sl b12 0 m (.ex m))/\Tr.ah tm 13=.c (.sl b13 0 m (.ex m))/\Tr.ah tm 81=.c (.sl b5 o5 g.d.length c5)/\Tr.ah tm 82=.c (.int .i64 (.ofNat g.d.length))/\Tr.ah tm 83=.c (.int .i64 (.ofNat j))
     /\Tr.ah tm 98=.c lv/\Tr.ah tm 99=.c (.int .i64 (.ofNat g.e.length))/\Tr.ah tm 100=.c (.int .i64 (.ofNat i))/\nJ σ8.h (σ.aj+1) g.e.length (rC (Il g x j i λ_=>0)) bs (σ.aj+1+1) σ2.aj/\ni (σ.aj+1+1) σ2.aj σ7 σ8) g.e.length ?_ ?_) ?_
   .refine⟨0,jb,jb,?_⟩
    simp(disch:=try exact jz) only[go_sem,z3,t0,t3,t5,yL,t82,t83,ap]
    exact⟨hM7,(Fr.refl oI.wf).km⟩
   .rintro q tm σ8 ⟨i,rfl,hi,t0,t3,t5,t11,t12,t13,yL,t82,t83,EH,Dy,qy,hM8,hK8⟩
    have qE:=hK8.fr aha jb
    have ahu:=qE.le
    have hn8:=hK8.le
    have q38:=hK8.get oI.wf q37 (.inl jb)
    have atc:=hK8.get oI.wf ahx (.inr jb)
    have atd:=hK8.get oI.wf ahy (.inr jb)
    have ate:=hK8.get oI.wf Yn (.inr jb)
    simp(disch:=try exact jz) only[go_sem,z3,t0,t3,t5,t11,t12,t13,yL,t82,t83,EH,Dy,qy,aH]
    refine aJ (λIp=>?_) (λIp=>?_)
    .have ave:=Fr.refl qE.wf
     have ahz:lenV (.c L1)=some (.c (.int .i64 (.ofNat m))):=hlL
     simp(disch:=try exact jz) only[go_sem,z3,t0,t3,t5,t11,t12,t13,yL,t82,t83,EH,Dy,qy,ak atc,ahz,hLk]
     refine bK.st (Fr σ8) (fr) λBO=>?_
     have avf:=BO.le
     refine bK.mono (Q:=λex tm σ4=>ex=.exit 8/\Tr.ah tm 0=.c (.ptr sb 0)/\Tr.ah tm 3=.c (.ptr σ.aj 0)/\Tr.ah tm 5=.c (.sl (σ.aj+1) 0 g.e.length (.ex g.e.length))/\Tr.ah tm 11=.c (.ptr σ'.aj 0)/\Tr.ah tm 12=.c (.sl b12 0 m (.ex m))/\Tr.ah tm 13=.c (.sl b13 0 m (.ex m))/\Tr.ah tm 14=.c (.int .i64 (.ofNat i))/\Tr.ah tm 15=.c (.sl σ8.aj 0 m (.ex m))/\Tr.ah tm 81=.c (.sl b5 o5 g.d.length c5)/\Tr.ah tm 82=.c (.int .i64 (.ofNat g.d.length))/\Tr.ah tm 83=.c (.int .i64 (.ofNat j))
       /\Tr.ah tm 98=.c lv/\Tr.ah tm 99=.c (.int .i64 (.ofNat g.e.length))/\Tr.ah tm 100=.c (.int .i64 (.ofNat i))/\σ4.h σ8.aj=some ⟨bU m (Gs g x j i),none⟩/\Fr σ8 σ4/\σ8.aj+1<=σ4.aj)
      (aF (λq tm σ4=>∃k,q=m-k/\k<=m/\Tr.ah tm 0=.c (.ptr sb 0)/\Tr.ah tm 3=.c (.ptr σ.aj 0)/\Tr.ah tm 5=.c (.sl (σ.aj+1) 0 g.e.length (.ex g.e.length))/\Tr.ah tm 11=.c (.ptr σ'.aj 0)/\Tr.ah tm 12=.c (.sl b12 0 m (.ex m))/\Tr.ah tm 13=.c (.sl b13 0 m (.ex m))/\Tr.ah tm 14=.c (.int .i64 (.ofNat i))/\Tr.ah tm 15=.c (.sl σ8.aj 0 m (.ex m))/\Tr.ah tm 81=.c (.sl b5 o5 g.d.length c5)/\Tr.ah tm 82=.c (.int .i64 (.ofNat g.d.length))/\Tr.ah tm 83=.c (.int .i64 (.ofNat j))
       /\Tr.ah tm 98=.c lv/\Tr.ah tm 99=.c (.int .i64 (.ofNat g.e.length))/\Tr.ah tm 100=.c (.int .i64 (.ofNat i))/\Tr.ah tm 107=.c L1/\Tr.ah tm 108=.c (.int .i64 (.ofNat m))/\Tr.ah tm 109=.c (.int .i64 (.ofNat k))/\σ4.h σ8.aj=some ⟨bU m (λk'=>if k'<k then Gs g x j i k' else 0),none⟩/\Fr σ8 σ4/\σ8.aj+1<=σ4.aj) m ?_ ?_) ?_
     .refine⟨0,jb,jb,?_⟩
      simp(disch:=try exact jz) only[go_sem,z3,t0,t3,t5,t11,t12,t13,yL,t82,t83,EH,Dy,qy,ap]
      exact⟨by rw[sF],BO,jp⟩
     .rintro q tm σ4 ⟨k,rfl,hk,t0,t3,t5,t11,t12,t13,t14,t15,yL,t82,t83,EH,Dy,qy,t107,apX,t109,Ov,hf4,hn4⟩
      have yH:=hf4.le
      simp(disch:=try exact jz) only[go_sem,z3,t0,t3,t5,t11,t12,t13,t14,t15,yL,t82,t83,EH,Dy,qy,t107,apX,t109,aH]
      refine aJ (λhltk=>?_) (λhltk=>?_)
      .obtain⟨b6,o6,c6,e6,-,bJ⟩:=aZ.pos hL jb
       have bJ:=(qE.trans hf4).ld hW (bJ k jb)
       obtain⟨e,c,Dz,he,hc⟩:=Gp k hltk
       unfold lgB at bJ
       rw[Dz]at bJ
       rw[hm]at e6
       have ahA:=hf4.get qE.wf ate
       have Em:=Fr.refl hf4.wf
       have hst:=nR m k (Gs g x j i)
       have hgs:Gs g x j i k=if e=i then Jg g x e c else 0:=by unfold Gs;rw[Dz];rfl
       have a3:V.c (.sl b6 o6 m c6)=V.c L1:=by rw[e6]
       have hsl:(λk=>Jg g x (yG (ix (ix g.d j).l k)).1 (yG (ix (ix g.d j).l k)).2) k=Jg g x e c:=by dsimp only;rw[Dz];rfl
       rw[e6]at t107
       have avX:=hf4.wf.lt ahA
       by_cases hei:e=i
       .rw[hgs,ae hei,hei]at hst
        have hdE:decide ((Int.ofNat e:Int)=Int.ofNat i)=true:=bj (by rw[hei])
        simp(disch:=try exact jz) only[go_sem,z3,t0,t3,t5,t11,t12,t13,t14,t15,yL,t82,t83,EH,Dy,qy,t107,apX,t109,bJ,hei,ahA,ak ahA,hsl,Ov,aI Ov,hst]
        refine⟨m-(k+1),jb,k+1,rfl,jb,?_⟩
        and_intros<;>try(first|rfl|omega|exact a3|exact fr)
       .have hne:¬(Int.ofNat e:Int)=Int.ofNat i:=λh=>hei (Int.ofNat.inj h)
        have hsk:=ahv (m:=m) (k:=k) (F:=Gs g x j i) (by rw[hgs,ab hei])
        simp(disch:=try exact jz) only[go_sem,z3,t0,t3,t5,t11,t12,t13,t14,t15,yL,t82,t83,EH,Dy,qy,t107,apX,t109,bJ,hne]
        rw[hsk]at Ov
        refine⟨m-(k+1),jb,k+1,rfl,jb,?_⟩
        and_intros<;>try(first|rfl|omega|exact a3|exact Ov|exact fr)
      .have:k=m:=jb
       subst this
       simp(disch:=try exact jz) only[go_sem,z3,ap]
       rw[uO]at Ov
       exact⟨t0,t3,t5,t11,t12,t13,t14,t15,yL,t82,t83,EH,Dy,qy,Ov,hf4,hn4⟩
     .rintro _ tm σ4 ⟨rfl,t0,t3,t5,t11,t12,t13,t14,t15,yL,t82,t83,EH,Dy,qy,Ov,hf4,hn4⟩
      have yH:=hf4.le
      have atf:=hf4.get qE.wf atc
      have atg:=hf4.get qE.wf atd
      have hZ:∀k,k<m->(0<=PX g x j k/\0<=Gs g x j i k)/\Zk D 1 (PX g x j k)/\Zk D 1 (Gs g x j i k):=λk hk=>by
       obtain⟨e,c,h1,h2,h3⟩:=Gp k hk;obtain⟨h4,h5⟩:=Xj.q e h2 c h3;obtain⟨h6,h7⟩:=hN.gs hlt i (yG (ix (ix g.d j).l k)) (cU.mpr ⟨_,kN jb,rfl⟩);refine⟨⟨?_,h7⟩,?_,h6⟩
       .unfold PX;rw[h1];exact h4
       .unfold PX;rw[h1];exact h5
      simp(disch:=try exact jz) only[go_sem,z3,t0,t3,t5,t11,t12,t13,t14,t15,yL,t82,t83,EH,Dy,qy,ak atf]
      refine(ahp (W:=dW g j) (q:=PX g x j) (r:=Gs g x j i) (p:=λ_=>True) (p':=λ_=>True) hf4.wf rfl (by have:=hwf.1;have:=hwf.2;omega) (bf (G:=λk=>gK (PX g x j k)) _ atg rfl trivial (λ_=>rfl) jj λ_ _=>rfl) (bf (G:=λk=>gK (Gs g x j i k)) _ Ov rfl trivial (λ_=>rfl) jj λ_ _=>rfl) jb (λk hk=>(hZ k hk).1) hw0 hD hwz λk hk=>(hZ k hk).2).mono ?_
      rintro _ σ5 ⟨⟨rb,rfl,hrb,au2,au3⟩,hf5⟩
      have gZ:=hf4.trans hf5
      have yJ:=hf5.le
      have Wu:=hM8.fr gZ jb
      have hK5:=hK8.trans gZ.km
      have SY:=hf5.get hf4.wf Ov
      have ath:=hf5.get hf4.wf atf
      rw[ahg j i]at Wu
      have hu1:∀k,k<=m->Zk D k (aA k (Gs g x j i)):=λk hk=>Zk.yK λa ha=>(hZ a jb).2.2
      have hu2:∀k,k<=m->Zk D 1000 (aA k (Oy (dW g j) (PX g x j) (Gs g x j i))):=λk hk=>by
       rw[JU];unfold mX;split
       .exact(hu1 k hk).mono jb
       .exact Zk.zero.mono (bz _)
      have hu3:∀k,k<m->Zk D 2000 (Oy (dW g j) (PX g x j) (Gs g x j i) k):=λk hk=>by have h1:=hu2 (k+1) jb;have h2:=hu2 k jb;rw[JU]at h1 h2;exact h1.sub h2
      simp(disch:=try exact jz) only[go_sem,z3,t0,t3,t5,t11,t12,t13,t14,t15,yL,t82,t83,EH,Dy,qy]
      refine bK.mono (Q:=λex tm σ9=>ex=.exit 10/\Tr.ah tm 0=.c (.ptr sb 0)/\Tr.ah tm 3=.c (.ptr σ.aj 0)/\Tr.ah tm 5=.c (.sl (σ.aj+1) 0 g.e.length (.ex g.e.length))/\Tr.ah tm 11=.c (.ptr σ'.aj 0)/\Tr.ah tm 12=.c (.sl b12 0 m (.ex m))/\Tr.ah tm 13=.c (.sl b13 0 m (.ex m))/\Tr.ah tm 14=.c (.int .i64 (.ofNat i))/\Tr.ah tm 15=.c (.sl σ8.aj 0 m (.ex m))/\Tr.ah tm 18=.c (.sl rb 0 m (.ex m))/\Tr.ah tm 81=.c (.sl b5 o5 g.d.length c5)/\Tr.ah tm 82=.c (.int .i64 (.ofNat g.d.length))/\Tr.ah tm 83=.c (.int .i64 (.ofNat j))/\Tr.ah tm 98=.c lv/\Tr.ah tm 99=.c (.int .i64 (.ofNat g.e.length))/\Tr.ah tm 100=.c (.int .i64 (.ofNat i))/\nJ σ9.h (σ.aj+1) g.e.length (rC (Il g x j i (PW g x j i m))) bs (σ.aj+1+1) σ2.aj/\ni (σ.aj+1+1) σ2.aj σ5 σ9)
       (aF (λq tm σ9=>∃k,q=m-k/\k<=m/\Tr.ah tm 0=.c (.ptr sb 0)/\Tr.ah tm 3=.c (.ptr σ.aj 0)/\Tr.ah tm 5=.c (.sl (σ.aj+1) 0 g.e.length (.ex g.e.length))/\Tr.ah tm 11=.c (.ptr σ'.aj 0)/\Tr.ah tm 12=.c (.sl b12 0 m (.ex m))/\Tr.ah tm 13=.c (.sl b13 0 m (.ex m))/\Tr.ah tm 14=.c (.int .i64 (.ofNat i))/\Tr.ah tm 15=.c (.sl σ8.aj 0 m (.ex m))/\Tr.ah tm 18=.c (.sl rb 0 m (.ex m))/\Tr.ah tm 81=.c (.sl b5 o5 g.d.length c5)/\Tr.ah tm 82=.c (.int .i64 (.ofNat g.d.length))/\Tr.ah tm 83=.c (.int .i64 (.ofNat j))/\Tr.ah tm 98=.c lv/\Tr.ah tm 99=.c (.int .i64 (.ofNat g.e.length))/\Tr.ah tm 100=.c (.int .i64 (.ofNat i))/\Tr.ah tm 131=.c (.sl rb 0 m (.ex m))/\Tr.ah tm 132=.c (.int .i64 (.ofNat m))/\Tr.ah tm 133=.c (.int .i64 (.ofNat k))/\nJ σ9.h (σ.aj+1) g.e.length (rC (Il g x j i (PW g x j i k))) bs (σ.aj+1+1) σ2.aj/\ni (σ.aj+1+1) σ2.aj σ5 σ9) m ?_ ?_) ?_
      .refine⟨0,jb,jb,?_⟩
       simp(disch:=try exact jz) only[go_sem,z3,t0,t3,t5,t11,t12,t13,t14,t15,yL,t82,t83,EH,Dy,qy,ap]
       exact⟨Wu,(Fr.refl hf5.wf).km⟩
      .rintro q tm σ9 ⟨k,rfl,hk,t0,t3,t5,t11,t12,t13,t14,t15,rP,yL,t82,t83,EH,Dy,qy,t131,apY,apZ,hM9,hK9⟩
       have hn9:=hK9.le
       simp(disch:=try exact jz) only[go_sem,z3,t0,t3,t5,t11,t12,t13,t14,t15,rP,yL,t82,t83,EH,Dy,qy,t131,apY,apZ,aH]
       refine aJ (λhltk=>?_) (λhltk=>?_)
       .obtain⟨b6,o6,c6,e6,-,bJ⟩:=aZ.pos hL jb
        have bJ:=(hK9.fr (qE.trans gZ) jb).ld hW (bJ k jb)
        obtain⟨e,c,Dz,he,hc⟩:=Gp k hltk
        unfold lgB at bJ
        rw[Dz]at bJ
        rw[hm]at e6
        have l1:=yX bJ 1 false jj jj
        have Jh:=hK9.get hf5.wf ath (.inr jb)
        rw[e6]at Jh
        have ap0:=hK9.get hf5.wf hrb (.inr jb)
        have asJ:=Fr.refl hK9.wf
        have m1:=hK9.wf.dw l1
        have m2:=hK9.wf.lt Jh
        have m3:=hK9.wf.lt ap0
        have zM:Sz (Il g x j i (PW g x j i k) e i):=(hN.D' hlt Ip (hN.U hlt i k e)).sz hD jb
        have zS:Sz (Oy (dW g j) (PX g x j) (Gs g x j i) k):=(hu3 k hltk).sz hD jb
        have hst:=ald (x:=x) (i:=i) (show k<(ix g.d j).l.length by omega) Dz
        simp(disch:=try exact jz) only[go_sem,z3,t0,t3,t5,t11,t12,t13,t14,t15,rP,yL,t82,t83,EH,Dy,qy,t131,apY,apZ,ap0,ak ap0,Jh,ak Jh,l1]
        refine aC.st (Fr σ9) (fr) λhFa=>?_
        have avg:=hFa.le
        refine(Zf hFa.wf (hM9.fr hFa jb) hn jb he Ip zM zS).mono ?_
        rintro _ σb ⟨hMb,hfb⟩
        rw[hst]at hMb
        have hKb:=(hK9.trans hFa.km).trans (hMb.km hfb he)
        simp(disch:=try exact jz) only[go_sem,z3,t0,t3,t5,t11,t12,t13,t14,t15,rP,yL,t82,t83,EH,Dy,qy,t131,apY,apZ]
        refine⟨m-(k+1),jb,k+1,rfl,jb,?_⟩
        and_intros<;>try(first|rfl|omega|exact bM V.c e6.symm|exact hMb|exact hKb)
       .have:k=m:=jb
        subst this
        simp(disch:=try exact jz) only[go_sem,z3,ap]
        exact⟨t0,t3,t5,t11,t12,t13,t14,t15,rP,yL,t82,t83,EH,Dy,qy,hM9,hK9⟩
      .rintro _ tm σ9 ⟨rfl,t0,t3,t5,t11,t12,t13,t14,t15,rP,yL,t82,t83,EH,Dy,qy,hM9,hK9⟩
       have hn9:=hK9.le
       have hf9:=hK9.fr (qE.trans gZ) (show σ.aj<=σ.aj+1+1 by omega)
       have Jh:=hK9.get hf5.wf ath (.inr jb)
       have ap1:=hK5.trans hK9
       by_cases hm0:m=0
       .have hMe:nJ σ9.h (σ.aj+1) g.e.length (rC (Il g x j (i+1) λ_=>0)) bs (σ.aj+1+1) σ2.aj:=by rw[<-Nv,<-Wj (ata jb),hm];exact hM9
        have hz:(Int.ofNat 0<Int.ofNat m)=False:=by rw[hm0];exact propext ⟨λh=>absurd h jj,False.elim⟩
        simp(disch:=try exact jz) only[go_sem,z3,t0,t3,t5,t11,t12,t13,t14,t15,rP,yL,t82,t83,EH,Dy,qy,ak Jh,ahz,hLk,hz]
        refine⟨g.e.length-(i+1),jb,i+1,rfl,jb,?_⟩
        and_intros<;>try(first|rfl|omega|exact hMe|exact ap1)
       .obtain⟨e,c,Dz,he,hc⟩:=Gp 0 jb
        have hz:(Int.ofNat 0<Int.ofNat m)=True:=eq_true (by show(0:Int)<(m:Int);omega)
        have hd:=apW (g:=g) (j:=j) jb Dz
        have hL9:=aZ.fr hW hf9 hL
        have asJ:=Fr.refl hK9.wf
        simp(disch:=try exact jz) only[go_sem,z3,t0,t3,t5,t11,t12,t13,t14,t15,rP,yL,t82,t83,EH,Dy,qy,ak Jh,ahz,hLk,hz]
        refine(Ws hK9.wf (hs'.fr hf9) hL9 rfl rfl rfl jb Dz he hc hn (Xj.k e he)).mono ?_
        rintro _ σa ⟨rfl,hfa⟩
        have avh:=hfa.get hK9.wf Jh
        have hfA:=hf9.trans hfa
        have avg:=hfa.le
        rcases hN.A.h e he c hc with hh|⟨hh,hh1,hh2⟩
        .have hh:apH g e c=.negSucc 0:=hh
         have hMe:nJ σa.h (σ.aj+1) g.e.length (rC (Il g x j (i+1) λ_=>0)) bs (σ.aj+1+1) σ2.aj:=by rw[<-Nv,<-Wj (hd.trans hh),hm];exact hM9.fr hfa jb
         simp(disch:=try exact jz) only[go_sem,z3,t0,t3,t5,t11,t12,t13,t14,t15,rP,yL,t82,t83,EH,Dy,qy,hh]
         refine⟨g.e.length-(i+1),jb,i+1,rfl,jb,?_⟩
         and_intros<;>try(first|rfl|omega|exact hMe|exact ap1.trans hfa.km)
        .have hh1:apH g e c=.ofNat hh:=hh1
         simp(disch:=try exact jz) only[go_sem,z3,t0,t3,t5,t11,t12,t13,t14,t15,rP,yL,t82,t83,EH,Dy,qy,hh1,nS,ak avh,hLk]
         refine(Ws hfa.wf (hs'.fr hfA) (aZ.fr hW hfA hL) rfl rfl rfl jb Dz he hc hn (Xj.k e he)).mono ?_
         rintro _ σb ⟨rfl,hfb⟩
         have hFb:=hfa.trans hfb
         have qob:=hFb.get hK9.wf (hK9.get hf5.wf SY (.inr jb))
         have avi:=hFb.get hK9.wf (hK9.get hf5.wf hrb (.inr jb))
         simp(disch:=try exact jz) only[go_sem,z3,t0,t3,t5,t11,t12,t13,t14,t15,rP,yL,t82,t83,EH,Dy,qy,hh1]
         refine(amP (p:=λ_=>True) hfb.wf (bf (G:=λk=>gK (Gs g x j i k)) _ qob rfl trivial (λ_=>rfl) jj λ_ _=>rfl) jb (λk hk=>(hZ k hk).2.2.sz hD jb) λk hk=>(hu1 k hk).sz hD jb).mono ?_
         rintro _ σc ⟨rfl,hfc⟩
         have avj:=hfc.get hfb.wf avi
         simp(disch:=try exact jz) only[go_sem,z3,t0,t3,t5,t11,t12,t13,t14,t15,rP,yL,t82,t83,EH,Dy,qy,hh1]
         refine(amP (p:=λ_=>True) hfc.wf (bf (G:=λk=>gK (Oy (dW g j) (PX g x j) (Gs g x j i) k)) _ avj rfl trivial (λ_=>rfl) jj λ_ _=>rfl) jb (λk hk=>(hu3 k hk).sz hD jb) λk hk=>(hu2 k hk).sz hD jb).mono ?_
         rintro _ σd ⟨rfl,hfd⟩
         have hFd:=(hFb.trans hfc).trans hfd
         have awx:=hFd.le
         have z1:Sz (aA m (Gs g x j i)):=(hu1 m jp).sz hD jb
         have z2:Sz (aA m (Oy (dW g j) (PX g x j) (Gs g x j i))):=(hu2 m jp).sz hD jb
         have z3:Sz (aA m (Gs g x j i)-aA m (Oy (dW g j) (PX g x j) (Gs g x j i))):=((hu1 m jp).sub (hu2 m jp)).sz hD jb
         have zM:Sz (Il g x j i (PW g x j i m) hh i):=(hN.D' hlt Ip (hN.U hlt i m hh)).sz hD jb
         have hst:=ale (x:=x) (t:=j) (i:=i) (hh:=hh) (hd.trans hh1)
         rw[hm]at hst
         simp(disch:=try exact jz) only[go_sem,z3,t0,t3,t5,t11,t12,t13,t14,t15,rP,yL,t82,t83,EH,Dy,qy,hh1]
         refine(Zf hfd.wf (hM9.fr hFd jb) hn jb hh2 Ip zM z3).mono ?_
         rintro _ σe ⟨hMe,hfe⟩
         rw[hst,Nv]at hMe
         have hKe:=(ap1.trans hFd.km).trans (hMe.km hfe hh2)
         simp(disch:=try exact jz) only[go_sem,z3,t0,t3,t5,t11,t12,t13,t14,t15,rP,yL,t82,t83,EH,Dy,qy]
         refine⟨g.e.length-(i+1),jb,i+1,rfl,jb,?_⟩
         and_intros<;>try(first|rfl|omega|exact hMe|exact hKe)
    .have:i=g.e.length:=jb
     subst this
     simp(disch:=try exact jz) only[go_sem,z3,ap]
     exact⟨t0,t3,t5,yL,t82,t83,hM8,hK8⟩
   .rintro _ tm σ8 ⟨rfl,t0,t3,t5,yL,t82,t83,hM8,hK8⟩
    have qE:=hK8.fr aha (show σ.aj<=σ.aj+1+1 by omega)
    have hn8:=hK8.le
    have q38:=hK8.get oI.wf q37 (.inl jb)
    have hM8:nJ σ8.h (σ.aj+1) g.e.length (rC (mgP g x (j+1))) bs (σ.aj+1+1) σ2.aj:=⟨hM8.o,hM8.r.congr λi _ c hc=>by unfold rC;rw[alb hlt hc],hM8.b,hM8.l⟩
    simp(disch:=try exact jz) only[go_sem,z3,t0,t3,t5,yL,t82,t83]
    exact⟨g.d.length-(j+1),jb,j+1,rfl,jb,rfl,q38,hM8,qE,jb⟩
  .have:j=g.d.length:=jb
   subst this
   simp(disch:=try exact jz) only[go_sem,z3,t5]
   exact⟨⟨_,bs,σ2.aj,rfl,jb,hnx,hM.o,hM.r.congr λi _ c hc=>by unfold rC;rw[alc],hM.b,hM.l⟩,hf⟩
def ahB(n i:Nat)(x:C5):Prop:=(x.h=-1\/∃j:Nat,j<n/\j≠i/\x.h=(j:Int))/\(∃r:Nat,r<=7/\x.r=(r:Int))/\∃v,x.a=Dt (amt v)
def aa1(nc:Nat)(al:List iK):Prop:=al.length<=2/\∀j,j<al.length->(ix al j).length=3/\∀t,t<3->amR nc (al.take j) (ix (ix al j) t)/\(ix (ix al j) t).length<=nc+1
section
variable {h h' : Tr Bk} {dv:B} {n eb:Nat} {m:Nat→Rat} {cl:Nat→List C5} {bs:Nat→Nat} {A:Nat→B} {al:Nat→List iK} {dl:List D5} {lo hi:Nat}
def mJ.none(p:Nat->Prop)(h:Tr Bk):mJ p h .bg []:=⟨λ_=>.bg,.inl ⟨rfl,rfl⟩,λi hi=>by simp at hi⟩
def wW.none(p:Nat->Prop)(h:Tr Bk):wW p h .bg []:=⟨λ_=>.bg,.inl ⟨rfl,rfl⟩,λi hi=>by simp at hi⟩
end
structure GI(σ σ':St)(t11 n eb:Nat)(dv:B)(mm:Nat->Rat)(cl:Nat->List C5)(bs:Nat->Nat)(A:Nat->B)(al:Nat->List iK)(dl:List D5):Prop where
 b:σ'.h t11=some ⟨[.sl eb 0 n .opn,dv],none⟩
 g:auU σ'.h dv n eb mm cl bs A al dl (t11+1) σ'.aj
 m:∀i,i<n->∃v,mm i=amt v
 c:∀i,i<n->(cl i).length<=6/\∀k,k<(cl i).length->ahB n i (ix (cl i) k)
 a:∀i,i<n->aa1 (cl i).length (al i)
 d:dl.length<=3/\∀j,j<dl.length->(ix dl j).l.length<=4/\∃v,(ix dl j).w=Dt (amt v)
 nx:t11+1<=σ'.aj
 lo:σ.aj<=t11
 fr:Fr σ σ'
 dg:∀j,j<dl.length->LGf (qc n mm cl al) (dl.take j) (ix dl j).l
def ahC:amt 0=0:=by rw[ZY jj];show((0:Int):Rat)/((1:Int):Rat)=0;grind
structure G0(σ σ':St)(t11 i:Nat)(ev:B)(m:Nat->Rat):Prop where
 b:σ'.h t11=some ⟨[ev,.bg],none⟩
 e:(i=0/\ev=.bg)\/∃eb,ev=.sl eb 0 i .opn/\0<i/\σ'.h eb=some ⟨dF i (asK m (λ_=>[]) (λ_=>0) (λ_=>.bg)),some (5,52)⟩/\t11+1<=eb/\eb<σ'.aj
 m:∀j,j<i->∃v,m j=amt v
 nx:t11+1<=σ'.aj
 fr:Fr σ σ'
end Go.Proofs.Xe
