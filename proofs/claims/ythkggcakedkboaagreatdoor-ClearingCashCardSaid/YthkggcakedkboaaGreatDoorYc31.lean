import Derived.Test.YthkggcakedkboaaGreatDoorYc30
set_option linter.all false
set_option maxHeartbeats 8000000
namespace Go.Proofs.Xe
open Go.RowKit Go.Proofs.Ins
def aic.at{p:Nat->Prop}{h:Tr Bk}{bv:B}{el:List xU}{L:List fJ}(hb:aic p h bv el L){i c:Nat}(hi:i<el.length)(hc:c<kE el i):∃b o cc b2 o2 cc2,bv=.sl b o el.length cc/\ld h b (o+i*1) 1 false=some (.c (.sl b2 o2 (kE el i) cc2))/\ld h b2 (o2+c*1) 1 false=some (.c (.bool (L.contains (i,c)))):=by obtain⟨T,h1,h2⟩:=hb;obtain⟨b,o,cc,e,-,hld⟩:=h1.pos jb;obtain⟨b2,o2,cc2,e2,-,Em⟩:=(h2 i hi).pos (by unfold kE at hc;omega);have h3:=(uO (hld i hi)).1;rw[e2]at h3;exact⟨b,o,cc,b2,o2,cc2,e,h3,(uO (Em c hc)).1⟩
theorem nY.grow{σ σ':St}{mb n lo hi:Nat}{C:Nat->Nat->List B}{bs:Nat->Nat}(hM:nY σ'.h mb n C bs lo hi){σ0:St}(h0:Fr σ0 σ){j:Nat}(hf:aT [bs j] σ σ')(hj:j<n)(hb:σ0.aj<=mb):Fr σ0 σ':=
 hf.to h0 λb hbb=>by rw[dt]at hbb;subst hbb;have:=(hM.r.r j hj).2.1;have:=hM.b;omega
structure nS(lo hi:Nat)(σ σ':St):Prop where
 le:σ.aj<=σ'.aj
 wf:WF σ'
 old:∀b,b<σ.aj->b<lo\/hi<=b->σ'.h b=σ.h b
section
variable {lo hi:Nat} {σ σ' MH : St}
def Fr.km(h:Fr σ σ'):nS lo hi σ σ':=⟨h.le,h.wf,λb hb _=>h.old b hb⟩
def nS.trans(h:nS lo hi σ σ')(h':nS lo hi σ' MH):nS lo hi σ MH:=⟨aw h.le h'.le,h'.wf,λb hb h2=>(h'.old b (aL hb h.le) h2).trans (h.old b hb h2)⟩
def nS.get(h:nS lo hi σ σ')(hW:WF σ){b:Nat}{k:Bk}(hb:σ.h b=some k)(h2:b<lo\/hi<=b):σ'.h b=some k:=by rw[h.old b (hW.lt hb) h2];exact hb
theorem nS.fr{σ0:St}(h0:Fr σ0 σ)(h:nS lo hi σ σ')(hl:σ0.aj<=lo):Fr σ0 σ':=⟨aw h0.le h.le,h.wf,λb hb=>(h.old b (aL hb h0.le) (.inl jb)).trans (h0.old b hb)⟩
def nY.km{mb n:Nat}{C:Nat->Nat->List B}{bs:Nat->Nat}(hM:nY σ'.h mb n C bs lo hi){j:Nat}(hf:aT [bs j] σ σ')(hj:j<n):nS lo hi σ σ':=⟨hf.le,hf.wf,λb hb h2=>hf.old b hb λhm=>by rw[dt]at hm;subst hm;have:=hM.r.r j hj;omega⟩
end
def aiI{m k:Nat}{F:Nat->Rat}(h:F k=0):bZ m (λi=>if i<k then F i else 0)=bZ m λi=>if i<k+1 then F i else 0:=dO λi _=>by
 by_cases e:i=k
 .subst e;rw[ae jb,ab jb,h]
 .by_cases e2:i<k
  .rw[ab e2,ab jb]
  .rw[ae e2,ae jb]
def arE{g:iJ}{j e c:Nat}(h0:0<(ix g.d j).l.length)(Es:ix (ix g.d j).l 0=⟨.ofNat e,.ofNat c⟩):Po (bC g) (dW g j,dL g j)=apH g e c:=by
 unfold Po dL;cases hl:(ix g.d j).l with
 |nil=>rw[hl]at h0;simp at h0
 |cons a t=>
  rw[hl]at Es
  have Es:a=⟨.ofNat e,.ofNat c⟩:=Es
  rw[Es];rfl
def au0{g:iJ}{j:Nat}(h0:(ix g.d j).l.length=0):Po (bC g) (dW g j,dL g j)=-1:=by unfold Po dL;rw[gw.mp h0];rfl
set_option maxRecDepth 10000 in
def aeD{σ:St}(hW:WF σ){sb:Nat}{g:iJ}{x:Nat->Rat}(hs:Et (Lt σ.aj) σ.h sb g){p:Nat->Prop}{Dv Sv:B}(hDv:dQ p σ.h Dv g.e.length (kE g.e) (Pz g x))(hSv:dQ p σ.h Sv g.e.length (kE g.e) (JY g x)){D:Nat}(hN:UD D g x):
  aC EN 64 [.c (.ptr sb 0),.agg [Dv,Sv]] σ λr σ'=>(∃mb bs hi,r=.c (.sl mb 0 g.e.length (.ex g.e.length))/\σ.aj<=mb/\hi<=σ'.aj/\nY σ'.h mb g.e.length (rC (gM g.e.length (bC g) x)) bs (mb+1) hi)/\Fr σ σ':=by
 refine aQ (jv.o _ _) jv.h ?_
 unfold jv
 dsimp only
 have hs':=hs
 obtain⟨⟨ev,dvv,lv,bv,hsb,hg,⟨R,P,hL1,hL2⟩,hB⟩,hsl⟩:=hs
 have Yn:=hN.A.s
 have hn:=Yn.n
 have hnd:=Yn.d
 have hD:=Yn.hD
 have hu:=aio
 have hlk:=hL1.kn
 have hll:=hL1.len
 have hlE:=hg.e.len
 have hlD:=hg.d.len
 have hek:=hg.e.kn
 have hdk:=hg.d.kn
 have k1:=hDv.kn
 have k2:=hSv.kn
 have hsl:sb<σ.aj:=hsl
 have hFr:=Fr.refl hW
 simp(disch:=try exact jz) only[go_sem,z3,k1,k2,ak hsb,hll,hlk]
 refine aC.st (Fr σ) (fr) λhF=>?_
 refine(XE hF.wf hn).mono ?_
 rintro _ σ2 ⟨⟨bs,rfl,hM⟩,hf2⟩
 have hF2:=hF.trans hf2
 have ars:=hF2.get hW hsb
 have q3:σ2.h σ.aj=some ⟨[Dv,Sv],none⟩:=hf2.get hF.wf (aA _ _ _)
 have hle2:σ.aj+1<=σ2.aj:=hf2.le
 have hlo2:=hM.l
 have hlo2:σ.aj+1+1<=σ2.aj:=hlo2
 have hM:nY σ2.h (σ.aj+1) g.e.length (rC λ_ _=>0) bs (σ.aj+1+1) σ2.aj:=hM
 rw[<-aip (g:=g) (x:=x)]at hM
 simp(disch:=try exact jz) only[go_sem,z3,ak ars,hlE,hek]
 refine bJ.mono (Q:=λex tm σ'=>ex=.exit 0/\Tr.ah tm 0=.c (.ptr sb 0)/\Tr.ah tm 3=.c (.ptr σ.aj 0)/\Tr.ah tm 5=.c (.sl (σ.aj+1) 0 g.e.length (.ex g.e.length))/\σ'.h σ.aj=some ⟨[Dv,Sv],none⟩/\nY σ'.h (σ.aj+1) g.e.length (rC (PL g x g.e.length 0)) bs (σ.aj+1+1) σ2.aj/\Fr σ σ'/\σ2.aj<=σ'.aj)
  (aF (λq tm σ'=>∃i,q=g.e.length-i/\i<=g.e.length/\Tr.ah tm 0=.c (.ptr sb 0)/\Tr.ah tm 3=.c (.ptr σ.aj 0)/\Tr.ah tm 5=.c (.sl (σ.aj+1) 0 g.e.length (.ex g.e.length))/\Tr.ah tm 31=.c ev/\Tr.ah tm 32=.c (.int .i64 (.ofNat g.e.length))/\Tr.ah tm 33=.c (.int .i64 (.ofNat i))/\σ'.h σ.aj=some ⟨[Dv,Sv],none⟩/\nY σ'.h (σ.aj+1) g.e.length (rC (PL g x i 0)) bs (σ.aj+1+1) σ2.aj/\Fr σ σ'/\σ2.aj<=σ'.aj) g.e.length ?_ ?_) ?_
 .refine⟨0,jb,jb,?_⟩
  simp(disch:=try exact jz) only[go_sem,z3,am]
  exact⟨q3,hM,hF2,jp⟩
 .rintro q tm σ' ⟨i,rfl,hi,t0,t3,t5,t31,t32,t33,q3,hM,hf,hnx⟩
  have hle:=hf.le
  simp(disch:=try exact jz) only[go_sem,z3,t0,t3,t5,t31,t32,t33,aG]
  refine aH (λhlt=>?_) (λhlt=>?_)
  .obtain⟨b5,o5,c5,rfl,C1,A1,bV,-,hC,hA1⟩:=hg.e.at hlt
   have bV:=hf.ld hW bV
   have Xp:=aZ.kn hC
   have hAk:=hA1.kn
   have hlC:=aZ.len hC
   have hkk:=Yn.k i hlt
   have kM:=Fr.refl hf.wf
   simp(disch:=try exact jz) only[go_sem,z3,t0,t3,t5,t31,t32,t33,bV,Xp,hAk,hlC]
   refine bJ.st (Fr σ') (fr) λiD=>?_
   have yL:=iD.le
   refine bJ.mono (Q:=λex tm σ4=>ex=.exit 2/\Tr.ah tm 0=.c (.ptr sb 0)/\Tr.ah tm 3=.c (.ptr σ.aj 0)/\Tr.ah tm 5=.c (.sl (σ.aj+1) 0 g.e.length (.ex g.e.length))/\Tr.ah tm 31=.c (.sl b5 o5 g.e.length c5)/\Tr.ah tm 32=.c (.int .i64 (.ofNat g.e.length))/\Tr.ah tm 33=.c (.int .i64 (.ofNat i))/\σ4.h σ.aj=some ⟨[Dv,Sv],none⟩/\nY σ4.h (σ.aj+1) g.e.length (rC (PL g x i (kE g.e i))) bs (σ.aj+1+1) σ2.aj/\Fr σ σ4/\σ2.aj<=σ4.aj)
    (aF (λq tm σ4=>∃c,q=kE g.e i-c/\c<=kE g.e i/\Tr.ah tm 0=.c (.ptr sb 0)/\Tr.ah tm 3=.c (.ptr σ.aj 0)/\Tr.ah tm 5=.c (.sl (σ.aj+1) 0 g.e.length (.ex g.e.length))/\Tr.ah tm 6=.c (.int .i64 (.ofNat i))/\Tr.ah tm 31=.c (.sl b5 o5 g.e.length c5)/\Tr.ah tm 32=.c (.int .i64 (.ofNat g.e.length))/\Tr.ah tm 33=.c (.int .i64 (.ofNat i))
     /\Tr.ah tm 39=.c C1/\Tr.ah tm 40=.c (.int .i64 (.ofNat (kE g.e i)))/\Tr.ah tm 41=.c (.int .i64 (.ofNat c))/\σ4.h σ.aj=some ⟨[Dv,Sv],none⟩/\nY σ4.h (σ.aj+1) g.e.length (rC (PL g x i c)) bs (σ.aj+1+1) σ2.aj/\Fr σ σ4/\σ2.aj<=σ4.aj) (kE g.e i) ?_ ?_) ?_
   .refine⟨0,jb,jb,?_⟩
    simp(disch:=try exact jz) only[go_sem,z3,t0,t3,t5,t31,t32,t33,am]
    and_intros<;>try(first|rfl|omega|exact q3|exact hM.fr iD jb|exact hf.trans iD)
   .rintro q tm σ4 ⟨c,rfl,hc,t0,t3,t5,t6,t31,t32,t33,t39,t40,t41,q34,hM4,hf4,hn4⟩
    have xu:=hf4.le
    simp(disch:=try exact jz) only[go_sem,z3,t0,t3,t5,t6,t31,t32,t33,t39,t40,t41,aG]
    refine aH (λJX=>?_) (λJX=>?_)
    .obtain⟨b8,o8,c8,e8,-,nO⟩:=aZ.pos hC (show 0<(ix g.e i).c.length by unfold kE at JX;omega)
     have nO:=hf4.ld hW (nO c JX)
     have e8:C1=.sl b8 o8 (kE g.e i) c8:=e8
     rw[e8]at t39
     unfold c5B at nO
     have Eo:=Fr.refl hf4.wf
     have aiJ:=hf4.get hW hsb
     have a3:V.c (.sl b8 o8 (kE g.e i) c8)=V.c C1:=by rw[e8]
     rcases hN.A.h i hlt c JX with hh|⟨hh,hh1,hh2⟩
     .have hsk:=XA (g:=g) (x:=x) (i:=i) (c:=c) (.inr hh)
      rw[hsk]at hM4
      simp(disch:=try exact jz) only[go_sem,z3,t0,t3,t5,t6,t31,t32,t33,t39,t40,t41,nO,hh]
      refine⟨kE g.e i-(c+1),jb,c+1,rfl,jb,?_⟩
      and_intros<;>try(first|rfl|omega|exact a3|exact q34|exact fr|exact hM4.fr (σ':=⟨_,σ4.aj+1⟩) fr hn4)
     .obtain⟨bb1,oo1,cc1,bb2,oo2,cc2,eb,ZN,Oh⟩:=hB.at hlt JX
      have ZN:=hf4.ld hW ZN
      have Oh:=hf4.ld hW Oh
      rw[eb]at aiJ
      cases hcn:(bC g).fA.contains (i,c)with
      |true=>
       rw[hcn]at Oh
       have hsk:=XA (g:=g) (x:=x) (i:=i) (c:=c) (.inl hcn)
       rw[hsk]at hM4
       have m1:=hf4.wf.dF ZN
       have m2:=hf4.wf.dF Oh
       simp(disch:=try exact jz) only[go_sem,z3,t0,t3,t5,t6,t31,t32,t33,t39,t40,t41,nO,hh1,oG,ak aiJ,ZN,Oh]
       refine⟨kE g.e i-(c+1),jb,c+1,rfl,jb,?_⟩
       and_intros<;>try(first|rfl|omega|exact a3|exact q34|exact fr|exact hM4.fr (σ':=⟨_,σ4.aj+1⟩) fr hn4)
      |false=>
       rw[hcn]at Oh
       obtain⟨bS,oS,cS,TS,eS,pS,hlS,hSr⟩:=hSv.at hlt
       obtain⟨bS2,oS2,cS2,eS2,pS2,amM⟩:=aZ.at3 hSr JX
       have hlS:=hf4.ld hW hlS
       have amM:=hf4.ld hW amM
       rw[eS2]at hlS
       rw[eS]at q34
       have m1:=hf4.wf.dF ZN
       have m2:=hf4.wf.dF Oh
       have m3:=hf4.wf.dF hlS
       have m4:=hf4.wf.dF amM
       have zM:Sz (PL g x i c hh i):=(hN.A' hlt λ_=>jb).sz hD jb
       have zS:Sz (JY g x i c):=(hN.s i hlt c JX).2.sz hD jb
       have au1:=amD (g:=g) (x:=x) hcn hh1
       simp(disch:=try exact jz) only[go_sem,z3,t0,t3,t5,t6,t31,t32,t33,t39,t40,t41,nO,hh1,oG,ak aiJ,ZN,Oh,hlS,amM,q34,ak q34]
       refine aC.st (Fr σ4) (fr) λkY=>?_
       refine(aar kY.wf (hM4.fr kY hn4) hn (by have:=kY.le;omega) hh2 hlt zM zS).mono ?_
       rintro _ σ6 ⟨hM6,gy⟩
       rw[au1]at hM6
       have zI:=gy.le
       have aw3:=hM6.grow (hf4.trans kY) gy hh2 jb
       have q36:σ6.h σ.aj=some ⟨[Dv,Sv],none⟩:=by rw[eS];refine gy.get kY.wf ?_ (kY.get hf4.wf q34);have:=(hM6.r.r hh hh2).2.1;simp;omega
       simp(disch:=try exact jz) only[go_sem,z3,t0,t3,t5,t6,t31,t32,t33,t39,t40,t41]
       have ax2:=kY.le
       refine⟨kE g.e i-(c+1),jb,c+1,rfl,jb,?_⟩
       and_intros<;>try(first|rfl|omega|exact a3|exact q36|exact hM6|exact aw3)
    .have:c=kE g.e i:=jb
     subst this
     simp(disch:=try exact jz) only[go_sem,z3,am]
     exact⟨t0,t3,t5,t31,t32,t33,q34,hM4,hf4,hn4⟩
   .rintro _ tm σ4 ⟨rfl,t0,t3,t5,t31,t32,t33,q34,hM4,hf4,hn4⟩
    rw[aiq]at hM4
    simp(disch:=try exact jz) only[go_sem,z3,t0,t3,t5,t31,t32,t33]
    exact⟨g.e.length-(i+1),jb,i+1,rfl,jb,rfl,q34,hM4,hf4,hn4⟩
  .have:i=g.e.length:=jb
   subst this
   simp(disch:=try exact jz) only[go_sem,z3,am]
   exact⟨t0,t3,t5,q3,hM,hf,hnx⟩
 rintro _ tm σ3 ⟨rfl,t0,t3,t5,q3,hM,hf3,hn3⟩
 have hM:nY σ3.h (σ.aj+1) g.e.length (rC (mgP g x 0)) bs (σ.aj+1+1) σ2.aj:=⟨hM.o,hM.r.congr λi _ c hc=>by unfold rC;rw[amE hc],hM.b,hM.l⟩
 have hle3:=hf3.le
 have aik:=hf3.get hW hsb
 simp(disch:=try exact jz) only[go_sem,z3,t0,t3,t5,ak aik,hlD,hdk]
 refine aF (λq tm σ'=>∃j,q=g.d.length-j/\j<=g.d.length/\Tr.ah tm 0=.c (.ptr sb 0)/\Tr.ah tm 3=.c (.ptr σ.aj 0)/\Tr.ah tm 5=.c (.sl (σ.aj+1) 0 g.e.length (.ex g.e.length))/\Tr.ah tm 81=.c dvv/\Tr.ah tm 82=.c (.int .i64 (.ofNat g.d.length))/\Tr.ah tm 83=.c (.int .i64 (.ofNat j))/\σ'.h σ.aj=some ⟨[Dv,Sv],none⟩/\nY σ'.h (σ.aj+1) g.e.length (rC (mgP g x j)) bs (σ.aj+1+1) σ2.aj/\Fr σ σ'/\σ2.aj<=σ'.aj) g.d.length ?_ ?_
 .refine⟨0,jb,jb,?_⟩
  simp(disch:=try exact jz) only[go_sem,z3,t0,t3,t5,am]
  exact⟨q3,hM,hf3,hn3⟩
 .rintro q tm σ' ⟨j,rfl,hj,t0,t3,t5,zK,t82,t83,q3,hM,hf,hnx⟩
  have hle:=hf.le
  simp(disch:=try exact jz) only[go_sem,z3,t0,t3,t5,zK,t82,t83,aG]
  refine aH (λhlt=>?_) (λhlt=>?_)
  .obtain⟨b5,o5,c5,rfl,L1,bV,hL⟩:=hg.d.el hlt
   have bV:=hf.ld hW bV
   have hLk:=aZ.kn hL
   have hlL:=aZ.len hL
   obtain⟨hlen,Ig⟩:=Yn.l j hlt
   obtain⟨hwf,hw0,hwz⟩:=Yn.w j hlt
   have kM:=Fr.refl hf.wf
   generalize hm:(ix g.d j).l.length=m at*
   simp(disch:=try exact jz) only[go_sem,z3,t0,t3,t5,zK,t82,t83,bV,hLk,ak q3,k1,k2]
   refine aC.st (Fr σ') (fr) λiD=>?_
   have hf5:=hf.trans iD
   refine(aag iD.wf (aZ.fr hW hf5 hL) (hDv.fr hW hf5) rfl rfl rfl jb (by rw[hm];exact Ig)).mono ?_
   rintro _ σ6 ⟨⟨b12,rfl,TF,aor,ax3⟩,gy⟩
   have kY:=iD.trans gy
   have aac:=hf.trans kY
   have zI:σ'.aj+1<=σ6.aj:=gy.le
   have aor:σ'.aj+1<=b12:=aor
   have q11:σ6.h σ'.aj=some ⟨[.bool (ix g.d j).w.n,.str (ix g.d j).w.s,.str (ix g.d j).w.d,L1],none⟩:=gy.get iD.wf (aA _ _ _)
   have q36:=kY.get hf.wf q3
   rw[hm]at TF⊢
   simp(disch:=try exact jz) only[go_sem,z3,t0,t3,t5,zK,t82,t83,ak q11,hLk,ak q36,k1,k2]
   refine(aag gy.wf (aZ.fr hW aac hL) (hSv.fr hW aac) rfl rfl rfl jb (by rw[hm];exact Ig)).mono ?_
   rintro _ σ7 ⟨⟨b13,rfl,Zu,ax4,ax5⟩,mW⟩
   have rJ:=kY.trans mW
   have ail:=hf.trans rJ
   have amB:=mW.le
   have aiK:=mW.get gy.wf q11
   have q37:=mW.get gy.wf q36
   have aiL:=mW.get gy.wf TF
   have hM7:=hM.fr rJ hnx
   have aw4:=ail.get hW hsb
   rw[hm]at Zu⊢
   have aiL:σ7.h b12=some ⟨bZ m (QW g x j),none⟩:=aiL
   rw[air]at hM7
   simp(disch:=try exact jz) only[go_sem,z3,t0,t3,t5,zK,t82,t83,ak aw4,hll,hlk]
   have ayH:σ2.aj<=σ7.aj:=jb
   refine bJ.mono (Q:=λex tm σ8=>ex=.exit 6/\Tr.ah tm 0=.c (.ptr sb 0)/\Tr.ah tm 3=.c (.ptr σ.aj 0)/\Tr.ah tm 5=.c (.sl (σ.aj+1) 0 g.e.length (.ex g.e.length))/\Tr.ah tm 81=.c (.sl b5 o5 g.d.length c5)/\Tr.ah tm 82=.c (.int .i64 (.ofNat g.d.length))/\Tr.ah tm 83=.c (.int .i64 (.ofNat j))/\nY σ8.h (σ.aj+1) g.e.length (rC (Ji g x j g.e.length λ_=>0)) bs (σ.aj+1+1) σ2.aj/\nS (σ.aj+1+1) σ2.aj σ7 σ8)
    (aF (λq tm σ8=>∃i,q=g.e.length-i/\i<=g.e.length/\Tr.ah tm 0=.c (.ptr sb 0)/\Tr.ah tm 3=.c (.ptr σ.aj 0)/\Tr.ah tm 5=.c (.sl (σ.aj+1) 0 g.e.length (.ex g.e.length))/\Tr.ah tm 11=.c (.ptr σ'.aj 0)/\Tr.ah tm 12=.c (.sl b12 0 m (.ex m))/\Tr.ah tm 13=.c (.sl b13 0 m (.ex m))/\Tr.ah tm 81=.c (.sl b5 o5 g.d.length c5)/\Tr.ah tm 82=.c (.int .i64 (.ofNat g.d.length))/\Tr.ah tm 83=.c (.int .i64 (.ofNat j))
     /\Tr.ah tm 98=.c lv/\Tr.ah tm 99=.c (.int .i64 (.ofNat g.e.length))/\Tr.ah tm 100=.c (.int .i64 (.ofNat i))/\nY σ8.h (σ.aj+1) g.e.length (rC (Ji g x j i λ_=>0)) bs (σ.aj+1+1) σ2.aj/\nS (σ.aj+1+1) σ2.aj σ7 σ8) g.e.length ?_ ?_) ?_
   .refine⟨0,jb,jb,?_⟩
    simp(disch:=try exact jz) only[go_sem,z3,t0,t3,t5,zK,t82,t83,am]
    exact⟨hM7,(Fr.refl mW.wf).km⟩
   .rintro q tm σ8 ⟨i,rfl,hi,t0,t3,t5,t11,t12,t13,zK,t82,t83,F5,Ep,ru,hM8,hK8⟩
    have oI:=hK8.fr ail jb
    have aiH:=oI.le
    have hn8:=hK8.le
    have q38:=hK8.get mW.wf q37 (.inl jb)
    have au2:=hK8.get mW.wf aiK (.inr jb)
    have au3:=hK8.get mW.wf aiL (.inr jb)
    have au4:=hK8.get mW.wf Zu (.inr jb)
    simp(disch:=try exact jz) only[go_sem,z3,t0,t3,t5,t11,t12,t13,zK,t82,t83,F5,Ep,ru,aG]
    refine aH (λJk=>?_) (λJk=>?_)
    .have aw5:=Fr.refl oI.wf
     have aiM:lenV (.c L1)=some (.c (.int .i64 (.ofNat m))):=hlL
     simp(disch:=try exact jz) only[go_sem,z3,t0,t3,t5,t11,t12,t13,zK,t82,t83,F5,Ep,ru,ak au2,aiM,hLk]
     refine bJ.st (Fr σ8) (fr) λBf=>?_
     have aw6:=Bf.le
     refine bJ.mono (Q:=λex tm σ4=>ex=.exit 8/\Tr.ah tm 0=.c (.ptr sb 0)/\Tr.ah tm 3=.c (.ptr σ.aj 0)/\Tr.ah tm 5=.c (.sl (σ.aj+1) 0 g.e.length (.ex g.e.length))/\Tr.ah tm 11=.c (.ptr σ'.aj 0)/\Tr.ah tm 12=.c (.sl b12 0 m (.ex m))/\Tr.ah tm 13=.c (.sl b13 0 m (.ex m))/\Tr.ah tm 14=.c (.int .i64 (.ofNat i))/\Tr.ah tm 15=.c (.sl σ8.aj 0 m (.ex m))/\Tr.ah tm 81=.c (.sl b5 o5 g.d.length c5)/\Tr.ah tm 82=.c (.int .i64 (.ofNat g.d.length))/\Tr.ah tm 83=.c (.int .i64 (.ofNat j))
       /\Tr.ah tm 98=.c lv/\Tr.ah tm 99=.c (.int .i64 (.ofNat g.e.length))/\Tr.ah tm 100=.c (.int .i64 (.ofNat i))/\σ4.h σ8.aj=some ⟨bZ m (Ih g x j i),none⟩/\Fr σ8 σ4/\σ8.aj+1<=σ4.aj)
      (aF (λq tm σ4=>∃k,q=m-k/\k<=m/\Tr.ah tm 0=.c (.ptr sb 0)/\Tr.ah tm 3=.c (.ptr σ.aj 0)/\Tr.ah tm 5=.c (.sl (σ.aj+1) 0 g.e.length (.ex g.e.length))/\Tr.ah tm 11=.c (.ptr σ'.aj 0)/\Tr.ah tm 12=.c (.sl b12 0 m (.ex m))/\Tr.ah tm 13=.c (.sl b13 0 m (.ex m))/\Tr.ah tm 14=.c (.int .i64 (.ofNat i))/\Tr.ah tm 15=.c (.sl σ8.aj 0 m (.ex m))/\Tr.ah tm 81=.c (.sl b5 o5 g.d.length c5)/\Tr.ah tm 82=.c (.int .i64 (.ofNat g.d.length))/\Tr.ah tm 83=.c (.int .i64 (.ofNat j))
       /\Tr.ah tm 98=.c lv/\Tr.ah tm 99=.c (.int .i64 (.ofNat g.e.length))/\Tr.ah tm 100=.c (.int .i64 (.ofNat i))/\Tr.ah tm 107=.c L1/\Tr.ah tm 108=.c (.int .i64 (.ofNat m))/\Tr.ah tm 109=.c (.int .i64 (.ofNat k))/\σ4.h σ8.aj=some ⟨bZ m (λk'=>if k'<k then Ih g x j i k' else 0),none⟩/\Fr σ8 σ4/\σ8.aj+1<=σ4.aj) m ?_ ?_) ?_
     .refine⟨0,jb,jb,?_⟩
      simp(disch:=try exact jz) only[go_sem,z3,t0,t3,t5,t11,t12,t13,zK,t82,t83,F5,Ep,ru,am]
      exact⟨by rw[xq],Bf,jp⟩
     .rintro q tm σ4 ⟨k,rfl,hk,t0,t3,t5,t11,t12,t13,t14,t15,zK,t82,t83,F5,Ep,ru,t107,UF,t109,PG,hf4,hn4⟩
      have xu:=hf4.le
      simp(disch:=try exact jz) only[go_sem,z3,t0,t3,t5,t11,t12,t13,t14,t15,zK,t82,t83,F5,Ep,ru,t107,UF,t109,aG]
      refine aH (λhltk=>?_) (λhltk=>?_)
      .obtain⟨b6,o6,c6,e6,-,bU⟩:=aZ.pos hL jb
       have bU:=(oI.trans hf4).ld hW (bU k jb)
       obtain⟨e,c,Es,he,hc⟩:=Ig k hltk
       unfold Kv at bU
       rw[Es]at bU
       rw[hm]at e6
       have aiN:=hf4.get oI.wf au4
       have Eo:=Fr.refl hf4.wf
       have hst:=qW m k (Ih g x j i)
       have hgs:Ih g x j i k=if e=i then JY g x e c else 0:=by unfold Ih;rw[Es];rfl
       have a3:V.c (.sl b6 o6 m c6)=V.c L1:=by rw[e6]
       have hsl:(λk=>JY g x (zH (ix (ix g.d j).l k)).1 (zH (ix (ix g.d j).l k)).2) k=JY g x e c:=by dsimp only;rw[Es];rfl
       rw[e6]at t107
       have ax6:=hf4.wf.lt aiN
       by_cases hei:e=i
       .rw[hgs,ab hei,hei]at hst
        have hdE:decide ((Int.ofNat e:Int)=Int.ofNat i)=true:=bB (by rw[hei])
        simp(disch:=try exact jz) only[go_sem,z3,t0,t3,t5,t11,t12,t13,t14,t15,zK,t82,t83,F5,Ep,ru,t107,UF,t109,bU,hei,aiN,ak aiN,hsl,PG,aI PG,hst]
        refine⟨m-(k+1),jb,k+1,rfl,jb,?_⟩
        and_intros<;>try(first|rfl|omega|exact a3|exact fr)
       .have hne:¬(Int.ofNat e:Int)=Int.ofNat i:=λh=>hei (Int.ofNat.inj h)
        have hsk:=aiI (m:=m) (k:=k) (F:=Ih g x j i) (by rw[hgs,ae hei])
        simp(disch:=try exact jz) only[go_sem,z3,t0,t3,t5,t11,t12,t13,t14,t15,zK,t82,t83,F5,Ep,ru,t107,UF,t109,bU,hne]
        rw[hsk]at PG
        refine⟨m-(k+1),jb,k+1,rfl,jb,?_⟩
        and_intros<;>try(first|rfl|omega|exact a3|exact PG|exact fr)
      .have:k=m:=jb
       subst this
       simp(disch:=try exact jz) only[go_sem,z3,am]
       rw[yj]at PG
       exact⟨t0,t3,t5,t11,t12,t13,t14,t15,zK,t82,t83,F5,Ep,ru,PG,hf4,hn4⟩
     .rintro _ tm σ4 ⟨rfl,t0,t3,t5,t11,t12,t13,t14,t15,zK,t82,t83,F5,Ep,ru,PG,hf4,hn4⟩
      have xu:=hf4.le
      have au5:=hf4.get oI.wf au2
      have au6:=hf4.get oI.wf au3
      have hZ:∀k,k<m->(0<=QW g x j k/\0<=Ih g x j i k)/\Zk D 1 (QW g x j k)/\Zk D 1 (Ih g x j i k):=λk hk=>by
       obtain⟨e,c,h1,h2,h3⟩:=Ig k hk;obtain⟨h4,h5⟩:=Yn.q e h2 c h3;obtain⟨h6,h7⟩:=hN.gs hlt i (zH (ix (ix g.d j).l k)) (cQ.mpr ⟨_,lC jb,rfl⟩);refine⟨⟨?_,h7⟩,?_,h6⟩
       .unfold QW;rw[h1];exact h4
       .unfold QW;rw[h1];exact h5
      simp(disch:=try exact jz) only[go_sem,z3,t0,t3,t5,t11,t12,t13,t14,t15,zK,t82,t83,F5,Ep,ru,ak au5]
      refine(aiC (W:=dW g j) (q:=QW g x j) (r:=Ih g x j i) (p:=λ_=>True) (p':=λ_=>True) hf4.wf rfl (by have:=hwf.1;have:=hwf.2;omega) (bf (G:=λk=>gX (QW g x j k)) _ au6 rfl trivial (λ_=>rfl) jj λ_ _=>rfl) (bf (G:=λk=>gX (Ih g x j i k)) _ PG rfl trivial (λ_=>rfl) jj λ_ _=>rfl) jb (λk hk=>(hZ k hk).1) hw0 hD hwz λk hk=>(hZ k hk).2).mono ?_
      rintro _ σ5 ⟨⟨rb,rfl,hrb,awT,awU⟩,hf5⟩
      have iD:=hf4.trans hf5
      have yL:=hf5.le
      have XH:=hM8.fr iD jb
      have hK5:=hK8.trans iD.km
      have UA:=hf5.get hf4.wf PG
      have au7:=hf5.get hf4.wf au5
      rw[ait j i]at XH
      have hu1:∀k,k<=m->Zk D k (aB k (Ih g x j i)):=λk hk=>Zk.zJ λa ha=>(hZ a jb).2.2
      have hu2:∀k,k<=m->Zk D 1000 (aB k (PK (dW g j) (QW g x j) (Ih g x j i))):=λk hk=>by
       rw[KU];unfold nN;split
       .exact(hu1 k hk).mono jb
       .exact Zk.zero.mono (bp _)
      have hu3:∀k,k<m->Zk D 2000 (PK (dW g j) (QW g x j) (Ih g x j i) k):=λk hk=>by have h1:=hu2 (k+1) jb;have h2:=hu2 k jb;rw[KU]at h1 h2;exact h1.sub h2
      simp(disch:=try exact jz) only[go_sem,z3,t0,t3,t5,t11,t12,t13,t14,t15,zK,t82,t83,F5,Ep,ru]
      refine bJ.mono (Q:=λex tm σ9=>ex=.exit 10/\Tr.ah tm 0=.c (.ptr sb 0)/\Tr.ah tm 3=.c (.ptr σ.aj 0)/\Tr.ah tm 5=.c (.sl (σ.aj+1) 0 g.e.length (.ex g.e.length))/\Tr.ah tm 11=.c (.ptr σ'.aj 0)/\Tr.ah tm 12=.c (.sl b12 0 m (.ex m))/\Tr.ah tm 13=.c (.sl b13 0 m (.ex m))/\Tr.ah tm 14=.c (.int .i64 (.ofNat i))/\Tr.ah tm 15=.c (.sl σ8.aj 0 m (.ex m))/\Tr.ah tm 18=.c (.sl rb 0 m (.ex m))/\Tr.ah tm 81=.c (.sl b5 o5 g.d.length c5)/\Tr.ah tm 82=.c (.int .i64 (.ofNat g.d.length))/\Tr.ah tm 83=.c (.int .i64 (.ofNat j))/\Tr.ah tm 98=.c lv/\Tr.ah tm 99=.c (.int .i64 (.ofNat g.e.length))/\Tr.ah tm 100=.c (.int .i64 (.ofNat i))/\nY σ9.h (σ.aj+1) g.e.length (rC (Ji g x j i (QU g x j i m))) bs (σ.aj+1+1) σ2.aj/\nS (σ.aj+1+1) σ2.aj σ5 σ9)
       (aF (λq tm σ9=>∃k,q=m-k/\k<=m/\Tr.ah tm 0=.c (.ptr sb 0)/\Tr.ah tm 3=.c (.ptr σ.aj 0)/\Tr.ah tm 5=.c (.sl (σ.aj+1) 0 g.e.length (.ex g.e.length))/\Tr.ah tm 11=.c (.ptr σ'.aj 0)/\Tr.ah tm 12=.c (.sl b12 0 m (.ex m))/\Tr.ah tm 13=.c (.sl b13 0 m (.ex m))/\Tr.ah tm 14=.c (.int .i64 (.ofNat i))/\Tr.ah tm 15=.c (.sl σ8.aj 0 m (.ex m))/\Tr.ah tm 18=.c (.sl rb 0 m (.ex m))/\Tr.ah tm 81=.c (.sl b5 o5 g.d.length c5)/\Tr.ah tm 82=.c (.int .i64 (.ofNat g.d.length))/\Tr.ah tm 83=.c (.int .i64 (.ofNat j))/\Tr.ah tm 98=.c lv/\Tr.ah tm 99=.c (.int .i64 (.ofNat g.e.length))/\Tr.ah tm 100=.c (.int .i64 (.ofNat i))/\Tr.ah tm 131=.c (.sl rb 0 m (.ex m))/\Tr.ah tm 132=.c (.int .i64 (.ofNat m))/\Tr.ah tm 133=.c (.int .i64 (.ofNat k))/\nY σ9.h (σ.aj+1) g.e.length (rC (Ji g x j i (QU g x j i k))) bs (σ.aj+1+1) σ2.aj/\nS (σ.aj+1+1) σ2.aj σ5 σ9) m ?_ ?_) ?_
      .refine⟨0,jb,jb,?_⟩
       simp(disch:=try exact jz) only[go_sem,z3,t0,t3,t5,t11,t12,t13,t14,t15,zK,t82,t83,F5,Ep,ru,am]
       exact⟨XH,(Fr.refl hf5.wf).km⟩
      .rintro q tm σ9 ⟨k,rfl,hk,t0,t3,t5,t11,t12,t13,t14,t15,oh,zK,t82,t83,F5,Ep,ru,t131,arF,arG,hM9,hK9⟩
       have hn9:=hK9.le
       simp(disch:=try exact jz) only[go_sem,z3,t0,t3,t5,t11,t12,t13,t14,t15,oh,zK,t82,t83,F5,Ep,ru,t131,arF,arG,aG]
       refine aH (λhltk=>?_) (λhltk=>?_)
       .obtain⟨b6,o6,c6,e6,-,bU⟩:=aZ.pos hL jb
        have bU:=(hK9.fr (oI.trans iD) jb).ld hW (bU k jb)
        obtain⟨e,c,Es,he,hc⟩:=Ig k hltk
        unfold Kv at bU
        rw[Es]at bU
        rw[hm]at e6
        have l1:=Ac bU 1 false jj jj
        have JZ:=hK9.get hf5.wf au7 (.inr jb)
        rw[e6]at JZ
        have arH:=hK9.get hf5.wf hrb (.inr jb)
        have auC:=Fr.refl hK9.wf
        have m1:=hK9.wf.dF l1
        have m2:=hK9.wf.lt JZ
        have m3:=hK9.wf.lt arH
        have zM:Sz (Ji g x j i (QU g x j i k) e i):=(hN.D' hlt Jk (hN.U hlt i k e)).sz hD jb
        have zS:Sz (PK (dW g j) (QW g x j) (Ih g x j i) k):=(hu3 k hltk).sz hD jb
        have hst:=amH (x:=x) (i:=i) (show k<(ix g.d j).l.length by omega) Es
        simp(disch:=try exact jz) only[go_sem,z3,t0,t3,t5,t11,t12,t13,t14,t15,oh,zK,t82,t83,F5,Ep,ru,t131,arF,arG,arH,ak arH,JZ,ak JZ,l1]
        refine aC.st (Fr σ9) (fr) λhFa=>?_
        have aw7:=hFa.le
        refine(aar hFa.wf (hM9.fr hFa jb) hn jb he Jk zM zS).mono ?_
        rintro _ σb ⟨hMb,hfb⟩
        rw[hst]at hMb
        have hKb:=(hK9.trans hFa.km).trans (hMb.km hfb he)
        simp(disch:=try exact jz) only[go_sem,z3,t0,t3,t5,t11,t12,t13,t14,t15,oh,zK,t82,t83,F5,Ep,ru,t131,arF,arG]
        refine⟨m-(k+1),jb,k+1,rfl,jb,?_⟩
        and_intros<;>try(first|rfl|omega|exact bO V.c e6.symm|exact hMb|exact hKb)
       .have:k=m:=jb
        subst this
        simp(disch:=try exact jz) only[go_sem,z3,am]
        exact⟨t0,t3,t5,t11,t12,t13,t14,t15,oh,zK,t82,t83,F5,Ep,ru,hM9,hK9⟩
      .rintro _ tm σ9 ⟨rfl,t0,t3,t5,t11,t12,t13,t14,t15,oh,zK,t82,t83,F5,Ep,ru,hM9,hK9⟩
       have hn9:=hK9.le
       have Uk:=hK9.fr (oI.trans iD) (show σ.aj<=σ.aj+1+1 by omega)
       have JZ:=hK9.get hf5.wf au7 (.inr jb)
       have arI:=hK5.trans hK9
       by_cases hm0:m=0
       .have hMe:nY σ9.h (σ.aj+1) g.e.length (rC (Ji g x j (i+1) λ_=>0)) bs (σ.aj+1+1) σ2.aj:=by rw[<-Ox,<-XB (au0 jb),hm];exact hM9
        have hz:(Int.ofNat 0<Int.ofNat m)=False:=by rw[hm0];exact propext ⟨λh=>absurd h jj,False.elim⟩
        simp(disch:=try exact jz) only[go_sem,z3,t0,t3,t5,t11,t12,t13,t14,t15,oh,zK,t82,t83,F5,Ep,ru,ak JZ,aiM,hLk,hz]
        refine⟨g.e.length-(i+1),jb,i+1,rfl,jb,?_⟩
        and_intros<;>try(first|rfl|omega|exact hMe|exact arI)
       .obtain⟨e,c,Es,he,hc⟩:=Ig 0 jb
        have hz:(Int.ofNat 0<Int.ofNat m)=True:=eq_true (by show(0:Int)<(m:Int);omega)
        have hd:=arE (g:=g) (j:=j) jb Es
        have hL9:=aZ.fr hW Uk hL
        have auC:=Fr.refl hK9.wf
        simp(disch:=try exact jz) only[go_sem,z3,t0,t3,t5,t11,t12,t13,t14,t15,oh,zK,t82,t83,F5,Ep,ru,ak JZ,aiM,hLk,hz]
        refine(XF hK9.wf (hs'.fr Uk) hL9 rfl rfl rfl jb Es he hc hn (Yn.k e he)).mono ?_
        rintro _ σa ⟨rfl,hfa⟩
        have aw8:=hfa.get hK9.wf JZ
        have hfA:=Uk.trans hfa
        have aw7:=hfa.le
        rcases hN.A.h e he c hc with hh|⟨hh,hh1,hh2⟩
        .have hh:apH g e c=.negSucc 0:=hh
         have hMe:nY σa.h (σ.aj+1) g.e.length (rC (Ji g x j (i+1) λ_=>0)) bs (σ.aj+1+1) σ2.aj:=by rw[<-Ox,<-XB (hd.trans hh),hm];exact hM9.fr hfa jb
         simp(disch:=try exact jz) only[go_sem,z3,t0,t3,t5,t11,t12,t13,t14,t15,oh,zK,t82,t83,F5,Ep,ru,hh]
         refine⟨g.e.length-(i+1),jb,i+1,rfl,jb,?_⟩
         and_intros<;>try(first|rfl|omega|exact hMe|exact arI.trans hfa.km)
        .have hh1:apH g e c=.ofNat hh:=hh1
         simp(disch:=try exact jz) only[go_sem,z3,t0,t3,t5,t11,t12,t13,t14,t15,oh,zK,t82,t83,F5,Ep,ru,hh1,oG,ak aw8,hLk]
         refine(XF hfa.wf (hs'.fr hfA) (aZ.fr hW hfA hL) rfl rfl rfl jb Es he hc hn (Yn.k e he)).mono ?_
         rintro _ σb ⟨rfl,hfb⟩
         have hFb:=hfa.trans hfb
         have qob:=hFb.get hK9.wf (hK9.get hf5.wf UA (.inr jb))
         have aw9:=hFb.get hK9.wf (hK9.get hf5.wf hrb (.inr jb))
         simp(disch:=try exact jz) only[go_sem,z3,t0,t3,t5,t11,t12,t13,t14,t15,oh,zK,t82,t83,F5,Ep,ru,hh1]
         refine(aoo (p:=λ_=>True) hfb.wf (bf (G:=λk=>gX (Ih g x j i k)) _ qob rfl trivial (λ_=>rfl) jj λ_ _=>rfl) jb (λk hk=>(hZ k hk).2.2.sz hD jb) λk hk=>(hu1 k hk).sz hD jb).mono ?_
         rintro _ σc ⟨rfl,hfc⟩
         have axa:=hfc.get hfb.wf aw9
         simp(disch:=try exact jz) only[go_sem,z3,t0,t3,t5,t11,t12,t13,t14,t15,oh,zK,t82,t83,F5,Ep,ru,hh1]
         refine(aoo (p:=λ_=>True) hfc.wf (bf (G:=λk=>gX (PK (dW g j) (QW g x j) (Ih g x j i) k)) _ axa rfl trivial (λ_=>rfl) jj λ_ _=>rfl) jb (λk hk=>(hu3 k hk).sz hD jb) λk hk=>(hu2 k hk).sz hD jb).mono ?_
         rintro _ σd ⟨rfl,hfd⟩
         have hFd:=(hFb.trans hfc).trans hfd
         have ayI:=hFd.le
         have z1:Sz (aB m (Ih g x j i)):=(hu1 m jp).sz hD jb
         have z2:Sz (aB m (PK (dW g j) (QW g x j) (Ih g x j i))):=(hu2 m jp).sz hD jb
         have z3:Sz (aB m (Ih g x j i)-aB m (PK (dW g j) (QW g x j) (Ih g x j i))):=((hu1 m jp).sub (hu2 m jp)).sz hD jb
         have zM:Sz (Ji g x j i (QU g x j i m) hh i):=(hN.D' hlt Jk (hN.U hlt i m hh)).sz hD jb
         have hst:=amI (x:=x) (t:=j) (i:=i) (hh:=hh) (hd.trans hh1)
         rw[hm]at hst
         simp(disch:=try exact jz) only[go_sem,z3,t0,t3,t5,t11,t12,t13,t14,t15,oh,zK,t82,t83,F5,Ep,ru,hh1]
         refine(aar hfd.wf (hM9.fr hFd jb) hn jb hh2 Jk zM z3).mono ?_
         rintro _ σe ⟨hMe,hfe⟩
         rw[hst,Ox]at hMe
         have hKe:=(arI.trans hFd.km).trans (hMe.km hfe hh2)
         simp(disch:=try exact jz) only[go_sem,z3,t0,t3,t5,t11,t12,t13,t14,t15,oh,zK,t82,t83,F5,Ep,ru]
         refine⟨g.e.length-(i+1),jb,i+1,rfl,jb,?_⟩
         and_intros<;>try(first|rfl|omega|exact hMe|exact hKe)
    .have:i=g.e.length:=jb
     subst this
     simp(disch:=try exact jz) only[go_sem,z3,am]
     exact⟨t0,t3,t5,zK,t82,t83,hM8,hK8⟩
   .rintro _ tm σ8 ⟨rfl,t0,t3,t5,zK,t82,t83,hM8,hK8⟩
    have oI:=hK8.fr ail (show σ.aj<=σ.aj+1+1 by omega)
    have hn8:=hK8.le
    have q38:=hK8.get mW.wf q37 (.inl jb)
    have hM8:nY σ8.h (σ.aj+1) g.e.length (rC (mgP g x (j+1))) bs (σ.aj+1+1) σ2.aj:=⟨hM8.o,hM8.r.congr λi _ c hc=>by unfold rC;rw[amF hlt hc],hM8.b,hM8.l⟩
    simp(disch:=try exact jz) only[go_sem,z3,t0,t3,t5,zK,t82,t83]
    exact⟨g.d.length-(j+1),jb,j+1,rfl,jb,rfl,q38,hM8,oI,jb⟩
  .have:j=g.d.length:=jb
   subst this
   simp(disch:=try exact jz) only[go_sem,z3,t5]
   exact⟨⟨_,bs,σ2.aj,rfl,jb,hnx,hM.o,hM.r.congr λi _ c hc=>by unfold rC;rw[amG],hM.b,hM.l⟩,hf⟩
end Go.Proofs.Xe
