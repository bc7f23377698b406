import Derived.Test.YtjhhfbbndfpdaaaGreatDoorYg31
set_option linter.all false
set_option maxRecDepth 100000
set_option maxHeartbeats 8000000
namespace Go.Proofs.Xe
open Go.RowKit Go.Proofs.Ins
def qL(a:Nat):(Int.ofNat a=Int.negSucc 0)=False:=by simp
def azh{J:St}(hW:WF J){p p':Nat->Prop}{x1 x2 x3 C Av tv:B}{cs:List C5}{a:fD}(hC:pJ p J.h C cs)(hT:dR p' J.h tv a)(h1:x1.kn=true)(h2:x2.kn=true)(h3:x3.kn=true)(h4:Av.kn=true){A:Nat}(hA:Dl A)(hO:ale A cs a):
  aC EN 110 [.agg [x1,x2,x3,C,Av],.agg [tv]] J λr J'=>(∃mv lv,r=.agg [mv,lv]/\acD (λb=>J.aj<=b/\b<J'.aj) J'.h mv (kU a)/\zY (λb=>J.aj<=b/\b<J'.aj) J'.h lv (qB cs a).2)/\Fr J J':=by
 refine aN (wS.o _ _) wS.h ?_
 unfold wS
 dsimp only
 have SY:=aZ.kn hC
 have WT:=hT.kn
 have Jy:=aZ.len hC
 have akA:=hT.len
 have hnc:=hO.nc
 have hna:=hO.na
 have hFr:=Fr.refl hW
 have hPc:=avm hA.1
 simp(disch:=try exact jz)only[go_sem,WT]
 refine aC.st (Fr J) (fr) λhF1=>?_
 refine(Ve hF1.wf (hT.fr hW hF1) jb hO.nf).mono ?_
 rintro _ σ1 ⟨⟨mv,rfl,hM⟩,hf1⟩
 have hF:=hF1.trans hf1
 have hle1:J.aj+1+1<=σ1.aj:=ar (by show _<=J.aj+1+1+1;omega) hf1.le
 have hle2:J.aj+1+1+1<=σ1.aj:=hf1.le
 have hM:iZ σ1.h mv (xP a).length (λi=>[.int .i64 (ix (xP a) i)]) 1 3 (J.aj+1+1+1) σ1.aj:=hM
 have q0:σ1.h J.aj=some ⟨[x1,x2,x3,C,Av],none⟩:=hf1.get hF1.wf ((ak _ _ _ _ jb).trans ((ak _ _ _ _ jb).trans (ay _ _ _)))
 have q1:σ1.h (J.aj+1)=some ⟨[tv],none⟩:=hf1.get hF1.wf ((ak _ _ _ _ jb).trans (ay _ _ _))
 have q2:σ1.h (J.aj+1+1)=some ⟨[.aO,.aO],none⟩:=hf1.get hF1.wf (ay _ _ _)
 have hMk:=hM.kn
 have WR:=Fr.refl hF.wf
 simp(disch:=try exact jz)only[go_sem,au q0,SY,Jy]
 refine bM.mono (Q:=λex tm J'=>ex=.exit 0/\r8 tm 3=.c (.ptr (J.aj+1) 0)/\r8 tm 4=.c (.ptr (J.aj+1+1) 0)/\r8 tm 5=.c (.ptr σ1.aj 0)/\r8 tm 6=.c (.sl (σ1.aj+1) 0 cs.length (.ex cs.length))/\J'.h σ1.aj=some ⟨[mv,.aO],none⟩/\J'.h (σ1.aj+1)=some ⟨cO cs.length (lsS cs a 0).1,none⟩/\Fr σ1 J'/\σ1.aj+1+1<=J'.aj)
  (aF (λq tm J'=>∃k,q=cs.length-k/\k<=cs.length/\r8 tm 3=.c (.ptr (J.aj+1) 0)/\r8 tm 4=.c (.ptr (J.aj+1+1) 0)/\r8 tm 5=.c (.ptr σ1.aj 0)/\r8 tm 6=.c (.sl (σ1.aj+1) 0 cs.length (.ex cs.length))/\r8 tm 26=.c C/\r8 tm 27=jN cs.length/\r8 tm 28=jN k
   /\J'.h σ1.aj=some ⟨[mv,.aO],none⟩/\J'.h (σ1.aj+1)=some ⟨cO cs.length (λi=>if i<k then(ix cs i).a.q else 0),none⟩/\Fr σ1 J'/\σ1.aj+1+1<=J'.aj) cs.length ?_ ?_) ?_
 .refine⟨0,jb,jb,?_⟩
  refine WN ?_
  refine⟨?_,fr,jb⟩
  congr 2
 .rintro q tm J' ⟨k,rfl,hk,t3,t4,t5,t6,t26,t27,t28,p5,p6,hf,hnx⟩
  have hle:=hf.le
  simp(disch:=try exact jz)only[go_sem,t27,t28,aA]
  refine aH (λhlt=>?_) (λhlt=>?_)
  .obtain⟨b5,o5,c5,rfl,-,bC⟩:=aZ.pos hC jb
   have bC:=(hF.trans hf).ld hW (bC k hlt)
   unfold X8 at bC
   have hfit:=qP (hO.fc k hlt) jj
   have hz:=Sz.zero.two
   have hraw:rq (ix cs k).a.n (ix cs k).a.s (ix cs k).a.d=(ix cs k).a.q:=rfl
   simp(disch:=try exact jz)only[go_sem,W3,bC,hraw,cN,p6]
   refine⟨cs.length-(k+1),jb,k+1,rfl,jb,rfl,p5,?_,fr,jb⟩
   exact bp (λl=>some (Bk.mk l none)) (um cs.length k λi=>(ix cs i).a.q)
  .have:k=cs.length:=jb
   subst this
   simp(disch:=try exact jz)only[go_sem,am]
   refine⟨t3,t4,t5,t6,p5,?_,hf,hnx⟩
   rw[p6]
   congr 2
   exact dU λi hi=>ab hi
 rintro _ tm σ2 ⟨rfl,t3,t4,t5,t6,p5,p6,hf2,hnx2⟩
 have hF2:=hF.trans hf2
 have q1:=hf2.get hF.wf q1
 have q2:=hf2.get hF.wf q2
 have hle3:=hf2.le
 simp(disch:=try exact jz)only[go_sem,t3,au q1,WT,akA]
 refine bM.mono (Q:=λex tm J'=>ex=.exit 2/\∃lb U,r8 tm 4=.c (.ptr (J.aj+1+1) 0)/\r8 tm 5=.c (.ptr σ1.aj 0)/\r8 tm 6=.c (.sl (σ1.aj+1) 0 cs.length (.ex cs.length))/\J'.h σ1.aj=some ⟨[mv,aW a.length lb],none⟩/\J'.h (σ1.aj+1)=some ⟨cO cs.length (lsA cs a).1,none⟩/\acL U (λi=>ix (qB cs a).2 i) J'.h lb a.length σ2.aj J'.aj/\aU [σ1.aj,σ1.aj+1] σ2 J')
  (aF (λq tm J'=>∃j lb U,q=a.length-j/\j<=a.length/\r8 tm 4=.c (.ptr (J.aj+1+1) 0)/\r8 tm 5=.c (.ptr σ1.aj 0)/\r8 tm 6=.c (.sl (σ1.aj+1) 0 cs.length (.ex cs.length))/\r8 tm 42=.c tv/\r8 tm 43=jN a.length/\r8 tm 44=jN j
   /\J'.h σ1.aj=some ⟨[mv,aW j lb],none⟩/\J'.h (σ1.aj+1)=some ⟨cO cs.length (lsS cs a j).1,none⟩/\acL U (λi=>ix (qB cs a).2 i) J'.h lb j σ2.aj J'.aj/\aU [σ1.aj,σ1.aj+1] σ2 J') a.length ?_ ?_) ?_
 .refine⟨0,σ2.aj,λ_=>.aO,jb,jb,?_⟩
  simp(disch:=try exact jz)only[go_sem,t4,t5,t6,am]
  exact⟨p5,p6,NF.nil (Xp _ _),aU.refl hf2.wf⟩
 .rintro q tm J' ⟨j,lb,U,rfl,hj,t4,t5,t6,t42,t43,t44,p5,p6,hN,hf⟩
  have hle:=hf.le
  simp(disch:=try exact jz)only[go_sem,t43,t44,aA]
  refine aH (λhlt=>?_) (λhlt=>?_)
  .obtain⟨b6,o6,c6,rfl,P1,bJ,hP1⟩:=hT.at hlt
   have hb6:=hW.dh bJ
   have bJ:=hf.ld hf2.wf (by simp;omega) (hF2.ld hW bJ)
   have aBu:=aZ.kn hP1
   have Jw:=aZ.len hP1
   have hnt:=hO.nt j hlt
   have hfp:=hO.fp j hlt
   have hpp:=hO.p _ (ni hlt)
   have hS:=alc (cs:=cs) hlt
   have hS2:=Xq (cs:=cs) (a:=a) (i:=j) (bB j) hlt
   have hL:ix (qB cs a).2 j=(Cm (lsS cs a j).1 (ix a j) (ix a j).length).2:=by unfold qB;rw[<-JK];have h9:=CB cs a a.length jp;show ix ((lsS cs a a.length).2++[_]) j=_;rw[gZ _ _ jb];exact Xq hlt jp
   have hSP:=avo hPc hO.c hO.p j
   clear hS2
   generalize (lsS cs a j).1=f at*
   generalize ix a j=r at*
   simp(disch:=try exact jz)only[go_sem,t42,t44,bJ,Jw]
   refine bM.mono (Q:=λex tm σ4=>ex=.exit 4/\∃bs,r8 tm 4=.c (.ptr (J.aj+1+1) 0)/\r8 tm 5=.c (.ptr σ1.aj 0)/\r8 tm 6=.c (.sl (σ1.aj+1) 0 cs.length (.ex cs.length))/\r8 tm 11=.c (.ptr J'.aj 0)/\r8 tm 42=.c (.sl b6 o6 a.length c6)/\r8 tm 43=jN a.length/\r8 tm 44=jN j
     /\σ4.h (σ1.aj+1)=some ⟨cO cs.length (Cm f r r.length).1,none⟩/\TS σ4 J'.aj bs (Cm f r r.length).2/\aU [σ1.aj+1] J' σ4)
    (aF (λq tm σ4=>∃l bs,q=r.length-l/\l<=r.length/\r8 tm 4=.c (.ptr (J.aj+1+1) 0)/\r8 tm 5=.c (.ptr σ1.aj 0)/\r8 tm 6=.c (.sl (σ1.aj+1) 0 cs.length (.ex cs.length))/\r8 tm 11=.c (.ptr J'.aj 0)/\r8 tm 42=.c (.sl b6 o6 a.length c6)/\r8 tm 43=jN a.length/\r8 tm 44=jN j/\r8 tm 48=.c P1/\r8 tm 49=jN r.length/\r8 tm 50=jN l
     /\σ4.h (σ1.aj+1)=some ⟨cO cs.length (Cm f r l).1,none⟩/\TS σ4 J'.aj bs (Cm f r l).2/\aU [σ1.aj+1] J' σ4) r.length ?_ ?_) ?_
   .refine⟨0,J'.aj+1,jb,jb,?_⟩
    have lT:=Fr.refl hf.wf
    refine W0 ?_
    refine⟨?_,⟨?_,rfl,bB _,.inl rfl⟩,Fr.ex (fr) _⟩
    .exact p6
    .rw[ay];rfl
   .rintro q tm σ4 ⟨l,bs,rfl,hl,t4,t5,t6,t11,t42,t43,t44,t48,t49,t50,p64,hTS,hf4⟩
    have pK:=hf4.le
    have azi:=hTS.lt hf4.wf
    simp(disch:=try exact jz)only[go_sem,t49,t50,aA]
    refine aH (λJA=>?_) (λJA=>?_)
    .obtain⟨b7,o7,c7,rfl,-,cZ⟩:=aZ.pos hP1 jb
     have cZ:=cZ l JA
     have hb7:=hW.dh cZ
     have cZ:=hf4.ld hf.wf (by simp;omega) (hf.ld hf2.wf (by simp;omega) (hF2.ld hW cZ))
     unfold Aq at cZ
     have hfit:=qP (hfp l JA) jj
     have hz:=Sz.zero.two
     have hx:=hpp _ (ni JA)
     have hok:=avn hPc hSP hpp l
     have hsz:=Xr hA hok.2 (by rw[Ou f r l hl];omega)
     have hll:=Ou f r l hl
     have hsucc:=aal (f:=f) JA
     have hraw:rq (ix r l).a.n (ix r l).a.s (ix r l).a.d=(ix r l).a.q:=rfl
     have hkl:∀b,b<J'.aj->b<σ4.aj:=λb hb=>aE hb pK
     have aCu:=hf4.wf.lt p64
     by_cases hk1:(ix r l).k=Int.negSucc 0
     .have hS1:Cm f r (l+1)=((Cm f r l).1,(Cm f r l).2++[(Int.negSucc 0,(ix r l).a.q)]):=by rw[hsucc];unfold Oo;rw[ab (show(ix r l).k=-1 from hk1)];rfl
      have hqz:=Rn hA (hx.2 (.inl hk1))
      have EC:=Fr.refl hf4.wf
      simp(disch:=try exact jz)only[go_sem,t11,t48,t50,cZ,hk1,hraw,cN]
      refine aC.st (Fr σ4) (fr) λdY=>?_
      have avq:=hTS.fr hf4.wf dY
      refine(acK dY.wf avq jb _ _ hsz hqz).mono ?_
      rintro _ σ6 ⟨⟨bs',alf⟩,hlo,hW6,zC⟩
      have zC:σ4.aj+1<=σ6.aj:=zC
      refine WP ?_
      refine⟨r.length-(l+1),jb,l+1,bs',rfl,jb,rfl,?_,?_,?_⟩
      .rw[hS1,hlo _ jb,dY.old _ jb];exact p64
      .rw[hS1];exact alf
      .exact⟨jb,hW6,λb hb hn=>by rw[hlo b hb,dY.old b jb];exact hf4.old b hb hn⟩
     .obtain⟨kk,hkk,hkn⟩:∃kk:Nat,(ix r l).k=Int.ofNat kk/\kk<cs.length:=by
       rcases hx.1 with h|⟨ha,hb⟩
       .exact absurd h hk1
       .exact⟨(ix r l).k.toNat,(fe ha).symm,jb⟩
      have EC:=Fr.refl hf4.wf
      have hcz:=Rn hA (hok.1 kk)
      have hcz2:=hcz.two
      have hxc:=hx.2
      have fin:∀(cq:Rat){s5:St},Sz cq->(Cm f r (l+1))=(aJ (Cm f r l).1 kk ((Cm f r l).1 kk-cq),(Cm f r l).2++[(Int.ofNat kk,cq)])->aU [σ1.aj+1] σ4 s5->s5.h (σ1.aj+1)=some ⟨cO cs.length (aJ (Cm f r l).1 kk ((Cm f r l).1 kk-cq)),none⟩->∀{K:V->St->Prop},(∀v σ6 bs',σ6.h (σ1.aj+1)=some ⟨cO cs.length (Cm f r (l+1)).1,none⟩->TS σ6 J'.aj bs' (Cm f r (l+1)).2->aU [σ1.aj+1] J' σ6->K v σ6)->
        aC EN 109 [.c (.ptr J'.aj 0),jN kk,.agg (rK cq)] s5 K:=λcq s5 hcq hS1 dY h5 K hK=>by
       have avq:=hTS.fre hf4.wf dY (by simp;omega)
       refine(acK dY.wf avq jb _ _ hsz hcq).mono ?_
       rintro v σ6 ⟨⟨bs',alf⟩,hlo,hW6,zC⟩
       have wu:=dY.le
       refine hK v σ6 bs' ?_ (by rw[hS1];exact alf) ⟨jb,hW6,λb hb hn=>?_⟩
       .rw[hlo _ jb,h5,hS1]
       .rw[hlo b hb,dY.old b jb hn];exact hf4.old b hb hn
      by_cases hb:(ix r l).b=true
      .have hS1:Cm f r (l+1)=(aJ (Cm f r l).1 kk ((Cm f r l).1 kk-kS ((Cm f r l).1 kk) (ix r l).a.q),(Cm f r l).2++[(Int.ofNat kk,kS ((Cm f r l).1 kk) (ix r l).a.q)]):=by rw[hsucc,alb (show¬(ix r l).k=-1 from hk1) hkk,hb];rfl
       have hmz:=Rn hA (hPc.min _ _ (hok.1 kk) (hx.2 (.inr hb)))
       simp(disch:=try exact jz)only[go_sem,t6,t11,t48,t50,cZ,hkk,qL,hb,hraw,avp,au p64,p64]
       refine fin _ hmz hS1 (by have hFe:=aU.refl (ex:=[σ1.aj+1]) hf4.wf;repeat(first|assumption|exact aU.refl (by assumption)|exact aU.up (by assumption) kf|exact aU.up (aU.refl (by assumption)) kf|refine aU.set1 ?_ kg kf|refine aU.jV ?_ kg|refine aU.mX ?_ kg|refine aU.nX ?_ kf)) (ay _ _ _) λv σ6 bs' h1 h2 h3=>?_
       refine WP ?_
       exact⟨r.length-(l+1),jb,l+1,bs',rfl,jb,rfl,h1,h2,h3⟩
      .have hb:(ix r l).b=false:=by simpa using hb
       have hS1:Cm f r (l+1)=(aJ (Cm f r l).1 kk ((Cm f r l).1 kk-(Cm f r l).1 kk),(Cm f r l).2++[(Int.ofNat kk,(Cm f r l).1 kk)]):=by rw[hsucc,alb (show¬(ix r l).k=-1 from hk1) hkk,hb];rfl
       simp(disch:=try exact jz)only[go_sem,t6,t11,t48,t50,cZ,hkk,qL,hb,au p64,p64]
       refine fin _ hcz hS1 (by have hFe:=aU.refl (ex:=[σ1.aj+1]) hf4.wf;repeat(first|assumption|exact aU.refl (by assumption)|exact aU.up (by assumption) kf|exact aU.up (aU.refl (by assumption)) kf|refine aU.set1 ?_ kg kf|refine aU.jV ?_ kg|refine aU.mX ?_ kg|refine aU.nX ?_ kf)) (ay _ _ _) λv σ6 bs' h1 h2 h3=>?_
       refine WP ?_
       exact⟨r.length-(l+1),jb,l+1,bs',rfl,jb,rfl,h1,h2,h3⟩
    .have:l=r.length:=jb
     subst this
     simp(disch:=try exact jz)only[go_sem,am]
     exact⟨bs,t4,t5,t6,t11,t42,t43,t44,p64,hTS,hf4⟩
   .rintro _ tm σ4 ⟨rfl,bs,t4,t5,t6,t11,t42,t43,t44,p64,hTS,hf4⟩
    have pK:=hf4.le
    have hlb:=hN.l1
    have Ro:=hN.l2
    have azi:=hTS.lt hf4.wf
    have acs:aU [σ1.aj,σ1.aj+1] σ2 σ4:=hf.to' hf4 kc
    have p54:=hf4.get hf.wf kc p5
    have hN4:=NF.mono hN (λj _=>Xo _ _ j) (λb h1 h2=>hf4.old b h2 (by simp;omega)) jp
    have hg4:=hN4.g
    have hLG:=Xp U λi=>ix (qB cs a).2 i
    have U2:=hTS.b
    unfold kT at U2
    simp(disch:=try exact jz)only[go_sem,W3,au p54,au U2,p54,hg4]
    refine⟨a.length-(j+1),jb,j+1,σ4.aj+1,aJ U j (aW (Cm f r r.length).2.length bs),rfl,jb,rfl,rfl,by rw[p64,hS],?_,?_⟩
    .refine hN.push (U:=U) hf4.wf hL hTS jp jb (λb h1 h2=>hf4.old b h2 (by simp;omega)) jb jb ?_ λc h1 h2 h3=>?_
     .rw[ak _ _ _ _ jb,ay];rfl
     .rw[ak _ _ _ _ jb,ak _ _ _ _ jb,fE _ _ _ _ h3,ak _ _ _ _ jb]
    .repeat(first|assumption|exact aU.refl (by assumption)|exact aU.up (by assumption) kf|exact aU.up (aU.refl (by assumption)) kf|refine aU.set1 ?_ kg kf|refine aU.jV ?_ kg|refine aU.mX ?_ kg|refine aU.nX ?_ kf)
  .have:j=a.length:=jb
   subst this
   simp(disch:=try exact jz)only[go_sem,am]
   exact⟨lb,U,t4,t5,t6,p5,by rw[<-JK];exact p6,hN,hf⟩
 rintro _ tm σ3 ⟨rfl,lb,U,t4,t5,t6,p5,p6,hN,hf3⟩
 have hF3:Fr J σ3:=hf3.to hF2 (by simp;omega)
 have pK:=hf3.le
 have q23:=hf3.get hf2.wf (by simp;omega) q2
 have hP:∀t∈a,∀x∈t,x.k=-1\/0<=x.k/\x.k<cs.length:=λt ht x hx=>(hO.p t ht x hx).1
 have hM3:iZ σ3.h mv (kU a).length (λi=>[TG (kU a) i]) 1 3 (J.aj+1+1+1) σ1.aj:=by
  rw[Rk];refine iZ.congr (iZ.mono hM (λb h1 h2=>?_) jp jp) λi hi=>by rw[apY hP hi]
  rw[hf3.old b jb (by simp;omega),hf2.old b h2]
 have hMl:=hM3.len
 have hMm:acD (λb=>J.aj+1+1+1<=b/\b<σ1.aj) σ3.h mv (kU a):=iZ.hlp hM3 (λ_=>rfl) jj (λ_ _=>rfl) λb h1 h2=>⟨h1,h2⟩
 have hml:=H6 hP
 have acj:=Fr.refl hF3.wf
 have aDh:=hF3.wf.lt p6
 have hAc:=(akZ (n:=cs.length) hPc hO.c hO.p).1
 simp(disch:=try exact jz)only[go_sem,t5,au p5,hMk,hMl]
 refine bM.mono (Q:=λex tm σ4=>ex=.exit 6/\∃bs,r8 tm 4=.c (.ptr (J.aj+1+1) 0)/\r8 tm 5=.c (.ptr σ1.aj 0)/\r8 tm 15=.c (.ptr σ3.aj 0)/\TS σ4 σ3.aj bs (wZ (kU a) (lsA cs a).1)/\Fr σ3 σ4)
  (aF (λq tm σ4=>∃i bs,q=(kU a).length-i/\i<=(kU a).length/\r8 tm 4=.c (.ptr (J.aj+1+1) 0)/\r8 tm 5=.c (.ptr σ1.aj 0)/\r8 tm 6=.c (.sl (σ1.aj+1) 0 cs.length (.ex cs.length))/\r8 tm 15=.c (.ptr σ3.aj 0)/\r8 tm 97=.c mv/\r8 tm 98=jN (kU a).length/\r8 tm 99=jN i/\TS σ4 σ3.aj bs (wZ ((kU a).take i) (lsA cs a).1)/\Fr σ3 σ4) (kU a).length ?_ ?_) ?_
 .refine⟨0,σ3.aj+1,jb,jb,?_⟩
  refine W0 ?_
  exact⟨⟨ay _ _ _,rfl,bB _,.inl rfl⟩,fr⟩
 .rintro q tm σ4 ⟨i,bs,rfl,hi,t4,t5,t6,t15,t97,JL,Gi,hTS,hf4⟩
  have wu:=hf4.le
  simp(disch:=try exact jz)only[go_sem,JL,Gi,aA]
  refine aH (λhlt=>?_) (λhlt=>?_)
  .obtain⟨b8,o8,c8,rfl,og⟩:=(hMm.hc).pos jb
   have og:=hf4.ld hF3.wf (og i hlt)
   unfold TG at og
   have hmi:=ni hlt
   have hin:ix (kU a) i<cs.length:=by have h1:=(wC hP).mp hmi;have:=vS hP ((ix (kU a) i:Nat):Int) (sO.mpr ⟨jb,h1⟩);omega
   have p64:=hf4.get hF3.wf p6
   have hll:(wZ ((kU a).take i) (lsA cs a).1).length=i:=by unfold wZ;rw[cn,dj];omega
   have hsz:Sz (aX (wZ ((kU a).take i) (lsA cs a).1)):=Xr (n:=cs.length) hA (λp hp=>by obtain⟨k,hk,rfl⟩:=cT.mp hp;have h1:=(wC hP).mp (eg hk);exact⟨.inr (vS hP k (sO.mpr ⟨jb,h1⟩)),hAc k⟩) jb
   have hcz:=Rn hA (hAc (ix (kU a) i))
   simp(disch:=try exact jz)only[go_sem,t6,t15,t97,Gi,og,au p64]
   refine(acK hf4.wf hTS jb _ _ hsz hcz).mono ?_
   rintro _ σ6 ⟨⟨bs',alf⟩,hlo,hW6,zC⟩
   simp(disch:=try exact jz)only[go_sem,W3,JL,Gi]
   refine⟨(kU a).length-(i+1),jb,i+1,bs',rfl,jb,rfl,by rw[ahh _ _ hlt];exact alf,jb,hW6,λb hb=>by rw[hlo b hb];exact hf4.old b hb⟩
  .have:i=(kU a).length:=jb
   subst this
   simp(disch:=try exact jz)only[go_sem,am]
   exact⟨bs,t4,t5,t15,by rw[cr]at hTS;exact hTS,hf4⟩
 rintro _ tm σ4 ⟨rfl,bs,t4,t5,t15,hTS,hf4⟩
 have wu:=hf4.le
 have hlb:=hN.l1
 have Ro:=hN.l2
 have azi:=hTS.lt hf4.wf
 have p54:=hf4.get hF3.wf p5
 have q24:=hf4.get hF3.wf q23
 have hN4:=NF.mono hN (λj _=>Xo _ _ j) (λb h1 h2=>hf4.old b h2) jp
 have hg4:=hN4.g
 have hLG:=Xp U λi=>ix (qB cs a).2 i
 have U2:=hTS.b
 have hL:ix (qB cs a).2 a.length=wZ (kU a) (lsA cs a).1:=by
  have h9:=CB cs a a.length jp;rw[JK]at h9;unfold qB;conv=>lhs;rw[<-h9]
  exact ig _ _
 have gB:=hF3.trans hf4
 unfold kT at U2
 simp(disch:=try exact jz)only[go_sem,W3,au p54,au U2,p54,hg4,hMk,q24]
 have hN5:=hN.push (U:=U) (n':=σ4.aj+1+1) (nx:=σ4.aj+1) hf4.wf hL hTS jp jb (λb h1 h2=>hf4.old b h2) jb jb (h':=hset (hset (hset (jV a.length (hset σ4.h σ4.aj ⟨[aW (wZ (kU a) (lsA cs a).1).length bs,.bool (rn (aX (wZ (kU a) (lsA cs a).1))),.str (rs (aX (wZ (kU a) (lsA cs a).1))),.str (rd (aX (wZ (kU a) (lsA cs a).1)))],none⟩) lb) (σ4.aj+1) ⟨aY a.length (aak U λi=>ix (qB cs a).2 i)++[aW (wZ (kU a) (lsA cs a).1).length bs,.bool (rn (aX (wZ (kU a) (lsA cs a).1))),.str (rs (aX (wZ (kU a) (lsA cs a).1))),.str (rd (aX (wZ (kU a) (lsA cs a).1)))],some (4,170)⟩) σ1.aj ⟨[mv,.sl (σ4.aj+1) 0 (a.length+1) .opn],none⟩) (J.aj+1+1) ⟨[mv,.sl (σ4.aj+1) 0 (a.length+1) .opn],none⟩)
  (by rw[ak _ _ _ _ jb,ak _ _ _ _ jb,ay];rfl) (λc h1 h2 h3=>by rw[ak _ _ _ _ jb,ak _ _ _ _ jb,ak _ _ _ _ jb,fE _ _ _ _ h3,ak _ _ _ _ jb])
 have hll:(qB cs a).2.length=a.length+1:=by have h9:=CB cs a a.length jp;rw[JK]at h9;unfold qB;show((lsA cs a).2++[_]).length=_;rw[ax,h9];rfl
 refine⟨⟨_,_,rfl,?_,?_⟩,fr⟩
 .refine aZ.keep hMm (λb hb=>?_) λb hb=>⟨jb,by show b<σ4.aj+1+1;omega⟩
  rw[ak _ _ _ _ jb,ak _ _ _ _ jb,ak _ _ _ _ jb,fE _ _ _ _ jb,ak _ _ _ _ jb,hf4.old b jb]
 .exact(hN5.avl hll λi _=>rfl).keep (λ_ _=>rfl) λb hb=>⟨jb,hb.2⟩
def rkG(cs:List C5)(bs:Nat->Nat)(k r:Nat):List B:=kT (aW (Cj cs r k).length (bs r)) (aX (Cj cs r k))
structure RkS(J:St)(rb:Nat)(bs:Nat->Nat)(cs:List C5)(k lo:Nat):Prop where
 b:J.h rb=some ⟨aY 8 (rkG cs bs k),none⟩
 o:∀r,r<8->Q7 J.h (bs r) (Cj cs r k)
 l:∀r,r<8->(Cj cs r k).length=0\/lo<=bs r/\bs r<J.aj
 i:∀r r',r<8->r'<8->r≠r'->(Cj cs r k).length=0\/(Cj cs r' k).length=0\/bs r≠bs r'
def RkS.on{J J':St}{rb lo k:Nat}{bs:Nat->Nat}{cs:List C5}(h:RkS J rb bs cs k lo)(hrb:J'.h rb=J.h rb)(hf:∀b,lo<=b->b<J.aj->J'.h b=J.h b)(hle:J.aj<=J'.aj):RkS J' rb bs cs k lo:=by
 refine⟨by rw[hrb];exact h.b,λr hr=>?_,λr hr=>by have:=h.l r hr;omega,h.i⟩;refine(xO ?_).trans (h.o r hr);rcases h.l r hr with h1|h1
 .omega
 grind
theorem RkS.fr{J J':St}{rb lo k:Nat}{bs:Nat->Nat}{cs:List C5}(h:RkS J rb bs cs k lo)(hrb:rb<J.aj)(hf:Fr J J'):RkS J' rb bs cs k lo:=h.on (hf.old _ hrb) (λb _ hb=>hf.old b hb) hf.le
def avr{J:St}(hW:WF J){rb lo k r:Nat}{bs:Nat->Nat}{cs:List C5}(h:RkS J rb bs cs k lo)(hrb:rb<lo)(hlo:lo<=J.aj)(hr:r<8)(hk:(ix cs k).r=(r:Int))(hk1:k<=1000000)(hs:Sz (aX (Cj cs r k)))(hq:Sz (ix cs k).a.q):
  aC EN 109 [.c (.ptr rb (r*4)),jN k,.agg (rK (ix cs k).a.q)] J λ_ J'=>(∃bs',RkS J' rb bs' cs (k+1) lo)/\(∀b,b<J.aj->b≠rb->(Cj cs r k).length=0\/b≠bs r->J'.h b=J.h b)/\WF J'/\J.aj<=J'.aj:=by
 have hl:=h.l r hr
 have hlen:=Ov cs r k
 obtain⟨b0,hb0,hb1⟩:∃b0,(∀c,aW (Cj cs r k).length c=aW (Cj cs r k).length b0\/c≠bs r)/\((Cj cs r k).length=0/\b0=rb\/0<(Cj cs r k).length/\b0=bs r):=by
  by_cases e:(Cj cs r k).length=0
  .exact⟨rb,λc=>.inl (by rw[e];rfl),.inl ⟨e,rfl⟩⟩
  .exact⟨bs r,λc=>by grind,.inr ⟨jb,rfl⟩⟩
 have hT:Q7 J.h b0 (Cj cs r k):=by
  have:=h.o r hr;unfold Q7 at this⊢;rw[<-this];rcases hb1 with⟨e,-⟩|⟨-,e⟩
  .rw[e];rfl
  .rw[e]
 have hGr:rkG cs bs k r=kT (aW (Cj cs r k).length b0) (aX (Cj cs r k)):=by grind[rkG]
 refine(akV hW h.b hr (λ_=>rfl) rfl rfl hGr hT jb jb jb k _ hs hq).mono ?_
 rintro _ J' ⟨nx,h1,h2,h3,h4,h5⟩
 have hle:=h5.le
 have e1:Cj cs r (k+1)=Cj cs r k++[((k:Int),(ix cs k).a.q)]:=by grind[Cj]
 have e2:∀r',r'≠r->Cj cs r' (k+1)=Cj cs r' k:=λr' hne=>by grind[Cj]
 refine⟨⟨aJ bs r nx,?_,λr' hr'=>?_,λr' hr'=>?_,λa b ha hb hab=>?_⟩,λb hb hne hn2=>h5.old b hb ?_,h5.wf,hle⟩
 .rw[h3]
  congr 2
  refine bf λr' hr'=>?_
  unfold iC rkG
  by_cases e:r'=r
  .subst e
   rw[ab rfl,aI,e1,Va,ax];rfl
  grind[aQ]
 .by_cases e:r'=r
  .subst e
   rw[aI,e1]
   unfold Q7
   rw[ax,bR]
   show J'.h nx=some _
   grind[Go.Proofs.Xe.jv,Go.Proofs.Xe.bf,Go.Proofs.Xe.iC,Go.Proofs.Xe.ig,Go.Proofs.Xe.gZ]
  .rw[aQ _ _ _ _ e,e2 r' e]
   refine(xO ?_).trans (h.o r' hr')
   have h6:=h.l r' hr'
   have h7:=h.i r' r hr' hr e
   by_cases e0:(Cj cs r' k).length=0
   .exact .inl e0
   .refine .inr (h5.old _ jb ?_)
    simp;omega
 .by_cases e:r'=r
  .subst e;rw[aI];omega
  .rw[aQ _ _ _ _ e,e2 r' e]
   have:=h.l r' hr';omega
 .by_cases ea:a=r
  .subst ea
   rw[aI,aQ _ _ _ _ (Ne.symm hab),e2 b (Ne.symm hab)]
   have:=h.l b hb;omega
  .by_cases eb:b=r
   .subst eb
    rw[aI,aQ _ _ _ _ ea,e2 a ea]
    have:=h.l a ha;omega
   .rw[aQ _ _ _ _ ea,aQ _ _ _ _ eb,e2 a ea,e2 b eb]
    exact h.i a b ha hb hab
 grind
def RkS.avl{J:St}{rb lo:Nat}{bs:Nat->Nat}{cs:List C5}(h:RkS J rb bs cs cs.length lo){p:Nat->Prop}(hp:p rb)(hp2:∀b,lo<=b->b<J.aj->p b):zY p J.h (.sl rb 0 8 (.ex 8)) (Tc cs cs.length):=by
 have hix:∀r,r<8->ix (Tc cs cs.length) r=Cj cs r cs.length:=λr hr=>by grind[Tc,dV]
 have h8:(Tc cs cs.length).length=8:=by rfl
 refine⟨λr=>aW (Cj cs r cs.length).length (bs r),?_,cx 8,λr hr=>?_⟩
 .rw[h8];refine(bD (G:=rkG cs bs cs.length) _ h.b rfl hp (λ_=>rfl) jj λr hr=>?_).congr λr hr=>by grind[rkG]
  grind[rkG,kT,vK,Am,Jh]
 .rw[h8]at hr;rw[hix r hr];exact(h.o r hr).hlp (by rcases h.l r hr with h1|h1;exact .inl h1;grind)
structure Rq(A:Nat)(e:vZ):Prop where
 nc:e.c.length<=1000
 na:e.a.length<=1000
 r:∀k,k<e.c.length->∃r:Nat,r<8/\(ix e.c k).r=Int.ofNat r
 fc:∀k,k<e.c.length->(ix e.c k).a.fits 1000000
 c:∀k,JJ A (ix e.c k).a.q
 a:∀j,j<e.a.length->ale A e.c (ix e.a j)
def pz(e:vZ)(k:Nat):Rat:=aB k λi=>(ix e.c i).a.q
def ae0{A:Nat}{f:Nat->Rat}(hf:∀i,JJ A (f i)):∀n,eG A (aB n f)/\0<=aB n f/\aB n f<=(n:Rat)*uQ
 |0=>⟨eG.zero A,aR,by show(0:Rat)<=((0:Nat):Rat)*uQ;simp⟩
 |n+1=>by
  obtain⟨h1,h2,h3⟩:=ae0 hf n;have h4:=hf n;rw[fY];have:((1:Nat):Rat)=1:=rfl;refine⟨h1.add h4.1,?_,?_⟩
  .show 0<=aB n f+f n;grind
  .show aB n f+f n<=_;grind
def avs{A:Nat}(hA:Dl A){f:Nat->Rat}(hf:∀i,JJ A (f i)){n:Nat}(hn:n<=10000):Sz (aB n f):=by obtain⟨h1,h2,h3⟩:=ae0 hf n;have hU:=Hz (k:=10000) jj;have h4:(n:Rat)<=((10000:Nat):Rat):=bj.mpr hn;have h5:=be h4 Ri;exact(pY hA (hJ A) h1 h2 kd).sz hA (by grind[qC])
def ae1(M L:Nat->B)(cs:List C5)(al:List fD)(p:Nat->Prop)(h:Tr Bk)(j:Nat):Prop:=acD p h (M j) (kU (ix al j))/\zY p h (L j) (qB cs (ix al j)).2
abbrev arW(M L:Nat->B)(cs:List C5)(al:List fD)(h:Tr Bk)(b n lo hi:Nat):Prop:=NF (ae1 M L cs al) h b n (λj=>[M j,L j]) 2 173 lo hi
def Ox(M L:Nat->B)(cs:List C5)(al:List fD)(j:Nat):QK (ae1 M L cs al) j:=λ_ _ _ _ hp hk hq=>⟨aZ.keep hp.1 hk hq,hp.2.keep hk hq⟩
def acN(M L:Nat->B):LG (λj=>[M j,L j]) 2:=λ_=>rfl
def lW{E:Env}{f:Nat}{args:List V}{J:St}{F:AF}{K:V->St->Prop}(ho:E.Yr f args J=none)(hF:E.fns f=some F):aC E f args J K=bM E F.body (ini args) J (abH F.res K):=by
 refine propext ⟨?_,aN ho hF⟩;rintro⟨n,v,J',h1,h2⟩;cases n with
 |zero=>grind[jl]
 |succ n=>
  rw[jl]at h1
  unfold IX at h1
  rw[ho,hF]at h1
  dsimp only at h1
  rw[abG]at h1
  dsimp only at h1
  unfold afI at h1
  split at h1
  .next tm τ e=>
   split at h1
   .next u hu=>cases h1;exact⟨n,_,tm,_,e,_,hu,h2⟩
   grind
  .next tm τ e=>
   split at h1
   .next u hu=>cases h1;exact⟨n,_,tm,_,e,_,hu,h2⟩
   grind
  grind
section
variable (dA bP tm:Tr V) (J:St) (res:List Rs) (pd:List jd)
def alg(i:Nat)(us os:List Nat)(d:Option Nat)(g:Option (Nat×Bool))(bytes:Nat)(z:List B)(a c:O)(l:List DO)(K:St->List Rs->List jd->Prop):
  vY dA bP (⟨i,us,os,⟨d,g,.Nh bytes z a c⟩⟩::l) J res pd K=match Pq dA bP res us os with
   |some tm=>Dj g tm (match DX (a.ev tm),DX (c.ev tm)with
    |some n,some m=>(bif Nat.ble n m&&(Nat.ble (bytes*m) 281474976710656&&Nat.ble m 1073741824)then vY dA bP l ⟨hset J.h J.aj ⟨rep z m,none⟩,J.aj+1⟩ (⟨i,d,.c (.sl J.aj 0 n (.ex m))⟩::res) (⟨i,⟨d,g,.Nh bytes z a c⟩,tm,.c (.sl J.aj 0 n (.ex m)),true,some J.aj⟩::pd) K else False)
    |_,_=>False) (vY dA bP l J (⟨i,d,.tnil⟩::res) (⟨i,⟨d,g,.Nh bytes z a c⟩,tm,.tnil,false,none⟩::pd) K)
   |none=>False:=by
 unfold vY Dj
 rw[zi]
 dsimp only
 cases Pq dA bP res us os with
 |none=>rfl
 |some tm=>
  grind[xu.kind,oP,lY]
def acO(i:Nat)(d:Option Nat)(g9:Option (Nat×Bool))(bytes:Nat)(z:List B)(a c:O)(v:V)(b:Nat):again J ⟨i,⟨d,g9,.Nh bytes z a c⟩,tm,v,true,some b⟩=match DX (a.ev tm),DX (c.ev tm)with
  |some n,some m=>(bif Nat.ble n m&&(Nat.ble (bytes*m) 281474976710656&&Nat.ble m 1073741824)then(match J.h b with|some ⟨c,none⟩=>Po c (rep z m)|_=>false)else false)
  |_,_=>false:=by
 grind[again,xu.kind,oP]
end
def alh(n:Nat)(f:Nat->Bool):(ones n λi=>.bool (f i)).all B.kn=true:=abW λ_=>rfl
attribute [go_sem] alg acO alh
def xZ{E:Env}{a b:AC}{tm:Tr V}{J:St}{Q:AX->Tr V->St->Prop}(P:Tr V->St->Prop)(h:bM E a tm J λe tm' J'=>e=.normal/\P tm' J')(h2:∀tm' J',P tm' J'->bM E b tm' J' Q):bM E (.seq a b) tm J Q:=
 run_seq (h.mono (by rintro _ tm' J' ⟨rfl,hp⟩;exact h2 _ _ hp))
def Rt{E:Env}{a b c:AC}{tm:Tr V}{J:St}{Q:AX->Tr V->St->Prop}(P:Tr V->St->Prop)(h:bM E a tm J (Wp E b λe tm' J'=>e=.normal/\P tm' J'))(h2:∀tm' J',P tm' J'->bM E c tm' J' Q):bM E (.seq a (.seq b c)) tm J Q:=
 run_seq (h.mono λe tm' J' he=>by
  cases e with
  |normal=>exact xZ P he h2
  |exit i=>cases he.1
  |ret=>cases he.1)
def JM{E:Env}{b:AC}{tm:Tr V}{J:St}{Q:AX->Tr V->St->Prop}(h:bM E b tm J Q):bM E .skip tm J (Wp E b Q):=YM h
def azk{J:St}(hW:WF J){p p':Nat->Prop}{x1 x2 x3 C Av:B}{e:vZ}(hC:pJ p J.h C e.c)(hA:iH p' J.h Av e.a)(h1:x1.kn=true)(h2:x2.kn=true)(h3:x3.kn=true){A:Nat}(hD:Dl A)(hO:Rq A e):
  aC EN 74 [.agg [x1,x2,x3,C,Av]] J λr J'=>(∃rv pv,r=.agg (jW e.c.length rv pv (pz e e.c.length))/\zZ (λb=>J.aj<=b/\b<J'.aj) J'.h rv pv (bZ e))/\Fr J J':=by
 refine aN (wP.o _ _) wP.h ?_
 unfold wP
 dsimp only
 have SY:=aZ.kn hC
 have hAk:=hA.kn
 have Jy:=aZ.len hC
 have hlenA:=hA.len
 have hnc:=hO.nc
 have hna:=hO.na
 have hFr:=Fr.refl hW
 simp(disch:=try exact jz)only[go_sem,SY,Jy]
 refine bM.mono (Q:=λex tm J'=>ex=.exit 0/\∃bs,r8 tm 1=.c (.ptr J.aj 0)/\r8 tm 2=.c (.ptr (J.aj+1) 0)/\r8 tm 3=.c (.ptr (J.aj+1+1+1) 0)
   /\J'.h J.aj=some ⟨[x1,x2,x3,C,Av],none⟩/\J'.h (J.aj+1)=some ⟨[.int .i64 (.ofNat 0),.aO,.aO,.bool (rn 0),.str (rs 0),.str (rd 0)],none⟩/\J'.h (J.aj+1+1+1)=some ⟨jW e.c.length (.sl (J.aj+1+1) 0 8 (.ex 8)) .aO (pz e e.c.length),none⟩/\RkS J' (J.aj+1+1) bs e.c e.c.length (J.aj+1+1+1+1)/\Fr J J'/\J.aj+1+1+1+1<=J'.aj)
  (aF (λq tm J'=>∃k bs,q=e.c.length-k/\k<=e.c.length/\r8 tm 1=.c (.ptr J.aj 0)/\r8 tm 2=.c (.ptr (J.aj+1) 0)/\r8 tm 3=.c (.ptr (J.aj+1+1+1) 0)/\r8 tm 15=.c C/\r8 tm 16=jN e.c.length/\r8 tm 17=jN k
   /\J'.h J.aj=some ⟨[x1,x2,x3,C,Av],none⟩/\J'.h (J.aj+1)=some ⟨[.int .i64 (.ofNat 0),.aO,.aO,.bool (rn 0),.str (rs 0),.str (rd 0)],none⟩/\J'.h (J.aj+1+1+1)=some ⟨jW e.c.length (.sl (J.aj+1+1) 0 8 (.ex 8)) .aO (pz e k),none⟩/\RkS J' (J.aj+1+1) bs e.c k (J.aj+1+1+1+1)/\Fr J J'/\J.aj+1+1+1+1<=J'.aj) e.c.length ?_ ?_) ?_
 .refine⟨0,λ_=>0,jb,jb,?_⟩
  refine WN ?_
  refine⟨rfl,⟨?_,λr hr=>rfl,λr hr=>.inl rfl,λr r' _ _ _=>.inl rfl⟩,fr,jb⟩
  simp(disch:=omega) only[ak,ay];rfl
 .rintro q tm J' ⟨k,bs,rfl,hk,t1,t2,t3,t15,t16,t17,q0,q1,q3,hR,hf,hnx⟩
  have hle:=hf.le
  simp(disch:=try exact jz)only[go_sem,t16,t17,aA]
  refine aH (λhlt=>?_) (λhlt=>?_)
  .obtain⟨b5,o5,c5,rfl,-,bC⟩:=aZ.pos hC jb
   have bC:=hf.ld hW (bC k hlt)
   unfold X8 at bC
   have hfit:=qP (hO.fc k hlt) jj
   have hz:=Sz.zero.two
   have hraw:rq (ix e.c k).a.n (ix e.c k).a.s (ix e.c k).a.d=(ix e.c k).a.q:=rfl
   obtain⟨r,hr,hrk⟩:=hO.r k hlt
   have hqz:=Rn hD (hO.c k)
   have lT:=Fr.refl hf.wf
   have hrb:=hR.b
   have hlb:J.aj+1+1+1<J'.aj:=jb
   unfold jW at q3
   simp(disch:=try exact jz)only[go_sem,t3,t15,t17,bC,hraw,hrk,cN,au q3]
   refine aC.st (Fr J') (fr) λdY=>?_
   have hsz:Sz (aX (Cj e.c r k)):=Xr (n:=e.c.length) hD (λp hp=>by have:=Q8 (P:=JJ A) (λi _=>hO.c i) r k hk p hp;grind) (by grind[Ov])
   refine(avr dY.wf (hR.fr jb dY) jb kd hr hrk jb hsz hqz).mono ?_
   rintro _ σ6 ⟨⟨bs',hR6⟩,hlo,hW6,zC⟩
   have wu:J'.aj+1+1<=σ6.aj:=zC
   have hlr:=hR.l r hr
   have hk6:∀b,b<J.aj+1+1+1+1->b≠J.aj+1+1->σ6.h b=J'.h b:=λb h1 h2=>by rw[hlo b kd h2 jb];exact dY.old b jb
   have q06:=(hk6 _ jb jb).trans q0
   have q16:=(hk6 _ jb jb).trans q1
   have q36:=(hk6 _ jb jb).trans q3
   have q66:σ6.h (J'.aj+1)=some ⟨(rK (ix e.c k).a.q),none⟩:=(hlo _ (bB _) jb jb).trans (ay _ _ _)
   have hts:Sz (pz e k):=avs hD hO.c jb
   have iD:Fr J σ6:=⟨jb,hW6,λb hb=>by rw[hk6 b jb jb];exact hf.old b hb⟩
   simp(disch:=try exact jz)only[go_sem,W3,au q36,au q66,aG q36]
   refine⟨e.c.length-(k+1),jb,k+1,bs',rfl,jb,rfl,q06,q16,rfl,?_,fr,jb⟩
   exact hR6.on (ak _ _ _ _ jb) (λb h1 _=>ak _ _ _ _ jb) jp
  .have:k=e.c.length:=jb
   subst this
   refine WN ?_
   grind
 rintro _ tm σ2 ⟨rfl,bs,t1,t2,t3,q0,q1,q3,hR,hf,hnx⟩
 have hle:=hf.le
 unfold jW at q3
 simp(disch:=try exact jz)only[go_sem,t1,au q0,hAk,hlenA]
 refine bM.mono (Q:=λex tm J'=>ex=.exit 2/\∃pb M L,r8 tm 2=.c (.ptr (J.aj+1) 0)/\r8 tm 3=.c (.ptr (J.aj+1+1+1) 0)
   /\J'.h (J.aj+1+1+1)=some ⟨jW e.c.length (.sl (J.aj+1+1) 0 8 (.ex 8)) (aW e.a.length pb) (pz e e.c.length),none⟩/\arW M L e.c e.a J'.h pb e.a.length σ2.aj J'.aj/\aU [J.aj+1+1+1] σ2 J')
  (aF (λq tm J'=>∃j pb M L,q=e.a.length-j/\j<=e.a.length/\r8 tm 1=.c (.ptr J.aj 0)/\r8 tm 2=.c (.ptr (J.aj+1) 0)/\r8 tm 3=.c (.ptr (J.aj+1+1+1) 0)/\r8 tm 41=.c Av/\r8 tm 42=jN e.a.length/\r8 tm 43=jN j
   /\J'.h (J.aj+1+1+1)=some ⟨jW e.c.length (.sl (J.aj+1+1) 0 8 (.ex 8)) (aW j pb) (pz e e.c.length),none⟩/\arW M L e.c e.a J'.h pb j σ2.aj J'.aj/\aU [J.aj+1+1+1] σ2 J') e.a.length ?_ ?_) ?_
 .refine⟨0,σ2.aj,λ_=>.aO,λ_=>.aO,jb,jb,?_⟩
  refine W0 ?_
  exact⟨q3,NF.nil (acN _ _),aU.refl hf.wf⟩
 .rintro q tm J' ⟨j,pb,M,L,rfl,hj,t1,t2,t3,t41,t42,t43,q3,hN,hfe⟩
  have hle':=hfe.le
  simp(disch:=try exact jz)only[go_sem,t42,t43,aA]
  refine aH (λhlt=>?_) (λhlt=>?_)
  .obtain⟨b5,o5,c5,rfl,T1,bC,hT⟩:=hA.at hlt
   have hf3:Fr J J':=hfe.to hf (by simp;omega)
   have bC:=hf3.ld hW bC
   have q0':=hfe.get hf.wf (by simp only[dq];omega) q0
   have WT:=hT.kn
   have hlb:=hN.l1
   have Ro:=hN.l2
   have lT:=Fr.refl hfe.wf
   unfold jW at q3
   simp(disch:=try exact jz)only[go_sem,t1,t3,t41,t43,bC,WT,au q0',au q3,h1,h2,h3,SY,hAk]
   refine aC.st (Fr J') (fr) λdY=>?_
   have hf5:=hf3.trans dY
   refine(azh dY.wf (aZ.fr hW hf5 hC) (hT.fr hW hf5) h1 h2 h3 hAk hD (hO.a j hlt)).mono ?_
   rintro _ σ6 ⟨⟨mv,lv,rfl,hM,hL⟩,iD⟩
   have iR:=dY.trans iD
   have zC:J'.aj+1<=σ6.aj:=iD.le
   have q36:=iR.get hfe.wf q3
   have hMk:=aZ.kn hM
   have hLk:=hL.kn
   have hN6:=NF.mono hN (λj _=>Ox _ _ _ _ j) (λb _ hb=>iR.old b hb) jp
   have hg6:=hN6.g
   have hLG:=acN M L
   have acP:aU [J.aj+1+1+1] σ2 σ6:=hfe.trans (iR.ex _)
   simp(disch:=try exact jz)only[go_sem,W3,hMk,hLk,au q36,q36,hg6]
   refine⟨e.a.length-(j+1),jb,j+1,σ6.aj+1,aJ M j mv,aJ L j lv,rfl,jb,rfl,rfl,?_,by repeat(first|assumption|exact aU.refl (by assumption)|exact aU.up (by assumption) kf|exact aU.up (aU.refl (by assumption)) kf|refine aU.set1 ?_ kg kf|refine aU.jV ?_ kg|refine aU.mX ?_ kg|refine aU.nX ?_ kf)⟩
   refine NF.push hN (λj _=>Ox _ _ _ _ j) (λi hi p h hq=>?_) (hi1:=σ6.aj) (h1:=σ6.h) ?_ (λb _ hb=>iR.old b hb) jb jb jb jb ?_ ?_ (λc h1 h2 h3=>?_) (λi hi=>?_) (acN _ _) (x:=[mv,lv])
   .unfold ae1 at hq⊢
    rw[aQ _ _ _ _ jb,aQ _ _ _ _ jb];exact hq
   .unfold ae1
    rw[aI,aI]
    exact⟨aZ.keep hM (λ_ _=>rfl) λb hb=>⟨ar (dx _) hb.1,hb.2⟩,hL.keep (λ_ _=>rfl) λb hb=>⟨ar (dx _) hb.1,hb.2⟩⟩
   .rw[ak _ _ _ _ jb,ay]
   .rw[aI,aI]
   .rw[ak _ _ _ _ jb,ak _ _ _ _ jb,fE _ _ _ _ h3,ak _ _ _ _ jb]
   .rw[aQ _ _ _ _ jb,aQ _ _ _ _ jb]
  .have:j=e.a.length:=jb
   subst this
   simp(disch:=try exact jz)only[go_sem,am]
   exact⟨pb,M,L,t2,t3,q3,hN,hfe⟩
 rintro _ tm σ3 ⟨rfl,pb,M,L,t2,t3,q3,hN,hfe⟩
 have hle':=hfe.le
 have hf3:Fr J σ3:=hfe.to hf (by simp;omega)
 have q1':=hfe.get hf.wf kc q1
 have hlb:=hN.l1
 unfold jW at q3
 simp(disch:=try exact jz)only[go_sem,W3,au q3,Jh,aG q1']
 have hk:∀b,J.aj+1<b->(hset σ3.h (J.aj+1) ⟨[.int .i64 (.ofNat e.c.length),.sl (J.aj+1+1) 0 8 (.ex 8),aW e.a.length pb,.bool (rn (pz e e.c.length)),.str (rs (pz e e.c.length)),.str (rd (pz e e.c.length))],none⟩) b=σ3.h b:=λb hb=>ak _ _ _ _ jb
 refine⟨⟨_,_,rfl,?_,M,L,?_,λi hi=>?_⟩,fr⟩
 .refine((hR.on (J':=σ3) (hfe.old _ jb kc) (λb h1 h2=>hfe.old b h2 (by simp;omega)) hle').avl (p:=λb=>J.aj+1<b/\b<σ3.aj) ⟨jb,jb⟩ λb h1 h2=>⟨jb,h2⟩).keep (λb hb=>hk b hb.1) λb hb=>⟨jb,hb.2⟩
 .show aZ _ _ 2 _ (e.a.map (qB e.c)).length _
  rw[cn]
  refine(NF.hlp (p:=λb=>J.aj+1<b/\b<σ3.aj) hN jj (λi hi=>?_) λb h1 h2=>⟨jb,h2⟩).keep (λb hb=>hk b hb.1) λb hb=>⟨jb,hb.2⟩
  have:=hN.el (λj _=>Ox M L e.c e.a j) hi
  simp only[cy,di,aZ.kn this.1,this.2.kn,cI]
 .have hi:i<(e.a.map (qB e.c)).length:=hi
  rw[cn]at hi
  have:=hN.el (λj _=>Ox M L e.c e.a j) hi
  show acD _ _ _ (ix (e.a.map (qB e.c)) i).1/\zY _ _ _ (ix (e.a.map (qB e.c)) i).2
  rw[aah _ hi]
  exact⟨aZ.keep this.1 (λb hb=>hk b jb) λb hb=>⟨jb,hb.2⟩,this.2.keep (λb hb=>hk b jb) λb hb=>⟨jb,hb.2⟩⟩
abbrev kX(p:Nat->Prop)(h:Tr Bk)(v:B)(k:Nat)(f:Nat->Rat):Prop:=aZ p h 3 v k λc=>dP (f c)
def dQ(p:Nat->Prop)(h:Tr Bk)(v:B)(n:Nat)(k:Nat->Nat)(f:Nat->Nat->Rat):Prop:=∃T:Nat->B,aZ p h 1 v n (λi=>[T i])/\∀i,i<n->kX p h (T i) (k i) (f i)
section
variable {p q:Nat→Prop} {h h' : Tr Bk} {v:B} {n:Nat} {k:Nat→Nat} {f f' : Nat→Nat→Rat}
def aZ.at3{m:Nat}{f:Nat->Rat}(hl:kX p h v m f){c:Nat}(hc:c<m):∃b o cc,v=.sl b o m cc/\p b/\ld h b (o+c*3) 3 true=some (.agg (rK (f c))):=by obtain⟨b,o,cc,e,hp,hld⟩:=aZ.pos hl jb;exact⟨b,o,cc,e,hp,hld c hc⟩
def dQ.at(hr:dQ p h v n k f){i:Nat}(hi:i<n):∃b o c T,v=.sl b o n c/\p b/\ld h b (o+i*1) 1 false=some (.c T)/\kX p h T (k i) (f i):=by obtain⟨T,h1,h2⟩:=hr;obtain⟨b,o,c,e,hp,hld⟩:=h1.pos jb;grind[tH]
def dQ.keep(hr:dQ p h v n k f)(hk:∀b,p b->h' b=h b)(hp:∀b,p b->q b):dQ q h' v n k f:=by obtain⟨T,h1,h2⟩:=hr;exact⟨T,h1.keep hk hp,λi hi=>aZ.keep (h2 i hi) hk hp⟩
def dQ.len(hr:dQ p h v n k f):lenV (.c v)=some (jN n):=hr.choose_spec.1.len
def dQ.kn(hr:dQ p h v n k f):v.kn=true:=hr.choose_spec.1.kn
end
theorem dQ.fr{J J':St}(hW:WF J)(hf:Fr J J'){p:Nat->Prop}{v:B}{n:Nat}{k:Nat->Nat}{f:Nat->Nat->Rat}(hr:dQ p J.h v n k f):dQ (Lt J.aj) J'.h v n k f:=by obtain⟨T,h1,h2⟩:=hr;exact⟨T,h1.fr hW hf,λi hi=>aZ.fr hW hf (h2 i hi)⟩
def TM(T:Nat->B)(k:Nat->Nat)(f:Nat->Nat->Rat)(p:Nat->Prop)(h:Tr Bk)(i:Nat):Prop:=kX p h (T i) (k i) (f i)
abbrev acQ(T:Nat->B)(k:Nat->Nat)(f:Nat->Nat->Rat)(ty:Nat)(h:Tr Bk)(b n lo hi:Nat):Prop:=NF (TM T k f) h b n (λi=>[T i]) 1 ty lo hi
def E8(T:Nat->B)(k:Nat->Nat)(f:Nat->Nat->Rat)(j:Nat):QK (TM T k f) j:=λ_ _ _ _ hp hk hq=>aZ.keep hp hk hq
def ali(T:Nat->B):LG (λi=>[T i]) 1:=λ_=>rfl
section
variable {T:Nat→B} {k:Nat→Nat} {f:Nat→Nat→Rat} {h h' : Tr Bk} {b n ty lo hi:Nat}
def acQ.push(ho:acQ T k f ty h b n lo hi){hi1 nx n':Nat}{h1:Tr Bk}{v:B}(hx:kX (λb=>hi<=b/\b<hi1) h1 v (k n) (f n))(hh:∀b,lo<=b->b<hi->h1 b=h b)(h2:hi<=hi1)(h3:hi1<=nx)(h4:nx<n')(h5:lo<=hi)
  (hb:h' nx=some ⟨aY n (λi=>[T i])++[v],some (1,ty)⟩) (hk:∀c,lo<=c->c<hi1->n=0\/c≠b->h' c=h1 c):acQ (aJ T n v) k f ty h' nx (n+1) lo n':=by
 refine NF.push ho (λj _=>E8 _ k f j) (λj hj p h hq=>?_) (hi1:=hi1) (h1:=h1) ?_ hh h2 h3 h4 h5 hb ?_ hk (λi hi=>?_) (ali _)
 .grind[TM,aQ]
 .grind[TM,aI]
 .rw[aI]
 grind[aQ]
def acQ.hrows(ho:acQ T k f ty h b n lo hi){p:Nat->Prop}(hp:∀b,lo<=b->b<hi->p b):dQ p h (aW n b) n k f:=by have hel:=λi (hi:i<n)=>ho.el (λj _=>E8 T k f j) hi;refine⟨T,ho.hlp jj (λi hi=>?_) hp,λi hi=>aZ.keep (hel i hi) (λ_ _=>rfl) λb hb=>hp b hb.1 hb.2⟩;simp only[cy,di,aZ.kn (hel i hi),cI]
end
end Go.Proofs.Xe
