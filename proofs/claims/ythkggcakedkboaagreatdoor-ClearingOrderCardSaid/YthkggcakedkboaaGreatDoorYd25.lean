import Derived.Test.YthkggcakedkboaaGreatDoorYd24
set_option linter.all false
set_option maxRecDepth 100000
set_option maxHeartbeats 8000000
namespace Go.Proofs.Xe
open Go.RowKit Go.Proofs.Ins
def oG(a:Nat):(Int.ofNat a=Int.negSucc 0)=False:=by simp
def auP{σ:St}(hW:WF σ){p p':Nat->Prop}{x1 x2 x3 C Av tv:B}{cs:List C5}{a:gZ}(hC:qC p σ.h C cs)(hT:dX p' σ.h tv a)(h1:x1.kn=true)(h2:x2.kn=true)(h3:x3.kn=true)(h4:Av.kn=true){A:Nat}(hA:BI A)(hO:QZ A cs a):
  aC EN 94 [.agg [x1,x2,x3,C,Av],.agg [tv]] σ λr σ'=>(∃mv lv,r=.agg [mv,lv]/\Z7 (λb=>σ.aj<=b/\b<σ'.aj) σ'.h mv (lZ a)/\yD (λb=>σ.aj<=b/\b<σ'.aj) σ'.h lv (oD cs a).2)/\Fr σ σ':=by
 refine aQ (uS.o _ _) uS.h ?_
 unfold uS
 dsimp only
 have UL:=bf.kn hC
 have Vs:=hT.kn
 have XB:=bf.len hC
 have auQ:=hT.len
 have hnc:=hO.nc
 have hna:=hO.na
 have hFr:=Fr.refl hW
 have hPc:=arj hA.1
 simp(disch:=try exact jz) only[go_sem,z3,h1,h2,h3,UL,h4,Vs]
 refine aC.st (Fr σ) (fr) λhF1=>?_
 refine(QY hF1.wf (hT.fr hW hF1) jb hO.nf).mono ?_
 rintro _ σ1 ⟨⟨mv,rfl,hM⟩,hf1⟩
 have hF:=hF1.trans hf1
 have hle1:σ.aj+1+1<=σ1.aj:=av (by show _<=σ.aj+1+1+1;omega) hf1.le
 have hle2:σ.aj+1+1+1<=σ1.aj:=hf1.le
 have hM:kZ σ1.h mv (vV a).length (λi=>[.int .i64 (ix (vV a) i)]) 1 3 (σ.aj+1+1+1) σ1.aj:=hM
 have q0:σ1.h σ.aj=some ⟨[x1,x2,x3,C,Av],none⟩:=hf1.get hF1.wf ((ak _ _ _ _ jb).trans ((ak _ _ _ _ jb).trans (aA _ _ _)))
 have q1:σ1.h (σ.aj+1)=some ⟨[tv],none⟩:=hf1.get hF1.wf ((ak _ _ _ _ jb).trans (aA _ _ _))
 have q2:σ1.h (σ.aj+1+1)=some ⟨[.aV,.aV],none⟩:=hf1.get hF1.wf (aA _ _ _)
 have hMk:=hM.kn
 have aex:=Fr.refl hF.wf
 simp(disch:=try exact jz) only[go_sem,z3,hMk,au q0,h1,h2,h3,UL,h4,XB]
 refine bH.mono (Q:=λex tm σ'=>ex=.exit 0/\Tr.ah tm 3=.c (.ptr (σ.aj+1) 0)/\Tr.ah tm 4=.c (.ptr (σ.aj+1+1) 0)/\Tr.ah tm 5=.c (.ptr σ1.aj 0)/\Tr.ah tm 6=.c (.sl (σ1.aj+1) 0 cs.length (.ex cs.length))/\σ'.h σ1.aj=some ⟨[mv,.aV],none⟩/\σ'.h (σ1.aj+1)=some ⟨bZ cs.length (lsS cs a 0).1,none⟩/\Fr σ1 σ'/\σ1.aj+1+1<=σ'.aj)
  (aF (λq tm σ'=>∃k,q=cs.length-k/\k<=cs.length/\Tr.ah tm 3=.c (.ptr (σ.aj+1) 0)/\Tr.ah tm 4=.c (.ptr (σ.aj+1+1) 0)/\Tr.ah tm 5=.c (.ptr σ1.aj 0)/\Tr.ah tm 6=.c (.sl (σ1.aj+1) 0 cs.length (.ex cs.length))/\Tr.ah tm 26=.c C/\Tr.ah tm 27=.c (.int .i64 (.ofNat cs.length))/\Tr.ah tm 28=.c (.int .i64 (.ofNat k))
   /\σ'.h σ1.aj=some ⟨[mv,.aV],none⟩/\σ'.h (σ1.aj+1)=some ⟨bZ cs.length (λi=>if i<k then(ix cs i).a.q else 0),none⟩/\Fr σ1 σ'/\σ1.aj+1+1<=σ'.aj) cs.length ?_ ?_) ?_
 .refine⟨0,jb,jb,?_⟩
  simp(disch:=try exact jz) only[go_sem,z3,am]
  refine⟨?_,fr,jb⟩
  congr 2
 .rintro q tm σ' ⟨k,rfl,hk,t3,t4,t5,t6,t26,t27,t28,p5,p6,hf,hnx⟩
  have hle:=hf.le
  simp(disch:=try exact jz) only[go_sem,z3,t3,t4,t5,t6,t26,t27,t28,aG]
  refine aH (λhlt=>?_) (λhlt=>?_)
  .obtain⟨b5,o5,c5,rfl,-,bU⟩:=bf.pos hC jb
   have bU:=(hF.trans hf).ld hW (bU k hlt)
   unfold Zz at bU
   have hfit:=qU (hO.fc k hlt) jj
   have hz:=Sz.zero.two
   have hraw:rq (ix cs k).a.n (ix cs k).a.s (ix cs k).a.d=(ix cs k).a.q:=rfl
   simp(disch:=try exact jz) only[go_sem,z3,t3,t4,t5,t6,t26,t27,t28,bU,hfit,hz,hraw,eh,aI p6,p6]
   refine⟨cs.length-(k+1),jb,k+1,rfl,jb,rfl,p5,?_,fr,jb⟩
   exact bL (λl=>some (Bk.mk l none)) (qZ cs.length k λi=>(ix cs i).a.q)
  .have:k=cs.length:=jb
   subst this
   simp(disch:=try exact jz) only[go_sem,z3,am]
   refine⟨t3,t4,t5,t6,p5,?_,hf,hnx⟩
   rw[p6]
   congr 2
   exact dN λi hi=>ab hi
 rintro _ tm σ2 ⟨rfl,t3,t4,t5,t6,p5,p6,hf2,hnx2⟩
 have hF2:=hF.trans hf2
 have q1:=hf2.get hF.wf q1
 have q2:=hf2.get hF.wf q2
 have hle3:=hf2.le
 simp(disch:=try exact jz) only[go_sem,z3,t3,t4,t5,t6,au q1,Vs,auQ]
 refine bH.mono (Q:=λex tm σ'=>ex=.exit 2/\∃lb U,Tr.ah tm 4=.c (.ptr (σ.aj+1+1) 0)/\Tr.ah tm 5=.c (.ptr σ1.aj 0)/\Tr.ah tm 6=.c (.sl (σ1.aj+1) 0 cs.length (.ex cs.length))/\σ'.h σ1.aj=some ⟨[mv,aU a.length lb],none⟩/\σ'.h (σ1.aj+1)=some ⟨bZ cs.length (lsA cs a).1,none⟩/\aai U (λi=>ix (oD cs a).2 i) σ'.h lb a.length σ2.aj σ'.aj/\aT [σ1.aj,σ1.aj+1] σ2 σ')
  (aF (λq tm σ'=>∃j lb U,q=a.length-j/\j<=a.length/\Tr.ah tm 4=.c (.ptr (σ.aj+1+1) 0)/\Tr.ah tm 5=.c (.ptr σ1.aj 0)/\Tr.ah tm 6=.c (.sl (σ1.aj+1) 0 cs.length (.ex cs.length))/\Tr.ah tm 42=.c tv/\Tr.ah tm 43=.c (.int .i64 (.ofNat a.length))/\Tr.ah tm 44=.c (.int .i64 (.ofNat j))
   /\σ'.h σ1.aj=some ⟨[mv,aU j lb],none⟩/\σ'.h (σ1.aj+1)=some ⟨bZ cs.length (lsS cs a j).1,none⟩/\aai U (λi=>ix (oD cs a).2 i) σ'.h lb j σ2.aj σ'.aj/\aT [σ1.aj,σ1.aj+1] σ2 σ') a.length ?_ ?_) ?_
 .refine⟨0,σ2.aj,λ_=>.aV,jb,jb,?_⟩
  simp(disch:=try exact jz) only[go_sem,z3,t4,t5,t6,am]
  exact⟨p5,p6,NF.nil (UH _ _),aT.refl hf2.wf⟩
 .rintro q tm σ' ⟨j,lb,U,rfl,hj,t4,t5,t6,t42,t43,t44,p5,p6,hN,hf⟩
  have hle:=hf.le
  simp(disch:=try exact jz) only[go_sem,z3,t4,t5,t6,t42,t43,t44,aG]
  refine aH (λhlt=>?_) (λhlt=>?_)
  .obtain⟨b6,o6,c6,rfl,P1,bW,hP1⟩:=hT.at hlt
   have hb6:=hW.dw bW
   have bW:=hf.ld hf2.wf (by simp;omega) (hF2.ld hW bW)
   have awX:=bf.kn hP1
   have Ol:=bf.len hP1
   have hnt:=hO.nt j hlt
   have hfp:=hO.fp j hlt
   have hpp:=hO.p _ (lM hlt)
   have hS:=ail (cs:=cs) hlt
   have hS2:=UJ (cs:=cs) (a:=a) (i:=j) (bN j) hlt
   have hL:ix (oD cs a).2 j=(AL (lsS cs a j).1 (ix a j) (ix a j).length).2:=by unfold oD;rw[<-Io];have h9:=AP cs a a.length jp;show ix ((lsS cs a a.length).2++[_]) j=_;rw[gy _ _ jb];exact UJ hlt jp
   have hSP:=arl hPc hO.c hO.p j
   clear hS2
   generalize (lsS cs a j).1=f at*
   generalize ix a j=r at*
   simp(disch:=try exact jz) only[go_sem,z3,t4,t5,t6,t42,t43,t44,bW,awX,Ol]
   refine bH.mono (Q:=λex tm σ4=>ex=.exit 4/\∃bs,Tr.ah tm 4=.c (.ptr (σ.aj+1+1) 0)/\Tr.ah tm 5=.c (.ptr σ1.aj 0)/\Tr.ah tm 6=.c (.sl (σ1.aj+1) 0 cs.length (.ex cs.length))/\Tr.ah tm 11=.c (.ptr σ'.aj 0)/\Tr.ah tm 42=.c (.sl b6 o6 a.length c6)/\Tr.ah tm 43=.c (.int .i64 (.ofNat a.length))/\Tr.ah tm 44=.c (.int .i64 (.ofNat j))
     /\σ4.h (σ1.aj+1)=some ⟨bZ cs.length (AL f r r.length).1,none⟩/\TS σ4 σ'.aj bs (AL f r r.length).2/\aT [σ1.aj+1] σ' σ4)
    (aF (λq tm σ4=>∃l bs,q=r.length-l/\l<=r.length/\Tr.ah tm 4=.c (.ptr (σ.aj+1+1) 0)/\Tr.ah tm 5=.c (.ptr σ1.aj 0)/\Tr.ah tm 6=.c (.sl (σ1.aj+1) 0 cs.length (.ex cs.length))/\Tr.ah tm 11=.c (.ptr σ'.aj 0)/\Tr.ah tm 42=.c (.sl b6 o6 a.length c6)/\Tr.ah tm 43=.c (.int .i64 (.ofNat a.length))/\Tr.ah tm 44=.c (.int .i64 (.ofNat j))/\Tr.ah tm 48=.c P1/\Tr.ah tm 49=.c (.int .i64 (.ofNat r.length))/\Tr.ah tm 50=.c (.int .i64 (.ofNat l))
     /\σ4.h (σ1.aj+1)=some ⟨bZ cs.length (AL f r l).1,none⟩/\TS σ4 σ'.aj bs (AL f r l).2/\aT [σ1.aj+1] σ' σ4) r.length ?_ ?_) ?_
   .refine⟨0,σ'.aj+1,jb,jb,?_⟩
    have kC:=Fr.refl hf.wf
    simp(disch:=try exact jz) only[go_sem,z3,t4,t5,t6,t42,t43,t44,am]
    refine⟨?_,⟨?_,rfl,bN _,.inl rfl⟩,Fr.ex (fr) _⟩
    .exact p6
    .rw[aA];rfl
   .rintro q tm σ4 ⟨l,bs,rfl,hl,t4,t5,t6,t11,t42,t43,t44,t48,t49,t50,p64,Yy,hf4⟩
    have xM:=hf4.le
    have auR:=Yy.lt hf4.wf
    simp(disch:=try exact jz) only[go_sem,z3,t4,t5,t6,t11,t42,t43,t44,t48,t49,t50,aG]
    refine aH (λPU=>?_) (λPU=>?_)
    .obtain⟨b7,o7,c7,rfl,-,cZ⟩:=bf.pos hP1 jb
     have cZ:=cZ l PU
     have hb7:=hW.dw cZ
     have cZ:=hf4.ld hf.wf (by simp;omega) (hf.ld hf2.wf (by simp;omega) (hF2.ld hW cZ))
     unfold Bz at cZ
     have hfit:=qU (hfp l PU) jj
     have hz:=Sz.zero.two
     have hx:=hpp _ (lM PU)
     have hok:=ark hPc hSP hpp l
     have hsz:=UK hA hok.2 (by rw[Ld f r l hl];omega)
     have hll:=Ld f r l hl
     have hsucc:=XA (f:=f) PU
     have hraw:rq (ix r l).a.n (ix r l).a.s (ix r l).a.d=(ix r l).a.q:=rfl
     have hkl:∀b,b<σ'.aj->b<σ4.aj:=λb hb=>aE hb xM
     have ax0:=hf4.wf.lt p64
     by_cases hk1:(ix r l).k=Int.negSucc 0
     .have hS1:AL f r (l+1)=((AL f r l).1,(AL f r l).2++[(Int.negSucc 0,(ix r l).a.q)]):=by rw[hsucc];unfold lpS;rw[ab (show(ix r l).k=-1 from hk1)];rfl
      have hqz:=Oz hA (hx.2 (.inl hk1))
      have y7:=Fr.refl hf4.wf
      simp(disch:=try exact jz) only[go_sem,z3,t4,t5,t6,t11,t42,t43,t44,t48,t49,t50,cZ,hk1,hfit,hz,hraw,eh]
      refine aC.st (Fr σ4) (fr) λiE=>?_
      have aro:=Yy.fr hf4.wf iE
      refine(aah iE.wf aro jb _ _ hsz hqz).mono ?_
      rintro _ σ6 ⟨⟨bs',aio⟩,hlo,hW6,zV⟩
      have zV:σ4.aj+1<=σ6.aj:=zV
      simp(disch:=try exact jz) only[go_sem,z3,t4,t5,t6,t11,t42,t43,t44,t48,t49,t50]
      refine⟨r.length-(l+1),jb,l+1,bs',rfl,jb,rfl,?_,?_,?_⟩
      .rw[hS1,hlo _ jb,iE.old _ jb];exact p64
      .rw[hS1];exact aio
      .exact⟨jb,hW6,λb hb hn=>by rw[hlo b hb,iE.old b jb];exact hf4.old b hb hn⟩
     .obtain⟨kk,hkk,hkn⟩:∃kk:Nat,(ix r l).k=Int.ofNat kk/\kk<cs.length:=by
       rcases hx.1 with h|⟨ha,hb⟩
       .exact absurd h hk1
       .exact⟨(ix r l).k.toNat,(fm ha).symm,jb⟩
      have y7:=Fr.refl hf4.wf
      have hcz:=Oz hA (hok.1 kk)
      have hcz2:=hcz.two
      have hxc:=hx.2
      have fin:∀(cq:Rat){s5:St},Sz cq->(AL f r (l+1))=(aO (AL f r l).1 kk ((AL f r l).1 kk-cq),(AL f r l).2++[(Int.ofNat kk,cq)])->aT [σ1.aj+1] σ4 s5->s5.h (σ1.aj+1)=some ⟨bZ cs.length (aO (AL f r l).1 kk ((AL f r l).1 kk-cq)),none⟩->∀{K:V->St->Prop},(∀v σ6 bs',σ6.h (σ1.aj+1)=some ⟨bZ cs.length (AL f r (l+1)).1,none⟩->TS σ6 σ'.aj bs' (AL f r (l+1)).2->aT [σ1.aj+1] σ' σ6->K v σ6)->
        aC EN 93 [.c (.ptr σ'.aj 0),.c (.int .i64 (.ofNat kk)),.agg [.bool (rn cq),.str (rs cq),.str (rd cq)]] s5 K:=λcq s5 hcq hS1 iE h5 K hK=>by
       have aro:=Yy.fre hf4.wf iE (by simp;omega)
       refine(aah iE.wf aro jb _ _ hsz hcq).mono ?_
       rintro v σ6 ⟨⟨bs',aio⟩,hlo,hW6,zV⟩
       have yV:=iE.le
       refine hK v σ6 bs' ?_ (by rw[hS1];exact aio) ⟨jb,hW6,λb hb hn=>?_⟩
       .rw[hlo _ jb,h5,hS1]
       .rw[hlo b hb,iE.old b jb hn];exact hf4.old b hb hn
      by_cases hb:(ix r l).b=true
      .have hS1:AL f r (l+1)=(aO (AL f r l).1 kk ((AL f r l).1 kk-jX ((AL f r l).1 kk) (ix r l).a.q),(AL f r l).2++[(Int.ofNat kk,jX ((AL f r l).1 kk) (ix r l).a.q)]):=by rw[hsucc,aik (show¬(ix r l).k=-1 from hk1) hkk,hb];rfl
       have hmz:=Oz hA (hPc.min _ _ (hok.1 kk) (hx.2 (.inr hb)))
       simp(disch:=try exact jz) only[go_sem,z3,t4,t5,t6,t11,t42,t43,t44,t48,t49,t50,cZ,hkk,oG,hb,hfit,hcz2,hraw,arn,au p64,aI p64,p64]
       refine fin _ hmz hS1 (by have hFe:=aT.refl (ex:=[σ1.aj+1]) hf4.wf;repeat(first|assumption|exact aT.refl (by assumption)|exact aT.up (by assumption) kf|exact aT.up (aT.refl (by assumption)) kf|refine aT.set1 ?_ kg kf|refine aT.kK ?_ kg|refine aT.nC ?_ kg|refine aT.nV ?_ kf)) (aA _ _ _) λv σ6 bs' h1 h2 h3=>?_
       simp(disch:=try exact jz) only[go_sem,z3,t4,t5,t6,t11,t42,t43,t44,t48,t49,t50]
       exact⟨r.length-(l+1),jb,l+1,bs',rfl,jb,rfl,h1,h2,h3⟩
      .have hb:(ix r l).b=false:=by simpa using hb
       have hS1:AL f r (l+1)=(aO (AL f r l).1 kk ((AL f r l).1 kk-(AL f r l).1 kk),(AL f r l).2++[(Int.ofNat kk,(AL f r l).1 kk)]):=by rw[hsucc,aik (show¬(ix r l).k=-1 from hk1) hkk,hb];rfl
       simp(disch:=try exact jz) only[go_sem,z3,t4,t5,t6,t11,t42,t43,t44,t48,t49,t50,cZ,hkk,oG,hb,hfit,hcz2,hraw,au p64,aI p64,p64]
       refine fin _ hcz hS1 (by have hFe:=aT.refl (ex:=[σ1.aj+1]) hf4.wf;repeat(first|assumption|exact aT.refl (by assumption)|exact aT.up (by assumption) kf|exact aT.up (aT.refl (by assumption)) kf|refine aT.set1 ?_ kg kf|refine aT.kK ?_ kg|refine aT.nC ?_ kg|refine aT.nV ?_ kf)) (aA _ _ _) λv σ6 bs' h1 h2 h3=>?_
       simp(disch:=try exact jz) only[go_sem,z3,t4,t5,t6,t11,t42,t43,t44,t48,t49,t50]
       exact⟨r.length-(l+1),jb,l+1,bs',rfl,jb,rfl,h1,h2,h3⟩
    .have:l=r.length:=jb
     subst this
     simp(disch:=try exact jz) only[go_sem,z3,am]
     exact⟨bs,t4,t5,t6,t11,t42,t43,t44,p64,Yy,hf4⟩
   .rintro _ tm σ4 ⟨rfl,bs,t4,t5,t6,t11,t42,t43,t44,p64,Yy,hf4⟩
    have xM:=hf4.le
    have hlb:=hN.l1
    have OA:=hN.l2
    have auR:=Yy.lt hf4.wf
    have auS:aT [σ1.aj,σ1.aj+1] σ2 σ4:=hf.to' hf4 kc
    have p54:=hf4.get hf.wf kc p5
    have hN4:=NF.mono hN (λj _=>UG _ _ j) (λb h1 h2=>hf4.old b h2 (by simp;omega)) jp
    have hg4:=hN4.g
    have hLG:=UH U λi=>ix (oD cs a).2 i
    have Q5:=Yy.b
    unfold jK at Q5
    simp(disch:=try exact jz) only[go_sem,z3,t4,t5,t6,t11,t42,t43,t44,au p54,au Q5,p54,hg4,hMk]
    refine⟨a.length-(j+1),jb,j+1,σ4.aj+1,aO U j (aU (AL f r r.length).2.length bs),rfl,jb,rfl,rfl,by rw[p64,hS],?_,?_⟩
    .refine hN.push (U:=U) hf4.wf hL Yy jp jb (λb h1 h2=>hf4.old b h2 (by simp;omega)) jb jb ?_ λc h1 h2 h3=>?_
     .rw[ak _ _ _ _ jb,aA];rfl
     .rw[ak _ _ _ _ jb,ak _ _ _ _ jb,gU _ _ _ _ h3,ak _ _ _ _ jb]
    .repeat(first|assumption|exact aT.refl (by assumption)|exact aT.up (by assumption) kf|exact aT.up (aT.refl (by assumption)) kf|refine aT.set1 ?_ kg kf|refine aT.kK ?_ kg|refine aT.nC ?_ kg|refine aT.nV ?_ kf)
  .have:j=a.length:=jb
   subst this
   simp(disch:=try exact jz) only[go_sem,z3,am]
   exact⟨lb,U,t4,t5,t6,p5,by rw[<-Io];exact p6,hN,hf⟩
 rintro _ tm σ3 ⟨rfl,lb,U,t4,t5,t6,p5,p6,hN,hf3⟩
 have hF3:Fr σ σ3:=hf3.to hF2 (by simp;omega)
 have xM:=hf3.le
 have q23:=hf3.get hf2.wf (by simp;omega) q2
 have hP:∀t∈a,∀x∈t,x.k=-1\/0<=x.k/\x.k<cs.length:=λt ht x hx=>(hO.p t ht x hx).1
 have hM3:kZ σ3.h mv (lZ a).length (λi=>[PN (lZ a) i]) 1 3 (σ.aj+1+1+1) σ1.aj:=by
  rw[Ox];refine kZ.congr (kZ.mono hM (λb h1 h2=>?_) jp jp) λi hi=>by rw[amx hP hi]
  rw[hf3.old b jb (by simp;omega),hf2.old b h2]
 have hMl:=hM3.len
 have hMm:Z7 (λb=>σ.aj+1+1+1<=b/\b<σ1.aj) σ3.h mv (lZ a):=kZ.hlp hM3 (λ_=>rfl) jj (λ_ _=>rfl) λb h1 h2=>⟨h1,h2⟩
 have hml:=FU hP
 have amB:=Fr.refl hF3.wf
 have ayr:=hF3.wf.lt p6
 have hAc:=(ah7 (n:=cs.length) hPc hO.c hO.p).1
 simp(disch:=try exact jz) only[go_sem,z3,t4,t5,t6,au p5,hMk,hMl]
 refine bH.mono (Q:=λex tm σ4=>ex=.exit 6/\∃bs,Tr.ah tm 4=.c (.ptr (σ.aj+1+1) 0)/\Tr.ah tm 5=.c (.ptr σ1.aj 0)/\Tr.ah tm 15=.c (.ptr σ3.aj 0)/\TS σ4 σ3.aj bs (yX (lZ a) (lsA cs a).1)/\Fr σ3 σ4)
  (aF (λq tm σ4=>∃i bs,q=(lZ a).length-i/\i<=(lZ a).length/\Tr.ah tm 4=.c (.ptr (σ.aj+1+1) 0)/\Tr.ah tm 5=.c (.ptr σ1.aj 0)/\Tr.ah tm 6=.c (.sl (σ1.aj+1) 0 cs.length (.ex cs.length))/\Tr.ah tm 15=.c (.ptr σ3.aj 0)/\Tr.ah tm 97=.c mv/\Tr.ah tm 98=.c (.int .i64 (.ofNat (lZ a).length))/\Tr.ah tm 99=.c (.int .i64 (.ofNat i))/\TS σ4 σ3.aj bs (yX ((lZ a).take i) (lsA cs a).1)/\Fr σ3 σ4) (lZ a).length ?_ ?_) ?_
 .refine⟨0,σ3.aj+1,jb,jb,?_⟩
  simp(disch:=try exact jz) only[go_sem,z3,t4,t5,t6,am]
  exact⟨⟨aA _ _ _,rfl,bN _,.inl rfl⟩,fr⟩
 .rintro q tm σ4 ⟨i,bs,rfl,hi,t4,t5,t6,t15,t97,Gg,EC,Yy,hf4⟩
  have yV:=hf4.le
  simp(disch:=try exact jz) only[go_sem,z3,t4,t5,t6,t15,t97,Gg,EC,aG]
  refine aH (λhlt=>?_) (λhlt=>?_)
  .obtain⟨b8,o8,c8,rfl,nP⟩:=(hMm.hc).pos jb
   have nP:=hf4.ld hF3.wf (nP i hlt)
   unfold PN at nP
   have hmi:=lM hlt
   have hin:ix (lZ a) i<cs.length:=by have h1:=(xJ hP).mp hmi;have:=tX hP ((ix (lZ a) i:Nat):Int) (qE.mpr ⟨jb,h1⟩);omega
   have p64:=hf4.get hF3.wf p6
   have hll:(yX ((lZ a).take i) (lsA cs a).1).length=i:=by unfold yX;rw[bz,dc];omega
   have hsz:Sz (aW (yX ((lZ a).take i) (lsA cs a).1)):=UK (n:=cs.length) hA (λp hp=>by obtain⟨k,hk,rfl⟩:=cH.mp hp;have h1:=(xJ hP).mp (di hk);exact⟨.inr (tX hP k (qE.mpr ⟨jb,h1⟩)),hAc k⟩) jb
   have hcz:=Oz hA (hAc (ix (lZ a) i))
   simp(disch:=try exact jz) only[go_sem,z3,t4,t5,t6,t15,t97,Gg,EC,nP,au p64]
   refine(aah hf4.wf Yy jb _ _ hsz hcz).mono ?_
   rintro _ σ6 ⟨⟨bs',aio⟩,hlo,hW6,zV⟩
   simp(disch:=try exact jz) only[go_sem,z3,t4,t5,t6,t15,t97,Gg,EC]
   refine⟨(lZ a).length-(i+1),jb,i+1,bs',rfl,jb,rfl,by rw[aew _ _ hlt];exact aio,jb,hW6,λb hb=>by rw[hlo b hb];exact hf4.old b hb⟩
  .have:i=(lZ a).length:=jb
   subst this
   simp(disch:=try exact jz) only[go_sem,z3,am]
   exact⟨bs,t4,t5,t15,by rw[ck]at Yy;exact Yy,hf4⟩
 rintro _ tm σ4 ⟨rfl,bs,t4,t5,t15,Yy,hf4⟩
 have yV:=hf4.le
 have hlb:=hN.l1
 have OA:=hN.l2
 have auR:=Yy.lt hf4.wf
 have p54:=hf4.get hF3.wf p5
 have q24:=hf4.get hF3.wf q23
 have hN4:=NF.mono hN (λj _=>UG _ _ j) (λb h1 h2=>hf4.old b h2) jp
 have hg4:=hN4.g
 have hLG:=UH U λi=>ix (oD cs a).2 i
 have Q5:=Yy.b
 have hL:ix (oD cs a).2 a.length=yX (lZ a) (lsA cs a).1:=by
  have h9:=AP cs a a.length jp;rw[Io]at h9;unfold oD;conv=>lhs;rw[<-h9]
  exact gB _ _
 have oW:=hF3.trans hf4
 unfold jK at Q5
 simp(disch:=try exact jz) only[go_sem,z3,t4,t5,t15,au p54,au Q5,p54,hg4,hMk,aI q24,q24]
 have hN5:=hN.push (U:=U) (n':=σ4.aj+1+1) (nx:=σ4.aj+1) hf4.wf hL Yy jp jb (λb h1 h2=>hf4.old b h2) jb jb (h':=hset (hset (hset (kK a.length (hset σ4.h σ4.aj ⟨[aU (yX (lZ a) (lsA cs a).1).length bs,.bool (rn (aW (yX (lZ a) (lsA cs a).1))),.str (rs (aW (yX (lZ a) (lsA cs a).1))),.str (rd (aW (yX (lZ a) (lsA cs a).1)))],none⟩) lb) (σ4.aj+1) ⟨bD a.length (Xz U λi=>ix (oD cs a).2 i)++[aU (yX (lZ a) (lsA cs a).1).length bs,.bool (rn (aW (yX (lZ a) (lsA cs a).1))),.str (rs (aW (yX (lZ a) (lsA cs a).1))),.str (rd (aW (yX (lZ a) (lsA cs a).1)))],some (4,157)⟩) σ1.aj ⟨[mv,.sl (σ4.aj+1) 0 (a.length+1) .opn],none⟩) (σ.aj+1+1) ⟨[mv,.sl (σ4.aj+1) 0 (a.length+1) .opn],none⟩)
  (by rw[ak _ _ _ _ jb,ak _ _ _ _ jb,aA];rfl) (λc h1 h2 h3=>by rw[ak _ _ _ _ jb,ak _ _ _ _ jb,ak _ _ _ _ jb,gU _ _ _ _ h3,ak _ _ _ _ jb])
 have hll:(oD cs a).2.length=a.length+1:=by have h9:=AP cs a a.length jp;rw[Io]at h9;unfold oD;show((lsA cs a).2++[_]).length=_;rw[az,h9];rfl
 refine⟨⟨_,_,rfl,?_,?_⟩,fr⟩
 .refine bf.keep hMm (λb hb=>?_) λb hb=>⟨jb,by show b<σ4.aj+1+1;omega⟩
  rw[ak _ _ _ _ jb,ak _ _ _ _ jb,ak _ _ _ _ jb,gU _ _ _ _ jb,ak _ _ _ _ jb,hf4.old b jb]
 .exact(hN5.ari hll λi _=>rfl).keep (λ_ _=>rfl) λb hb=>⟨jb,hb.2⟩
def rkG(cs:List C5)(bs:Nat->Nat)(k r:Nat):List B:=jK (aU (BJ cs r k).length (bs r)) (aW (BJ cs r k))
structure RkS(σ:St)(rb:Nat)(bs:Nat->Nat)(cs:List C5)(k lo:Nat):Prop where
 b:σ.h rb=some ⟨bD 8 (rkG cs bs k),none⟩
 o:∀r,r<8->Oo σ.h (bs r) (BJ cs r k)
 l:∀r,r<8->(BJ cs r k).length=0\/lo<=bs r/\bs r<σ.aj
 i:∀r r',r<8->r'<8->r≠r'->(BJ cs r k).length=0\/(BJ cs r' k).length=0\/bs r≠bs r'
def RkS.on{σ σ':St}{rb lo k:Nat}{bs:Nat->Nat}{cs:List C5}(h:RkS σ rb bs cs k lo)(hrb:σ'.h rb=σ.h rb)(hf:∀b,lo<=b->b<σ.aj->σ'.h b=σ.h b)(hle:σ.aj<=σ'.aj):RkS σ' rb bs cs k lo:=by
 refine⟨by rw[hrb];exact h.b,λr hr=>?_,λr hr=>by have:=h.l r hr;omega,h.i⟩;refine(vU ?_).trans (h.o r hr);rcases h.l r hr with h1|h1
 .omega
 grind
theorem RkS.fr{σ σ':St}{rb lo k:Nat}{bs:Nat->Nat}{cs:List C5}(h:RkS σ rb bs cs k lo)(hrb:rb<σ.aj)(hf:Fr σ σ'):RkS σ' rb bs cs k lo:=h.on (hf.old _ hrb) (λb _ hb=>hf.old b hb) hf.le
def arp{σ:St}(hW:WF σ){rb lo k r:Nat}{bs:Nat->Nat}{cs:List C5}(h:RkS σ rb bs cs k lo)(hrb:rb<lo)(hlo:lo<=σ.aj)(hr:r<8)(hk:(ix cs k).r=(r:Int))(hk1:k<=1000000)(hs:Sz (aW (BJ cs r k)))(hq:Sz (ix cs k).a.q):
  aC EN 93 [.c (.ptr rb (r*4)),.c (.int .i64 (.ofNat k)),.agg [.bool (rn (ix cs k).a.q),.str (rs (ix cs k).a.q),.str (rd (ix cs k).a.q)]] σ λ_ σ'=>(∃bs',RkS σ' rb bs' cs (k+1) lo)/\(∀b,b<σ.aj->b≠rb->(BJ cs r k).length=0\/b≠bs r->σ'.h b=σ.h b)/\WF σ'/\σ.aj<=σ'.aj:=by
 have hl:=h.l r hr
 have hlen:=Lh cs r k
 obtain⟨b0,hb0,hb1⟩:∃b0,(∀c,aU (BJ cs r k).length c=aU (BJ cs r k).length b0\/c≠bs r)/\((BJ cs r k).length=0/\b0=rb\/0<(BJ cs r k).length/\b0=bs r):=by
  by_cases e:(BJ cs r k).length=0
  .exact⟨rb,λc=>.inl (by rw[e];rfl),.inl ⟨e,rfl⟩⟩
  .exact⟨bs r,λc=>by grind,.inr ⟨jb,rfl⟩⟩
 have hT:Oo σ.h b0 (BJ cs r k):=by
  have:=h.o r hr;unfold Oo at this⊢;rw[<-this];rcases hb1 with⟨e,-⟩|⟨-,e⟩
  .rw[e];rfl
  .rw[e]
 have hGr:rkG cs bs k r=jK (aU (BJ cs r k).length b0) (aW (BJ cs r k)):=by grind[rkG]
 refine(ah3 hW h.b hr (λ_=>rfl) rfl rfl hGr hT jb jb jb k _ hs hq).mono ?_
 rintro _ σ' ⟨nx,h1,h2,h3,h4,h5⟩
 have hle:=h5.le
 have e1:BJ cs r (k+1)=BJ cs r k++[((k:Int),(ix cs k).a.q)]:=by grind[BJ]
 have e2:∀r',r'≠r->BJ cs r' (k+1)=BJ cs r' k:=λr' hne=>by grind[BJ]
 refine⟨⟨aO bs r nx,?_,λr' hr'=>?_,λr' hr'=>?_,λa b ha hb hab=>?_⟩,λb hb hne hn2=>h5.old b hb ?_,h5.wf,hle⟩
 .rw[h3]
  congr 2
  refine bF λr' hr'=>?_
  unfold iT rkG
  by_cases e:r'=r
  .subst e
   rw[ab rfl,aN,e1,QT,az];rfl
  grind[aP]
 .by_cases e:r'=r
  .subst e
   rw[aN,e1]
   unfold Oo
   rw[az,bY]
   show σ'.h nx=some _
   grind[Go.Proofs.Xe.jI,Go.Proofs.Xe.bF,Go.Proofs.Xe.iT,Go.Proofs.Xe.gB,Go.Proofs.Xe.gy]
  .rw[aP _ _ _ _ e,e2 r' e]
   refine(vU ?_).trans (h.o r' hr')
   have h6:=h.l r' hr'
   have h7:=h.i r' r hr' hr e
   by_cases e0:(BJ cs r' k).length=0
   .exact .inl e0
   .refine .inr (h5.old _ jb ?_)
    simp;omega
 .by_cases e:r'=r
  .subst e;rw[aN];omega
  .rw[aP _ _ _ _ e,e2 r' e]
   have:=h.l r' hr';omega
 .by_cases ea:a=r
  .subst ea
   rw[aN,aP _ _ _ _ (Ne.symm hab),e2 b (Ne.symm hab)]
   have:=h.l b hb;omega
  .by_cases eb:b=r
   .subst eb
    rw[aN,aP _ _ _ _ ea,e2 a ea]
    have:=h.l a ha;omega
   .rw[aP _ _ _ _ ea,aP _ _ _ _ eb,e2 a ea,e2 b eb]
    exact h.i a b ha hb hab
 grind
def RkS.ari{σ:St}{rb lo:Nat}{bs:Nat->Nat}{cs:List C5}(h:RkS σ rb bs cs cs.length lo){p:Nat->Prop}(hp:p rb)(hp2:∀b,lo<=b->b<σ.aj->p b):yD p σ.h (.sl rb 0 8 (.ex 8)) (UA cs cs.length):=by
 have hix:∀r,r<8->ix (UA cs cs.length) r=BJ cs r cs.length:=λr hr=>by grind[UA,dV]
 have h8:(UA cs cs.length).length=8:=by rfl
 refine⟨λr=>aU (BJ cs r cs.length).length (bs r),?_,cK 8,λr hr=>?_⟩
 .rw[h8];refine(bC (G:=rkG cs bs cs.length) _ h.b rfl hp (λ_=>rfl) jj λr hr=>?_).congr λr hr=>by grind[rkG]
  grind[rkG,jK,vT,Ai,KH]
 .rw[h8]at hr;rw[hix r hr];exact(h.o r hr).hlp (by rcases h.l r hr with h1|h1;exact .inl h1;grind)
structure OB(A:Nat)(e:wF):Prop where
 nc:e.c.length<=1000
 na:e.a.length<=1000
 r:∀k,k<e.c.length->∃r:Nat,r<8/\(ix e.c k).r=Int.ofNat r
 fc:∀k,k<e.c.length->(ix e.c k).a.fits 1000000
 c:∀k,FT A (ix e.c k).a.q
 a:∀j,j<e.a.length->QZ A e.c (ix e.a j)
def ru(e:wF)(k:Nat):Rat:=aB k λi=>(ix e.c i).a.q
def ace{A:Nat}{f:Nat->Rat}(hf:∀i,FT A (f i)):∀n,dU A (aB n f)/\0<=aB n f/\aB n f<=(n:Rat)*uQ
 |0=>⟨dU.zero A,aR,by show(0:Rat)<=((0:Nat):Rat)*uQ;simp⟩
 |n+1=>by
  obtain⟨h1,h2,h3⟩:=ace hf n;have h4:=hf n;rw[gb];have:((1:Nat):Rat)=1:=rfl;refine⟨h1.add h4.1,?_,?_⟩
  .show 0<=aB n f+f n;grind
  .show aB n f+f n<=_;grind
def arq{A:Nat}(hA:BI A){f:Nat->Rat}(hf:∀i,FT A (f i)){n:Nat}(hn:n<=10000):Sz (aB n f):=by obtain⟨h1,h2,h3⟩:=ace hf n;have hU:=FQ (k:=10000) jj;have h4:(n:Rat)<=((10000:Nat):Rat):=br.mpr hn;have h5:=bh h4 Ov;exact(qX hA (ie A) h1 h2 kd).sz hA (by grind[vk])
def acf(M L:Nat->B)(cs:List C5)(al:List gZ)(p:Nat->Prop)(h:Tr Bk)(j:Nat):Prop:=Z7 p h (M j) (lZ (ix al j))/\yD p h (L j) (oD cs (ix al j)).2
abbrev aol(M L:Nat->B)(cs:List C5)(al:List gZ)(h:Tr Bk)(b n lo hi:Nat):Prop:=NF (acf M L cs al) h b n (λj=>[M j,L j]) 2 160 lo hi
def Lj(M L:Nat->B)(cs:List C5)(al:List gZ)(j:Nat):QK (acf M L cs al) j:=λ_ _ _ _ hp hk hq=>⟨bf.keep hp.1 hk hq,hp.2.keep hk hq⟩
def aak(M L:Nat->B):LG (λj=>[M j,L j]) 2:=λ_=>rfl
def kG{E:Env}{f:Nat}{args:List V}{σ:St}{F:AF}{K:V->St->Prop}(ho:E.VD f args σ=none)(hF:E.fns f=some F):aC E f args σ K=bH E F.body (ini args) σ (Zi F.res K):=by
 refine propext ⟨?_,aQ ho hF⟩;rintro⟨n,v,σ',h1,h2⟩;cases n with
 |zero=>grind[iP]
 |succ n=>
  rw[iP]at h1
  unfold GH at h1
  rw[ho,hF]at h1
  dsimp only at h1
  rw[Zh]at h1
  dsimp only at h1
  unfold ac6 at h1
  split at h1
  .next tm τ e=>
   split at h1
   .next u hu=>cases h1;exact⟨n,_,tm,_,e,_,hu,h2⟩
   grind
  .next tm τ e=>
   split at h1
   .next u hu=>cases h1;exact⟨n,_,tm,_,e,_,hu,h2⟩
   grind
  grind
section
variable (dB bM tm:Tr V) (σ:St) (res:List Rs) (pd:List iK)
def aip(i:Nat)(us os:List Nat)(d:Option Nat)(g:Option (Nat×Bool))(bytes:Nat)(z:List B)(a c:O)(l:List DO)(K:St->List Rs->List iK->Prop):
  uM dB bM (⟨i,us,os,⟨d,g,.J3 bytes z a c⟩⟩::l) σ res pd K=match MG dB bM res us os with
   |some tm=>Bv g tm (match JL (a.ev tm),JL (c.ev tm)with
    |some n,some m=>(bif Nat.ble n m&&(Nat.ble (bytes*m) 281474976710656&&Nat.ble m 1073741824)then uM dB bM l ⟨hset σ.h σ.aj ⟨rep z m,none⟩,σ.aj+1⟩ (⟨i,d,.c (.sl σ.aj 0 n (.ex m))⟩::res) (⟨i,⟨d,g,.J3 bytes z a c⟩,tm,.c (.sl σ.aj 0 n (.ex m)),true,some σ.aj⟩::pd) K else False)
    |_,_=>False) (uM dB bM l σ (⟨i,d,.tnil⟩::res) (⟨i,⟨d,g,.J3 bytes z a c⟩,tm,.tnil,false,none⟩::pd) K)
   |none=>False:=by
 unfold uM Bv
 rw[xR]
 dsimp only
 cases MG dB bM res us os with
 |none=>rfl
 |some tm=>
  grind[vG.kind,ng,jH]
def aal(i:Nat)(d:Option Nat)(g9:Option (Nat×Bool))(bytes:Nat)(z:List B)(a c:O)(v:V)(b:Nat):again σ ⟨i,⟨d,g9,.J3 bytes z a c⟩,tm,v,true,some b⟩=match JL (a.ev tm),JL (c.ev tm)with
  |some n,some m=>(bif Nat.ble n m&&(Nat.ble (bytes*m) 281474976710656&&Nat.ble m 1073741824)then(match σ.h b with|some ⟨c,none⟩=>MF c (rep z m)|_=>false)else false)
  |_,_=>false:=by
 grind[again,vG.kind,ng]
end
def aiq(n:Nat)(f:Nat->Bool):(ones n λi=>.bool (f i)).all B.kn=true:=Zv λ_=>rfl
attribute [go_sem] aip aal aiq
def vZ{E:Env}{a b:AC}{tm:Tr V}{σ:St}{Q:AX->Tr V->St->Prop}(P:Tr V->St->Prop)(h:bH E a tm σ λe tm' σ'=>e=.normal/\P tm' σ')(h2:∀tm' σ',P tm' σ'->bH E b tm' σ' Q):bH E (.seq a b) tm σ Q:=
 run_seq (h.mono (by rintro _ tm' σ' ⟨rfl,hp⟩;exact h2 _ _ hp))
def OC{E:Env}{a b c:AC}{tm:Tr V}{σ:St}{Q:AX->Tr V->St->Prop}(P:Tr V->St->Prop)(h:bH E a tm σ (Tq E b λe tm' σ'=>e=.normal/\P tm' σ'))(h2:∀tm' σ',P tm' σ'->bH E c tm' σ' Q):bH E (.seq a (.seq b c)) tm σ Q:=
 run_seq (h.mono λe tm' σ' he=>by
  cases e with
  |normal=>exact vZ P he h2
  |exit i=>cases he.1
  |ret=>cases he.1)
def Ip{E:Env}{b:AC}{tm:Tr V}{σ:St}{Q:AX->Tr V->St->Prop}(h:bH E b tm σ Q):bH E .skip tm σ (Tq E b Q):=VZ h
def auU{σ:St}(hW:WF σ){p p':Nat->Prop}{x1 x2 x3 C Av:B}{e:wF}(hC:qC p σ.h C e.c)(hA:jd p' σ.h Av e.a)(h1:x1.kn=true)(h2:x2.kn=true)(h3:x3.kn=true){A:Nat}(hD:BI A)(hO:OB A e):
  aC EN 54 [.agg [x1,x2,x3,C,Av]] σ λr σ'=>(∃rv pv,r=.agg (jo e.c.length rv pv (ru e e.c.length))/\yE (λb=>σ.aj<=b/\b<σ'.aj) σ'.h rv pv (dH e))/\Fr σ σ':=by
 refine aQ (uN.o _ _) uN.h ?_
 unfold uN
 dsimp only
 have UL:=bf.kn hC
 have hAk:=hA.kn
 have XB:=bf.len hC
 have hlenA:=hA.len
 have hnc:=hO.nc
 have hna:=hO.na
 have hFr:=Fr.refl hW
 simp(disch:=try exact jz) only[go_sem,z3,h1,h2,h3,UL,hAk,XB]
 refine bH.mono (Q:=λex tm σ'=>ex=.exit 0/\∃bs,Tr.ah tm 1=.c (.ptr σ.aj 0)/\Tr.ah tm 2=.c (.ptr (σ.aj+1) 0)/\Tr.ah tm 3=.c (.ptr (σ.aj+1+1+1) 0)
   /\σ'.h σ.aj=some ⟨[x1,x2,x3,C,Av],none⟩/\σ'.h (σ.aj+1)=some ⟨[.int .i64 (.ofNat 0),.aV,.aV,.bool (rn 0),.str (rs 0),.str (rd 0)],none⟩/\σ'.h (σ.aj+1+1+1)=some ⟨jo e.c.length (.sl (σ.aj+1+1) 0 8 (.ex 8)) .aV (ru e e.c.length),none⟩/\RkS σ' (σ.aj+1+1) bs e.c e.c.length (σ.aj+1+1+1+1)/\Fr σ σ'/\σ.aj+1+1+1+1<=σ'.aj)
  (aF (λq tm σ'=>∃k bs,q=e.c.length-k/\k<=e.c.length/\Tr.ah tm 1=.c (.ptr σ.aj 0)/\Tr.ah tm 2=.c (.ptr (σ.aj+1) 0)/\Tr.ah tm 3=.c (.ptr (σ.aj+1+1+1) 0)/\Tr.ah tm 15=.c C/\Tr.ah tm 16=.c (.int .i64 (.ofNat e.c.length))/\Tr.ah tm 17=.c (.int .i64 (.ofNat k))
   /\σ'.h σ.aj=some ⟨[x1,x2,x3,C,Av],none⟩/\σ'.h (σ.aj+1)=some ⟨[.int .i64 (.ofNat 0),.aV,.aV,.bool (rn 0),.str (rs 0),.str (rd 0)],none⟩/\σ'.h (σ.aj+1+1+1)=some ⟨jo e.c.length (.sl (σ.aj+1+1) 0 8 (.ex 8)) .aV (ru e k),none⟩/\RkS σ' (σ.aj+1+1) bs e.c k (σ.aj+1+1+1+1)/\Fr σ σ'/\σ.aj+1+1+1+1<=σ'.aj) e.c.length ?_ ?_) ?_
 .refine⟨0,λ_=>0,jb,jb,?_⟩
  simp(disch:=try exact jz) only[go_sem,z3,am]
  refine⟨rfl,⟨?_,λr hr=>rfl,λr hr=>.inl rfl,λr r' _ _ _=>.inl rfl⟩,fr,jb⟩
  simp(disch:=omega) only[ak,aA];rfl
 .rintro q tm σ' ⟨k,bs,rfl,hk,t1,t2,t3,t15,t16,t17,q0,q1,q3,hR,hf,hnx⟩
  have hle:=hf.le
  simp(disch:=try exact jz) only[go_sem,z3,t1,t2,t3,t15,t16,t17,aG]
  refine aH (λhlt=>?_) (λhlt=>?_)
  .obtain⟨b5,o5,c5,rfl,-,bU⟩:=bf.pos hC jb
   have bU:=hf.ld hW (bU k hlt)
   unfold Zz at bU
   have hfit:=qU (hO.fc k hlt) jj
   have hz:=Sz.zero.two
   have hraw:rq (ix e.c k).a.n (ix e.c k).a.s (ix e.c k).a.d=(ix e.c k).a.q:=rfl
   obtain⟨r,hr,hrk⟩:=hO.r k hlt
   have hqz:=Oz hD (hO.c k)
   have kC:=Fr.refl hf.wf
   have hrb:=hR.b
   have hlb:σ.aj+1+1+1<σ'.aj:=jb
   unfold jo at q3
   simp(disch:=try exact jz) only[go_sem,z3,t1,t2,t3,t15,t16,t17,bU,hfit,hz,hraw,hrk,eh,au q3]
   refine aC.st (Fr σ') (fr) λiE=>?_
   have hsz:Sz (aW (BJ e.c r k)):=UK (n:=e.c.length) hD (λp hp=>by have:=Ot (P:=FT A) (λi _=>hO.c i) r k hk p hp;grind) (by grind[Lh])
   refine(arp iE.wf (hR.fr jb iE) jb kd hr hrk jb hsz hqz).mono ?_
   rintro _ σ6 ⟨⟨bs',hR6⟩,hlo,hW6,zV⟩
   have yV:σ'.aj+1+1<=σ6.aj:=zV
   have hlr:=hR.l r hr
   have hk6:∀b,b<σ.aj+1+1+1+1->b≠σ.aj+1+1->σ6.h b=σ'.h b:=λb h1 h2=>by rw[hlo b kd h2 jb];exact iE.old b jb
   have q06:=(hk6 _ jb jb).trans q0
   have q16:=(hk6 _ jb jb).trans q1
   have q36:=(hk6 _ jb jb).trans q3
   have q66:σ6.h (σ'.aj+1)=some ⟨[.bool (rn (ix e.c k).a.q),.str (rs (ix e.c k).a.q),.str (rd (ix e.c k).a.q)],none⟩:=(hlo _ (bN _) jb jb).trans (aA _ _ _)
   have hts:Sz (ru e k):=arq hD hO.c jb
   have iC:Fr σ σ6:=⟨jb,hW6,λb hb=>by rw[hk6 b jb jb];exact hf.old b hb⟩
   simp(disch:=try exact jz) only[go_sem,z3,t1,t2,t3,t15,t16,t17,au q36,au q66,q36,aI q36]
   refine⟨e.c.length-(k+1),jb,k+1,bs',rfl,jb,rfl,q06,q16,rfl,?_,fr,jb⟩
   exact hR6.on (ak _ _ _ _ jb) (λb h1 _=>ak _ _ _ _ jb) jp
  .have:k=e.c.length:=jb
   subst this
   simp(disch:=try exact jz) only[go_sem,z3,am]
   grind
 rintro _ tm σ2 ⟨rfl,bs,t1,t2,t3,q0,q1,q3,hR,hf,hnx⟩
 have hle:=hf.le
 unfold jo at q3
 simp(disch:=try exact jz) only[go_sem,z3,t1,t2,t3,au q0,hAk,hlenA]
 refine bH.mono (Q:=λex tm σ'=>ex=.exit 2/\∃pb M L,Tr.ah tm 2=.c (.ptr (σ.aj+1) 0)/\Tr.ah tm 3=.c (.ptr (σ.aj+1+1+1) 0)
   /\σ'.h (σ.aj+1+1+1)=some ⟨jo e.c.length (.sl (σ.aj+1+1) 0 8 (.ex 8)) (aU e.a.length pb) (ru e e.c.length),none⟩/\aol M L e.c e.a σ'.h pb e.a.length σ2.aj σ'.aj/\aT [σ.aj+1+1+1] σ2 σ')
  (aF (λq tm σ'=>∃j pb M L,q=e.a.length-j/\j<=e.a.length/\Tr.ah tm 1=.c (.ptr σ.aj 0)/\Tr.ah tm 2=.c (.ptr (σ.aj+1) 0)/\Tr.ah tm 3=.c (.ptr (σ.aj+1+1+1) 0)/\Tr.ah tm 41=.c Av/\Tr.ah tm 42=.c (.int .i64 (.ofNat e.a.length))/\Tr.ah tm 43=.c (.int .i64 (.ofNat j))
   /\σ'.h (σ.aj+1+1+1)=some ⟨jo e.c.length (.sl (σ.aj+1+1) 0 8 (.ex 8)) (aU j pb) (ru e e.c.length),none⟩/\aol M L e.c e.a σ'.h pb j σ2.aj σ'.aj/\aT [σ.aj+1+1+1] σ2 σ') e.a.length ?_ ?_) ?_
 .refine⟨0,σ2.aj,λ_=>.aV,λ_=>.aV,jb,jb,?_⟩
  simp(disch:=try exact jz) only[go_sem,z3,t1,t2,t3,am]
  exact⟨q3,NF.nil (aak _ _),aT.refl hf.wf⟩
 .rintro q tm σ' ⟨j,pb,M,L,rfl,hj,t1,t2,t3,t41,t42,t43,q3,hN,hfe⟩
  have hle':=hfe.le
  simp(disch:=try exact jz) only[go_sem,z3,t1,t2,t3,t41,t42,t43,aG]
  refine aH (λhlt=>?_) (λhlt=>?_)
  .obtain⟨b5,o5,c5,rfl,T1,bU,hT⟩:=hA.at hlt
   have hf3:Fr σ σ':=hfe.to hf (by simp;omega)
   have bU:=hf3.ld hW bU
   have q0':=hfe.get hf.wf (by simp only[dy];omega) q0
   have Vs:=hT.kn
   have hlb:=hN.l1
   have OA:=hN.l2
   have kC:=Fr.refl hfe.wf
   unfold jo at q3
   simp(disch:=try exact jz) only[go_sem,z3,t1,t2,t3,t41,t42,t43,bU,Vs,au q0',au q3,h1,h2,h3,UL,hAk]
   refine aC.st (Fr σ') (fr) λiE=>?_
   have hf5:=hf3.trans iE
   refine(auP iE.wf (bf.fr hW hf5 hC) (hT.fr hW hf5) h1 h2 h3 hAk hD (hO.a j hlt)).mono ?_
   rintro _ σ6 ⟨⟨mv,lv,rfl,hM,hL⟩,iC⟩
   have lI:=iE.trans iC
   have zV:σ'.aj+1<=σ6.aj:=iC.le
   have q36:=lI.get hfe.wf q3
   have hMk:=bf.kn hM
   have hLk:=hL.kn
   have hN6:=NF.mono hN (λj _=>Lj _ _ _ _ j) (λb _ hb=>lI.old b hb) jp
   have hg6:=hN6.g
   have hLG:=aak M L
   have aam:aT [σ.aj+1+1+1] σ2 σ6:=hfe.trans (lI.ex _)
   simp(disch:=try exact jz) only[go_sem,z3,t1,t2,t3,t41,t42,t43,hMk,hLk,au q36,q36,hg6,aI q36]
   refine⟨e.a.length-(j+1),jb,j+1,σ6.aj+1,aO M j mv,aO L j lv,rfl,jb,rfl,rfl,?_,by repeat(first|assumption|exact aT.refl (by assumption)|exact aT.up (by assumption) kf|exact aT.up (aT.refl (by assumption)) kf|refine aT.set1 ?_ kg kf|refine aT.kK ?_ kg|refine aT.nC ?_ kg|refine aT.nV ?_ kf)⟩
   refine NF.push hN (λj _=>Lj _ _ _ _ j) (λi hi p h hq=>?_) (hi1:=σ6.aj) (h1:=σ6.h) ?_ (λb _ hb=>lI.old b hb) jb jb jb jb ?_ ?_ (λc h1 h2 h3=>?_) (λi hi=>?_) (aak _ _) (x:=[mv,lv])
   .unfold acf at hq⊢
    rw[aP _ _ _ _ jb,aP _ _ _ _ jb];exact hq
   .unfold acf
    rw[aN,aN]
    exact⟨bf.keep hM (λ_ _=>rfl) λb hb=>⟨av (eE _) hb.1,hb.2⟩,hL.keep (λ_ _=>rfl) λb hb=>⟨av (eE _) hb.1,hb.2⟩⟩
   .rw[ak _ _ _ _ jb,aA]
   .rw[aN,aN]
   .rw[ak _ _ _ _ jb,ak _ _ _ _ jb,gU _ _ _ _ h3,ak _ _ _ _ jb]
   .rw[aP _ _ _ _ jb,aP _ _ _ _ jb]
  .have:j=e.a.length:=jb
   subst this
   simp(disch:=try exact jz) only[go_sem,z3,am]
   exact⟨pb,M,L,t2,t3,q3,hN,hfe⟩
 rintro _ tm σ3 ⟨rfl,pb,M,L,t2,t3,q3,hN,hfe⟩
 have hle':=hfe.le
 have hf3:Fr σ σ3:=hfe.to hf (by simp;omega)
 have q1':=hfe.get hf.wf kc q1
 have hlb:=hN.l1
 unfold jo at q3
 simp(disch:=try exact jz) only[go_sem,z3,t2,t3,au q3,KH,aI q1',q1']
 have hk:∀b,σ.aj+1<b->(hset σ3.h (σ.aj+1) ⟨[.int .i64 (.ofNat e.c.length),.sl (σ.aj+1+1) 0 8 (.ex 8),aU e.a.length pb,.bool (rn (ru e e.c.length)),.str (rs (ru e e.c.length)),.str (rd (ru e e.c.length))],none⟩) b=σ3.h b:=λb hb=>ak _ _ _ _ jb
 refine⟨⟨_,_,rfl,?_,M,L,?_,λi hi=>?_⟩,fr⟩
 .refine((hR.on (σ':=σ3) (hfe.old _ jb kc) (λb h1 h2=>hfe.old b h2 (by simp;omega)) hle').ari (p:=λb=>σ.aj+1<b/\b<σ3.aj) ⟨jb,jb⟩ λb h1 h2=>⟨jb,h2⟩).keep (λb hb=>hk b hb.1) λb hb=>⟨jb,hb.2⟩
 .show bf _ _ 2 _ (e.a.map (oD e.c)).length _
  rw[bz]
  refine(NF.hlp (p:=λb=>σ.aj+1<b/\b<σ3.aj) hN jj (λi hi=>?_) λb h1 h2=>⟨jb,h2⟩).keep (λb hb=>hk b hb.1) λb hb=>⟨jb,hb.2⟩
  have:=hN.el (λj _=>Lj M L e.c e.a j) hi
  simp only[cG,dC,bf.kn this.1,this.2.kn,cW]
 .have hi:i<(e.a.map (oD e.c)).length:=hi
  rw[bz]at hi
  have:=hN.el (λj _=>Lj M L e.c e.a j) hi
  show Z7 _ _ _ (ix (e.a.map (oD e.c)) i).1/\yD _ _ _ (ix (e.a.map (oD e.c)) i).2
  rw[rZ _ hi]
  exact⟨bf.keep this.1 (λb hb=>hk b jb) λb hb=>⟨jb,hb.2⟩,this.2.keep (λb hb=>hk b jb) λb hb=>⟨jb,hb.2⟩⟩
abbrev jL(p:Nat->Prop)(h:Tr Bk)(v:B)(k:Nat)(f:Nat->Rat):Prop:=bf p h 3 v k λc=>gX (f c)
def dQ(p:Nat->Prop)(h:Tr Bk)(v:B)(n:Nat)(k:Nat->Nat)(f:Nat->Nat->Rat):Prop:=∃T:Nat->B,bf p h 1 v n (λi=>[T i])/\∀i,i<n->jL p h (T i) (k i) (f i)
section
variable {p q:Nat→Prop} {h h' : Tr Bk} {v:B} {n:Nat} {k:Nat→Nat} {f f' : Nat→Nat→Rat}
def bf.at3{m:Nat}{f:Nat->Rat}(hl:jL p h v m f){c:Nat}(hc:c<m):∃b o cc,v=.sl b o m cc/\p b/\ld h b (o+c*3) 3 true=some (.agg [.bool (rn (f c)),.str (rs (f c)),.str (rd (f c))]):=by obtain⟨b,o,cc,e,hp,hld⟩:=bf.pos hl jb;exact⟨b,o,cc,e,hp,hld c hc⟩
def dQ.at(hr:dQ p h v n k f){i:Nat}(hi:i<n):∃b o c T,v=.sl b o n c/\p b/\ld h b (o+i*1) 1 false=some (.c T)/\jL p h T (k i) (f i):=by obtain⟨T,h1,h2⟩:=hr;obtain⟨b,o,c,e,hp,hld⟩:=h1.pos jb;grind[vg]
def dQ.keep(hr:dQ p h v n k f)(hk:∀b,p b->h' b=h b)(hp:∀b,p b->q b):dQ q h' v n k f:=by obtain⟨T,h1,h2⟩:=hr;exact⟨T,h1.keep hk hp,λi hi=>bf.keep (h2 i hi) hk hp⟩
def dQ.len(hr:dQ p h v n k f):lenV (.c v)=some (.c (.int .i64 (.ofNat n))):=hr.choose_spec.1.len
def dQ.kn(hr:dQ p h v n k f):v.kn=true:=hr.choose_spec.1.kn
end
theorem dQ.fr{σ σ':St}(hW:WF σ)(hf:Fr σ σ'){p:Nat->Prop}{v:B}{n:Nat}{k:Nat->Nat}{f:Nat->Nat->Rat}(hr:dQ p σ.h v n k f):dQ (Lt σ.aj) σ'.h v n k f:=by obtain⟨T,h1,h2⟩:=hr;exact⟨T,h1.fr hW hf,λi hi=>bf.fr hW hf (h2 i hi)⟩
def PV(T:Nat->B)(k:Nat->Nat)(f:Nat->Nat->Rat)(p:Nat->Prop)(h:Tr Bk)(i:Nat):Prop:=jL p h (T i) (k i) (f i)
abbrev aan(T:Nat->B)(k:Nat->Nat)(f:Nat->Nat->Rat)(ty:Nat)(h:Tr Bk)(b n lo hi:Nat):Prop:=NF (PV T k f) h b n (λi=>[T i]) 1 ty lo hi
def Dz(T:Nat->B)(k:Nat->Nat)(f:Nat->Nat->Rat)(j:Nat):QK (PV T k f) j:=λ_ _ _ _ hp hk hq=>bf.keep hp hk hq
def air(T:Nat->B):LG (λi=>[T i]) 1:=λ_=>rfl
section
variable {T:Nat→B} {k:Nat→Nat} {f:Nat→Nat→Rat} {h h' : Tr Bk} {b n ty lo hi:Nat}
def aan.push(ho:aan T k f ty h b n lo hi){hi1 nx n':Nat}{h1:Tr Bk}{v:B}(hx:jL (λb=>hi<=b/\b<hi1) h1 v (k n) (f n))(hh:∀b,lo<=b->b<hi->h1 b=h b)(h2:hi<=hi1)(h3:hi1<=nx)(h4:nx<n')(h5:lo<=hi)
  (hb:h' nx=some ⟨bD n (λi=>[T i])++[v],some (1,ty)⟩) (hk:∀c,lo<=c->c<hi1->n=0\/c≠b->h' c=h1 c):aan (aO T n v) k f ty h' nx (n+1) lo n':=by
 refine NF.push ho (λj _=>Dz _ k f j) (λj hj p h hq=>?_) (hi1:=hi1) (h1:=h1) ?_ hh h2 h3 h4 h5 hb ?_ hk (λi hi=>?_) (air _)
 .grind[PV,aP]
 .grind[PV,aN]
 .rw[aN]
 grind[aP]
def aan.hrows(ho:aan T k f ty h b n lo hi){p:Nat->Prop}(hp:∀b,lo<=b->b<hi->p b):dQ p h (aU n b) n k f:=by have hel:=λi (hi:i<n)=>ho.el (λj _=>Dz T k f j) hi;refine⟨T,ho.hlp jj (λi hi=>?_) hp,λi hi=>bf.keep (hel i hi) (λ_ _=>rfl) λb hb=>hp b hb.1 hb.2⟩;simp only[cG,dC,bf.kn (hel i hi),cW]
end
end Go.Proofs.Xe
