import Derived.Test.YthkggcakedkboaaGreatDoorYa25
set_option linter.all false
set_option maxRecDepth 100000
set_option maxHeartbeats 8000000
namespace Go.Proofs.Xe
open Go.RowKit Go.Proofs.Ins
def oP(a:Nat):(Int.ofNat a=Int.negSucc 0)=False:=by simp
def av9{σ:St}(hW:WF σ){p p':Nat->Prop}{x1 x2 x3 C Av tv:B}{cs:List C5}{a:gV}(hC:oU p σ.h C cs)(hT:dZ p' σ.h tv a)(h1:x1.kn=true)(h2:x2.kn=true)(h3:x3.kn=true)(h4:Av.kn=true){A:Nat}(hA:BJ A)(hO:ajh A cs a):
  aC EN 94 [.agg [x1,x2,x3,C,Av],.agg [tv]] σ λr σ'=>(∃mv lv,r=.agg [mv,lv]/\aaR (λb=>σ.aj<=b/\b<σ'.aj) σ'.h mv (jW a)/\yK (λb=>σ.aj<=b/\b<σ'.aj) σ'.h lv (oD cs a).2)/\Fr σ σ':=by
 refine aN (vw.o _ _) vw.h ?_
 unfold vw
 dsimp only
 have JJ:=aY.kn hC
 have JH:=hT.kn
 have Yg:=aY.len hC
 have awc:=hT.len
 have hnc:=hO.nc
 have hna:=hO.na
 have hFr:=Fr.refl hW
 have hPc:=asu hA.1
 simp(disch:=try exact jz) only[go_sem,z3,h1,h2,h3,JJ,h4,JH]
 refine aC.st (Fr σ) (fr) λhF1=>?_
 refine(Ry hF1.wf (hT.fr hW hF1) jb hO.nf).mono ?_
 rintro _ σ1 ⟨⟨mv,rfl,hM⟩,hf1⟩
 have hF:=hF1.trans hf1
 have hle1:σ.aj+1+1<=σ1.aj:=az (by show _<=σ.aj+1+1+1;omega) hf1.le
 have hle2:σ.aj+1+1+1<=σ1.aj:=hf1.le
 have hM:tN σ1.h mv (wF a).length (λi=>[.int .i64 (ix (wF a) i)]) 1 3 (σ.aj+1+1+1) σ1.aj:=hM
 have q0:σ1.h σ.aj=some ⟨[x1,x2,x3,C,Av],none⟩:=hf1.get hF1.wf ((au _ _ _ _ jb).trans ((au _ _ _ _ jb).trans (aA _ _ _)))
 have q1:σ1.h (σ.aj+1)=some ⟨[tv],none⟩:=hf1.get hF1.wf ((au _ _ _ _ jb).trans (aA _ _ _))
 have q2:σ1.h (σ.aj+1+1)=some ⟨[.aX,.aX],none⟩:=hf1.get hF1.wf (aA _ _ _)
 have hMk:=hM.kn
 have afy:=Fr.refl hF.wf
 simp(disch:=try exact jz) only[go_sem,z3,hMk,ak q0,h1,h2,h3,JJ,h4,Yg]
 refine bI.mono (Q:=λex tm σ'=>ex=.exit 0/\Tr.ah tm 3=.c (.ptr (σ.aj+1) 0)/\Tr.ah tm 4=.c (.ptr (σ.aj+1+1) 0)/\Tr.ah tm 5=.c (.ptr σ1.aj 0)/\Tr.ah tm 6=.c (.sl (σ1.aj+1) 0 cs.length (.ex cs.length))/\σ'.h σ1.aj=some ⟨[mv,.aX],none⟩/\σ'.h (σ1.aj+1)=some ⟨cZ cs.length (lsS cs a 0).1,none⟩/\Fr σ1 σ'/\σ1.aj+1+1<=σ'.aj)
  (aF (λq tm σ'=>∃k,q=cs.length-k/\k<=cs.length/\Tr.ah tm 3=.c (.ptr (σ.aj+1) 0)/\Tr.ah tm 4=.c (.ptr (σ.aj+1+1) 0)/\Tr.ah tm 5=.c (.ptr σ1.aj 0)/\Tr.ah tm 6=.c (.sl (σ1.aj+1) 0 cs.length (.ex cs.length))/\Tr.ah tm 26=.c C/\Tr.ah tm 27=.c (.int .i64 (.ofNat cs.length))/\Tr.ah tm 28=.c (.int .i64 (.ofNat k))
   /\σ'.h σ1.aj=some ⟨[mv,.aX],none⟩/\σ'.h (σ1.aj+1)=some ⟨cZ cs.length (λi=>if i<k then(ix cs i).a.q else 0),none⟩/\Fr σ1 σ'/\σ1.aj+1+1<=σ'.aj) cs.length ?_ ?_) ?_
 .refine⟨0,jb,jb,?_⟩
  simp(disch:=try exact jz) only[go_sem,z3,am]
  refine⟨?_,fr,jb⟩
  congr 2
 .rintro q tm σ' ⟨k,rfl,hk,t3,t4,t5,t6,t26,t27,t28,p5,p6,hf,hnx⟩
  have hle:=hf.le
  simp(disch:=try exact jz) only[go_sem,z3,t3,t4,t5,t6,t26,t27,t28,aG]
  refine aH (λhlt=>?_) (λhlt=>?_)
  .obtain⟨b5,o5,c5,rfl,-,bF⟩:=aY.pos hC jb
   have bF:=(hF.trans hf).ld hW (bF k hlt)
   unfold Uy at bF
   have hfit:=rF (hO.fc k hlt) jj
   have hz:=Sz.zero.two
   have hraw:rq (ix cs k).a.n (ix cs k).a.s (ix cs k).a.d=(ix cs k).a.q:=rfl
   simp(disch:=try exact jz) only[go_sem,z3,t3,t4,t5,t6,t26,t27,t28,bF,hfit,hz,hraw,df,aJ p6,p6]
   refine⟨cs.length-(k+1),jb,k+1,rfl,jb,rfl,p5,?_,fr,jb⟩
   exact cf (λl=>some (Bk.mk l none)) (rP cs.length k λi=>(ix cs i).a.q)
  .have:k=cs.length:=jb
   subst this
   simp(disch:=try exact jz) only[go_sem,z3,am]
   refine⟨t3,t4,t5,t6,p5,?_,hf,hnx⟩
   rw[p6]
   congr 2
   exact dQ λi hi=>ab hi
 rintro _ tm σ2 ⟨rfl,t3,t4,t5,t6,p5,p6,hf2,hnx2⟩
 have hF2:=hF.trans hf2
 have q1:=hf2.get hF.wf q1
 have q2:=hf2.get hF.wf q2
 have hle3:=hf2.le
 simp(disch:=try exact jz) only[go_sem,z3,t3,t4,t5,t6,ak q1,JH,awc]
 refine bI.mono (Q:=λex tm σ'=>ex=.exit 2/\∃lb U,Tr.ah tm 4=.c (.ptr (σ.aj+1+1) 0)/\Tr.ah tm 5=.c (.ptr σ1.aj 0)/\Tr.ah tm 6=.c (.sl (σ1.aj+1) 0 cs.length (.ex cs.length))/\σ'.h σ1.aj=some ⟨[mv,aU a.length lb],none⟩/\σ'.h (σ1.aj+1)=some ⟨cZ cs.length (lsA cs a).1,none⟩/\aa0 U (λi=>ix (oD cs a).2 i) σ'.h lb a.length σ2.aj σ'.aj/\aT [σ1.aj,σ1.aj+1] σ2 σ')
  (aF (λq tm σ'=>∃j lb U,q=a.length-j/\j<=a.length/\Tr.ah tm 4=.c (.ptr (σ.aj+1+1) 0)/\Tr.ah tm 5=.c (.ptr σ1.aj 0)/\Tr.ah tm 6=.c (.sl (σ1.aj+1) 0 cs.length (.ex cs.length))/\Tr.ah tm 42=.c tv/\Tr.ah tm 43=.c (.int .i64 (.ofNat a.length))/\Tr.ah tm 44=.c (.int .i64 (.ofNat j))
   /\σ'.h σ1.aj=some ⟨[mv,aU j lb],none⟩/\σ'.h (σ1.aj+1)=some ⟨cZ cs.length (lsS cs a j).1,none⟩/\aa0 U (λi=>ix (oD cs a).2 i) σ'.h lb j σ2.aj σ'.aj/\aT [σ1.aj,σ1.aj+1] σ2 σ') a.length ?_ ?_) ?_
 .refine⟨0,σ2.aj,λ_=>.aX,jb,jb,?_⟩
  simp(disch:=try exact jz) only[go_sem,z3,t4,t5,t6,am]
  exact⟨p5,p6,NF.nil (Vg _ _),aT.refl hf2.wf⟩
 .rintro q tm σ' ⟨j,lb,U,rfl,hj,t4,t5,t6,t42,t43,t44,p5,p6,hN,hf⟩
  have hle:=hf.le
  simp(disch:=try exact jz) only[go_sem,z3,t4,t5,t6,t42,t43,t44,aG]
  refine aH (λhlt=>?_) (λhlt=>?_)
  .obtain⟨b6,o6,c6,rfl,P1,bZ,hP1⟩:=hT.at hlt
   have hb6:=hW.bV bZ
   have bZ:=hf.ld hf2.wf (by simp;omega) (hF2.ld hW bZ)
   have ayE:=aY.kn hP1
   have OJ:=aY.len hP1
   have hnt:=hO.nt j hlt
   have hfp:=hO.fp j hlt
   have hpp:=hO.p _ (iM hlt)
   have hS:=ajf (cs:=cs) hlt
   have hS2:=Vh (cs:=cs) (a:=a) (i:=j) (cg j) hlt
   have hL:ix (oD cs a).2 j=(Ba (lsS cs a j).1 (ix a j) (ix a j).length).2:=by unfold oD;rw[<-IU];have h9:=Bc cs a a.length jp;show ix ((lsS cs a a.length).2++[_]) j=_;rw[gu _ _ jb];exact Vh hlt jp
   have hSP:=asw hPc hO.c hO.p j
   clear hS2
   generalize (lsS cs a j).1=f at*
   generalize ix a j=r at*
   simp(disch:=try exact jz) only[go_sem,z3,t4,t5,t6,t42,t43,t44,bZ,ayE,OJ]
   refine bI.mono (Q:=λex tm σ4=>ex=.exit 4/\∃bs,Tr.ah tm 4=.c (.ptr (σ.aj+1+1) 0)/\Tr.ah tm 5=.c (.ptr σ1.aj 0)/\Tr.ah tm 6=.c (.sl (σ1.aj+1) 0 cs.length (.ex cs.length))/\Tr.ah tm 11=.c (.ptr σ'.aj 0)/\Tr.ah tm 42=.c (.sl b6 o6 a.length c6)/\Tr.ah tm 43=.c (.int .i64 (.ofNat a.length))/\Tr.ah tm 44=.c (.int .i64 (.ofNat j))
     /\σ4.h (σ1.aj+1)=some ⟨cZ cs.length (Ba f r r.length).1,none⟩/\TS σ4 σ'.aj bs (Ba f r r.length).2/\aT [σ1.aj+1] σ' σ4)
    (aF (λq tm σ4=>∃l bs,q=r.length-l/\l<=r.length/\Tr.ah tm 4=.c (.ptr (σ.aj+1+1) 0)/\Tr.ah tm 5=.c (.ptr σ1.aj 0)/\Tr.ah tm 6=.c (.sl (σ1.aj+1) 0 cs.length (.ex cs.length))/\Tr.ah tm 11=.c (.ptr σ'.aj 0)/\Tr.ah tm 42=.c (.sl b6 o6 a.length c6)/\Tr.ah tm 43=.c (.int .i64 (.ofNat a.length))/\Tr.ah tm 44=.c (.int .i64 (.ofNat j))/\Tr.ah tm 48=.c P1/\Tr.ah tm 49=.c (.int .i64 (.ofNat r.length))/\Tr.ah tm 50=.c (.int .i64 (.ofNat l))
     /\σ4.h (σ1.aj+1)=some ⟨cZ cs.length (Ba f r l).1,none⟩/\TS σ4 σ'.aj bs (Ba f r l).2/\aT [σ1.aj+1] σ' σ4) r.length ?_ ?_) ?_
   .refine⟨0,σ'.aj+1,jb,jb,?_⟩
    have jM:=Fr.refl hf.wf
    simp(disch:=try exact jz) only[go_sem,z3,t4,t5,t6,t42,t43,t44,am]
    refine⟨?_,⟨?_,rfl,cg _,.inl rfl⟩,Fr.ex (fr) _⟩
    .exact p6
    .rw[aA];rfl
   .rintro q tm σ4 ⟨l,bs,rfl,hl,t4,t5,t6,t11,t42,t43,t44,t48,t49,t50,p64,Zp,hf4⟩
    have uO:=hf4.le
    have awd:=Zp.lt hf4.wf
    simp(disch:=try exact jz) only[go_sem,z3,t4,t5,t6,t11,t42,t43,t44,t48,t49,t50,aG]
    refine aH (λQi=>?_) (λQi=>?_)
    .obtain⟨b7,o7,c7,rfl,-,dB⟩:=aY.pos hP1 jb
     have dB:=dB l Qi
     have hb7:=hW.bV dB
     have dB:=hf4.ld hf.wf (by simp;omega) (hf.ld hf2.wf (by simp;omega) (hF2.ld hW dB))
     unfold Az at dB
     have hfit:=rF (hfp l Qi) jj
     have hz:=Sz.zero.two
     have hx:=hpp _ (iM Qi)
     have hok:=asv hPc hSP hpp l
     have hsz:=Vj hA hok.2 (by rw[LW f r l hl];omega)
     have hll:=LW f r l hl
     have hsucc:=Ye (f:=f) Qi
     have hraw:rq (ix r l).a.n (ix r l).a.s (ix r l).a.d=(ix r l).a.q:=rfl
     have hkl:∀b,b<σ'.aj->b<σ4.aj:=λb hb=>aL hb uO
     have azx:=hf4.wf.lt p64
     by_cases hk1:(ix r l).k=Int.negSucc 0
     .have hS1:Ba f r (l+1)=((Ba f r l).1,(Ba f r l).2++[(Int.negSucc 0,(ix r l).a.q)]):=by rw[hsucc];unfold LQ;rw[ab (show(ix r l).k=-1 from hk1)];rfl
      have hqz:=OW hA (hx.2 (.inl hk1))
      have ER:=Fr.refl hf4.wf
      simp(disch:=try exact jz) only[go_sem,z3,t4,t5,t6,t11,t42,t43,t44,t48,t49,t50,dB,hk1,hfit,hz,hraw,df]
      refine aC.st (Fr σ4) (fr) λiw=>?_
      have asM:=Zp.fr hf4.wf iw
      refine(aaZ iw.wf asM jb _ _ hsz hqz).mono ?_
      rintro _ σ6 ⟨⟨bs',ajz⟩,hlo,hW6,yg⟩
      have yg:σ4.aj+1<=σ6.aj:=yg
      simp(disch:=try exact jz) only[go_sem,z3,t4,t5,t6,t11,t42,t43,t44,t48,t49,t50]
      refine⟨r.length-(l+1),jb,l+1,bs',rfl,jb,rfl,?_,?_,?_⟩
      .rw[hS1,hlo _ jb,iw.old _ jb];exact p64
      .rw[hS1];exact ajz
      .exact⟨jb,hW6,λb hb hn=>by rw[hlo b hb,iw.old b jb];exact hf4.old b hb hn⟩
     .obtain⟨kk,hkk,hkn⟩:∃kk:Nat,(ix r l).k=Int.ofNat kk/\kk<cs.length:=by
       rcases hx.1 with h|⟨ha,hb⟩
       .exact absurd h hk1
       .exact⟨(ix r l).k.toNat,(eh ha).symm,jb⟩
      have ER:=Fr.refl hf4.wf
      have hcz:=OW hA (hok.1 kk)
      have hcz2:=hcz.two
      have hxc:=hx.2
      have fin:∀(cq:Rat){s5:St},Sz cq->(Ba f r (l+1))=(aP (Ba f r l).1 kk ((Ba f r l).1 kk-cq),(Ba f r l).2++[(Int.ofNat kk,cq)])->aT [σ1.aj+1] σ4 s5->s5.h (σ1.aj+1)=some ⟨cZ cs.length (aP (Ba f r l).1 kk ((Ba f r l).1 kk-cq)),none⟩->∀{K:V->St->Prop},(∀v σ6 bs',σ6.h (σ1.aj+1)=some ⟨cZ cs.length (Ba f r (l+1)).1,none⟩->TS σ6 σ'.aj bs' (Ba f r (l+1)).2->aT [σ1.aj+1] σ' σ6->K v σ6)->
        aC EN 93 [.c (.ptr σ'.aj 0),.c (.int .i64 (.ofNat kk)),.agg [.bool (rn cq),.str (rs cq),.str (rd cq)]] s5 K:=λcq s5 hcq hS1 iw h5 K hK=>by
       have asM:=Zp.fre hf4.wf iw (by simp;omega)
       refine(aaZ iw.wf asM jb _ _ hsz hcq).mono ?_
       rintro v σ6 ⟨⟨bs',ajz⟩,hlo,hW6,yg⟩
       have uM:=iw.le
       refine hK v σ6 bs' ?_ (by rw[hS1];exact ajz) ⟨jb,hW6,λb hb hn=>?_⟩
       .rw[hlo _ jb,h5,hS1]
       .rw[hlo b hb,iw.old b jb hn];exact hf4.old b hb hn
      by_cases hb:(ix r l).b=true
      .have hS1:Ba f r (l+1)=(aP (Ba f r l).1 kk ((Ba f r l).1 kk-jv ((Ba f r l).1 kk) (ix r l).a.q),(Ba f r l).2++[(Int.ofNat kk,jv ((Ba f r l).1 kk) (ix r l).a.q)]):=by rw[hsucc,aje (show¬(ix r l).k=-1 from hk1) hkk,hb];rfl
       have hmz:=OW hA (hPc.min _ _ (hok.1 kk) (hx.2 (.inr hb)))
       simp(disch:=try exact jz) only[go_sem,z3,t4,t5,t6,t11,t42,t43,t44,t48,t49,t50,dB,hkk,oP,hb,hfit,hcz2,hraw,asx,ak p64,aJ p64,p64]
       refine fin _ hmz hS1 (by have hFe:=aT.refl (ex:=[σ1.aj+1]) hf4.wf;repeat(first|assumption|exact aT.refl (by assumption)|exact aT.up (by assumption) kf|exact aT.up (aT.refl (by assumption)) kf|refine aT.set1 ?_ kg kf|refine aT.kZ ?_ kg|refine aT.nJ ?_ kg|refine aT.oh ?_ kf)) (aA _ _ _) λv σ6 bs' h1 h2 h3=>?_
       simp(disch:=try exact jz) only[go_sem,z3,t4,t5,t6,t11,t42,t43,t44,t48,t49,t50]
       exact⟨r.length-(l+1),jb,l+1,bs',rfl,jb,rfl,h1,h2,h3⟩
      .have hb:(ix r l).b=false:=by simpa using hb
       have hS1:Ba f r (l+1)=(aP (Ba f r l).1 kk ((Ba f r l).1 kk-(Ba f r l).1 kk),(Ba f r l).2++[(Int.ofNat kk,(Ba f r l).1 kk)]):=by rw[hsucc,aje (show¬(ix r l).k=-1 from hk1) hkk,hb];rfl
       simp(disch:=try exact jz) only[go_sem,z3,t4,t5,t6,t11,t42,t43,t44,t48,t49,t50,dB,hkk,oP,hb,hfit,hcz2,hraw,ak p64,aJ p64,p64]
       refine fin _ hcz hS1 (by have hFe:=aT.refl (ex:=[σ1.aj+1]) hf4.wf;repeat(first|assumption|exact aT.refl (by assumption)|exact aT.up (by assumption) kf|exact aT.up (aT.refl (by assumption)) kf|refine aT.set1 ?_ kg kf|refine aT.kZ ?_ kg|refine aT.nJ ?_ kg|refine aT.oh ?_ kf)) (aA _ _ _) λv σ6 bs' h1 h2 h3=>?_
       simp(disch:=try exact jz) only[go_sem,z3,t4,t5,t6,t11,t42,t43,t44,t48,t49,t50]
       exact⟨r.length-(l+1),jb,l+1,bs',rfl,jb,rfl,h1,h2,h3⟩
    .have:l=r.length:=jb
     subst this
     simp(disch:=try exact jz) only[go_sem,z3,am]
     exact⟨bs,t4,t5,t6,t11,t42,t43,t44,p64,Zp,hf4⟩
   .rintro _ tm σ4 ⟨rfl,bs,t4,t5,t6,t11,t42,t43,t44,p64,Zp,hf4⟩
    have uO:=hf4.le
    have hlb:=hN.l1
    have O5:=hN.l2
    have awd:=Zp.lt hf4.wf
    have awe:aT [σ1.aj,σ1.aj+1] σ2 σ4:=hf.to' hf4 kc
    have p54:=hf4.get hf.wf kc p5
    have hN4:=NF.mono hN (λj _=>Vf _ _ j) (λb h1 h2=>hf4.old b h2 (by simp;omega)) jp
    have hg4:=hN4.g
    have hLG:=Vg U λi=>ix (oD cs a).2 i
    have RP:=Zp.b
    unfold jV at RP
    simp(disch:=try exact jz) only[go_sem,z3,t4,t5,t6,t11,t42,t43,t44,ak p54,ak RP,p54,hg4,hMk]
    refine⟨a.length-(j+1),jb,j+1,σ4.aj+1,aP U j (aU (Ba f r r.length).2.length bs),rfl,jb,rfl,rfl,by rw[p64,hS],?_,?_⟩
    .refine hN.push (U:=U) hf4.wf hL Zp jp jb (λb h1 h2=>hf4.old b h2 (by simp;omega)) jb jb ?_ λc h1 h2 h3=>?_
     .rw[au _ _ _ _ jb,aA];rfl
     .rw[au _ _ _ _ jb,au _ _ _ _ jb,iq _ _ _ _ h3,au _ _ _ _ jb]
    .repeat(first|assumption|exact aT.refl (by assumption)|exact aT.up (by assumption) kf|exact aT.up (aT.refl (by assumption)) kf|refine aT.set1 ?_ kg kf|refine aT.kZ ?_ kg|refine aT.nJ ?_ kg|refine aT.oh ?_ kf)
  .have:j=a.length:=jb
   subst this
   simp(disch:=try exact jz) only[go_sem,z3,am]
   exact⟨lb,U,t4,t5,t6,p5,by rw[<-IU];exact p6,hN,hf⟩
 rintro _ tm σ3 ⟨rfl,lb,U,t4,t5,t6,p5,p6,hN,hf3⟩
 have hF3:Fr σ σ3:=hf3.to hF2 (by simp;omega)
 have uO:=hf3.le
 have q23:=hf3.get hf2.wf (by simp;omega) q2
 have hP:∀t∈a,∀x∈t,x.k=-1\/0<=x.k/\x.k<cs.length:=λt ht x hx=>(hO.p t ht x hx).1
 have hM3:tN σ3.h mv (jW a).length (λi=>[Qd (jW a) i]) 1 3 (σ.aj+1+1+1) σ1.aj:=by
  rw[OU];refine tN.congr (tN.mono hM (λb h1 h2=>?_) jp jp) λi hi=>by rw[anB hP hi]
  rw[hf3.old b jb (by simp;omega),hf2.old b h2]
 have hMl:=hM3.len
 have hMm:aaR (λb=>σ.aj+1+1+1<=b/\b<σ1.aj) σ3.h mv (jW a):=tN.hlp hM3 (λ_=>rfl) jj (λ_ _=>rfl) λb h1 h2=>⟨h1,h2⟩
 have hml:=Gi hP
 have Yt:=Fr.refl hF3.wf
 have azY:=hF3.wf.lt p6
 have hAc:=(ai1 (n:=cs.length) hPc hO.c hO.p).1
 simp(disch:=try exact jz) only[go_sem,z3,t4,t5,t6,ak p5,hMk,hMl]
 refine bI.mono (Q:=λex tm σ4=>ex=.exit 6/\∃bs,Tr.ah tm 4=.c (.ptr (σ.aj+1+1) 0)/\Tr.ah tm 5=.c (.ptr σ1.aj 0)/\Tr.ah tm 15=.c (.ptr σ3.aj 0)/\TS σ4 σ3.aj bs (vM (jW a) (lsA cs a).1)/\Fr σ3 σ4)
  (aF (λq tm σ4=>∃i bs,q=(jW a).length-i/\i<=(jW a).length/\Tr.ah tm 4=.c (.ptr (σ.aj+1+1) 0)/\Tr.ah tm 5=.c (.ptr σ1.aj 0)/\Tr.ah tm 6=.c (.sl (σ1.aj+1) 0 cs.length (.ex cs.length))/\Tr.ah tm 15=.c (.ptr σ3.aj 0)/\Tr.ah tm 97=.c mv/\Tr.ah tm 98=.c (.int .i64 (.ofNat (jW a).length))/\Tr.ah tm 99=.c (.int .i64 (.ofNat i))/\TS σ4 σ3.aj bs (vM ((jW a).take i) (lsA cs a).1)/\Fr σ3 σ4) (jW a).length ?_ ?_) ?_
 .refine⟨0,σ3.aj+1,jb,jb,?_⟩
  simp(disch:=try exact jz) only[go_sem,z3,t4,t5,t6,am]
  exact⟨⟨aA _ _ _,rfl,cg _,.inl rfl⟩,fr⟩
 .rintro q tm σ4 ⟨i,bs,rfl,hi,t4,t5,t6,t15,t97,GR,ET,Zp,hf4⟩
  have uM:=hf4.le
  simp(disch:=try exact jz) only[go_sem,z3,t4,t5,t6,t15,t97,GR,ET,aG]
  refine aH (λhlt=>?_) (λhlt=>?_)
  .obtain⟨b8,o8,c8,rfl,jO⟩:=(hMm.hc).pos jb
   have jO:=hf4.ld hF3.wf (jO i hlt)
   unfold Qd at jO
   have hmi:=iM hlt
   have hin:ix (jW a) i<cs.length:=by have h1:=(uN hP).mp hmi;have:=uw hP ((ix (jW a) i:Nat):Int) (qM.mpr ⟨jb,h1⟩);omega
   have p64:=hf4.get hF3.wf p6
   have hll:(vM ((jW a).take i) (lsA cs a).1).length=i:=by unfold vM;rw[cV,cP];omega
   have hsz:Sz (aV (vM ((jW a).take i) (lsA cs a).1)):=Vj (n:=cs.length) hA (λp hp=>by obtain⟨k,hk,rfl⟩:=cC.mp hp;have h1:=(uN hP).mp (ec hk);exact⟨.inr (uw hP k (qM.mpr ⟨jb,h1⟩)),hAc k⟩) jb
   have hcz:=OW hA (hAc (ix (jW a) i))
   simp(disch:=try exact jz) only[go_sem,z3,t4,t5,t6,t15,t97,GR,ET,jO,ak p64]
   refine(aaZ hf4.wf Zp jb _ _ hsz hcz).mono ?_
   rintro _ σ6 ⟨⟨bs',ajz⟩,hlo,hW6,yg⟩
   simp(disch:=try exact jz) only[go_sem,z3,t4,t5,t6,t15,t97,GR,ET]
   refine⟨(jW a).length-(i+1),jb,i+1,bs',rfl,jb,rfl,by rw[afu _ _ hlt];exact ajz,jb,hW6,λb hb=>by rw[hlo b hb];exact hf4.old b hb⟩
  .have:i=(jW a).length:=jb
   subst this
   simp(disch:=try exact jz) only[go_sem,z3,am]
   exact⟨bs,t4,t5,t15,by rw[bR]at Zp;exact Zp,hf4⟩
 rintro _ tm σ4 ⟨rfl,bs,t4,t5,t15,Zp,hf4⟩
 have uM:=hf4.le
 have hlb:=hN.l1
 have O5:=hN.l2
 have awd:=Zp.lt hf4.wf
 have p54:=hf4.get hF3.wf p5
 have q24:=hf4.get hF3.wf q23
 have hN4:=NF.mono hN (λj _=>Vf _ _ j) (λb h1 h2=>hf4.old b h2) jp
 have hg4:=hN4.g
 have hLG:=Vg U λi=>ix (oD cs a).2 i
 have RP:=Zp.b
 have hL:ix (oD cs a).2 a.length=vM (jW a) (lsA cs a).1:=by
  have h9:=Bc cs a a.length jp;rw[IU]at h9;unfold oD;conv=>lhs;rw[<-h9]
  exact gy _ _
 have ni:=hF3.trans hf4
 unfold jV at RP
 simp(disch:=try exact jz) only[go_sem,z3,t4,t5,t15,ak p54,ak RP,p54,hg4,hMk,aJ q24,q24]
 have hN5:=hN.push (U:=U) (n':=σ4.aj+1+1) (nx:=σ4.aj+1) hf4.wf hL Zp jp jb (λb h1 h2=>hf4.old b h2) jb jb (h':=hset (hset (hset (kZ a.length (hset σ4.h σ4.aj ⟨[aU (vM (jW a) (lsA cs a).1).length bs,.bool (rn (aV (vM (jW a) (lsA cs a).1))),.str (rs (aV (vM (jW a) (lsA cs a).1))),.str (rd (aV (vM (jW a) (lsA cs a).1)))],none⟩) lb) (σ4.aj+1) ⟨bH a.length (Yd U λi=>ix (oD cs a).2 i)++[aU (vM (jW a) (lsA cs a).1).length bs,.bool (rn (aV (vM (jW a) (lsA cs a).1))),.str (rs (aV (vM (jW a) (lsA cs a).1))),.str (rd (aV (vM (jW a) (lsA cs a).1)))],some (4,157)⟩) σ1.aj ⟨[mv,.sl (σ4.aj+1) 0 (a.length+1) .opn],none⟩) (σ.aj+1+1) ⟨[mv,.sl (σ4.aj+1) 0 (a.length+1) .opn],none⟩)
  (by rw[au _ _ _ _ jb,au _ _ _ _ jb,aA];rfl) (λc h1 h2 h3=>by rw[au _ _ _ _ jb,au _ _ _ _ jb,au _ _ _ _ jb,iq _ _ _ _ h3,au _ _ _ _ jb])
 have hll:(oD cs a).2.length=a.length+1:=by have h9:=Bc cs a a.length jp;rw[IU]at h9;unfold oD;show((lsA cs a).2++[_]).length=_;rw[aD,h9];rfl
 refine⟨⟨_,_,rfl,?_,?_⟩,fr⟩
 .refine aY.keep hMm (λb hb=>?_) λb hb=>⟨jb,by show b<σ4.aj+1+1;omega⟩
  rw[au _ _ _ _ jb,au _ _ _ _ jb,au _ _ _ _ jb,iq _ _ _ _ jb,au _ _ _ _ jb,hf4.old b jb]
 .exact(hN5.asr hll λi _=>rfl).keep (λ_ _=>rfl) λb hb=>⟨jb,hb.2⟩
def rkG(cs:List C5)(bs:Nat->Nat)(k r:Nat):List B:=jV (aU (BL cs r k).length (bs r)) (aV (BL cs r k))
structure RkS(σ:St)(rb:Nat)(bs:Nat->Nat)(cs:List C5)(k lo:Nat):Prop where
 b:σ.h rb=some ⟨bH 8 (rkG cs bs k),none⟩
 o:∀r,r<8->OL σ.h (bs r) (BL cs r k)
 l:∀r,r<8->(BL cs r k).length=0\/lo<=bs r/\bs r<σ.aj
 i:∀r r',r<8->r'<8->r≠r'->(BL cs r k).length=0\/(BL cs r' k).length=0\/bs r≠bs r'
def RkS.on{σ σ':St}{rb lo k:Nat}{bs:Nat->Nat}{cs:List C5}(h:RkS σ rb bs cs k lo)(hrb:σ'.h rb=σ.h rb)(hf:∀b,lo<=b->b<σ.aj->σ'.h b=σ.h b)(hle:σ.aj<=σ'.aj):RkS σ' rb bs cs k lo:=by
 refine⟨by rw[hrb];exact h.b,λr hr=>?_,λr hr=>by have:=h.l r hr;omega,h.i⟩;refine(wE ?_).trans (h.o r hr);rcases h.l r hr with h1|h1
 .omega
 grind
theorem RkS.fr{σ σ':St}{rb lo k:Nat}{bs:Nat->Nat}{cs:List C5}(h:RkS σ rb bs cs k lo)(hrb:rb<σ.aj)(hf:Fr σ σ'):RkS σ' rb bs cs k lo:=h.on (hf.old _ hrb) (λb _ hb=>hf.old b hb) hf.le
def asO{σ:St}(hW:WF σ){rb lo k r:Nat}{bs:Nat->Nat}{cs:List C5}(h:RkS σ rb bs cs k lo)(hrb:rb<lo)(hlo:lo<=σ.aj)(hr:r<8)(hk:(ix cs k).r=(r:Int))(hk1:k<=1000000)(hs:Sz (aV (BL cs r k)))(hq:Sz (ix cs k).a.q):
  aC EN 93 [.c (.ptr rb (r*4)),.c (.int .i64 (.ofNat k)),.agg [.bool (rn (ix cs k).a.q),.str (rs (ix cs k).a.q),.str (rd (ix cs k).a.q)]] σ λ_ σ'=>(∃bs',RkS σ' rb bs' cs (k+1) lo)/\(∀b,b<σ.aj->b≠rb->(BL cs r k).length=0\/b≠bs r->σ'.h b=σ.h b)/\WF σ'/\σ.aj<=σ'.aj:=by
 have hl:=h.l r hr
 have hlen:=LX cs r k
 obtain⟨b0,hb0,hb1⟩:∃b0,(∀c,aU (BL cs r k).length c=aU (BL cs r k).length b0\/c≠bs r)/\((BL cs r k).length=0/\b0=rb\/0<(BL cs r k).length/\b0=bs r):=by
  by_cases e:(BL cs r k).length=0
  .exact⟨rb,λc=>.inl (by rw[e];rfl),.inl ⟨e,rfl⟩⟩
  .exact⟨bs r,λc=>by grind,.inr ⟨jb,rfl⟩⟩
 have hT:OL σ.h b0 (BL cs r k):=by
  have:=h.o r hr;unfold OL at this⊢;rw[<-this];rcases hb1 with⟨e,-⟩|⟨-,e⟩
  .rw[e];rfl
  .rw[e]
 have hGr:rkG cs bs k r=jV (aU (BL cs r k).length b0) (aV (BL cs r k)):=by grind[rkG]
 refine(aiY hW h.b hr (λ_=>rfl) rfl rfl hGr hT jb jb jb k _ hs hq).mono ?_
 rintro _ σ' ⟨nx,h1,h2,h3,h4,h5⟩
 have hle:=h5.le
 have e1:BL cs r (k+1)=BL cs r k++[((k:Int),(ix cs k).a.q)]:=by grind[BL]
 have e2:∀r',r'≠r->BL cs r' (k+1)=BL cs r' k:=λr' hne=>by grind[BL]
 refine⟨⟨aP bs r nx,?_,λr' hr'=>?_,λr' hr'=>?_,λa b ha hb hab=>?_⟩,λb hb hne hn2=>h5.old b hb ?_,h5.wf,hle⟩
 .rw[h3]
  congr 2
  refine bY λr' hr'=>?_
  unfold ji rkG
  by_cases e:r'=r
  .subst e
   rw[ab rfl,aO,e1,Ru,aD];rfl
  grind[aQ]
 .by_cases e:r'=r
  .subst e
   rw[aO,e1]
   unfold OL
   rw[aD,bL]
   show σ'.h nx=some _
   grind[Go.Proofs.Xe.kY,Go.Proofs.Xe.bY,Go.Proofs.Xe.ji,Go.Proofs.Xe.gy,Go.Proofs.Xe.gu]
  .rw[aQ _ _ _ _ e,e2 r' e]
   refine(wE ?_).trans (h.o r' hr')
   have h6:=h.l r' hr'
   have h7:=h.i r' r hr' hr e
   by_cases e0:(BL cs r' k).length=0
   .exact .inl e0
   .refine .inr (h5.old _ jb ?_)
    simp;omega
 .by_cases e:r'=r
  .subst e;rw[aO];omega
  .rw[aQ _ _ _ _ e,e2 r' e]
   have:=h.l r' hr';omega
 .by_cases ea:a=r
  .subst ea
   rw[aO,aQ _ _ _ _ (Ne.symm hab),e2 b (Ne.symm hab)]
   have:=h.l b hb;omega
  .by_cases eb:b=r
   .subst eb
    rw[aO,aQ _ _ _ _ ea,e2 a ea]
    have:=h.l a ha;omega
   .rw[aQ _ _ _ _ ea,aQ _ _ _ _ eb,e2 a ea,e2 b eb]
    exact h.i a b ha hb hab
 grind
def RkS.asr{σ:St}{rb lo:Nat}{bs:Nat->Nat}{cs:List C5}(h:RkS σ rb bs cs cs.length lo){p:Nat->Prop}(hp:p rb)(hp2:∀b,lo<=b->b<σ.aj->p b):yK p σ.h (.sl rb 0 8 (.ex 8)) (Va cs cs.length):=by
 have hix:∀r,r<8->ix (Va cs cs.length) r=BL cs r cs.length:=λr hr=>by grind[Va,dV]
 have h8:(Va cs cs.length).length=8:=by rfl
 refine⟨λr=>aU (BL cs r cs.length).length (bs r),?_,cL 8,λr hr=>?_⟩
 .rw[h8];refine(bD (G:=rkG cs bs cs.length) _ h.b rfl hp (λ_=>rfl) jj λr hr=>?_).congr λr hr=>by grind[rkG]
  grind[rkG,jV,Ar,FY,Lj]
 .rw[h8]at hr;rw[hix r hr];exact(h.o r hr).hlp (by rcases h.l r hr with h1|h1;exact .inl h1;grind)
structure JK(A:Nat)(e:zJ):Prop where
 nc:e.c.length<=1000
 na:e.a.length<=1000
 r:∀k,k<e.c.length->∃r:Nat,r<8/\(ix e.c k).r=Int.ofNat r
 fc:∀k,k<e.c.length->(ix e.c k).a.fits 1000000
 c:∀k,IQ A (ix e.c k).a.q
 a:∀j,j<e.a.length->ajh A e.c (ix e.a j)
def l9(e:zJ)(k:Nat):Rat:=aB k λi=>(ix e.c i).a.q
def adg{A:Nat}{f:Nat->Rat}(hf:∀i,IQ A (f i)):∀n,dX A (aB n f)/\0<=aB n f/\aB n f<=(n:Rat)*uQ
 |0=>⟨dX.zero A,be,by show(0:Rat)<=((0:Nat):Rat)*uQ;simp⟩
 |n+1=>by
  obtain⟨h1,h2,h3⟩:=adg hf n;have h4:=hf n;rw[gc];have:((1:Nat):Rat)=1:=rfl;refine⟨h1.add h4.1,?_,?_⟩
  .show 0<=aB n f+f n;grind
  .show aB n f+f n<=_;grind
def asP{A:Nat}(hA:BJ A){f:Nat->Rat}(hf:∀i,IQ A (f i)){n:Nat}(hn:n<=10000):Sz (aB n f):=by obtain⟨h1,h2,h3⟩:=adg hf n;have hU:=Gh (k:=10000) jj;have h4:(n:Rat)<=((10000:Nat):Rat):=br.mpr hn;have h5:=bo h4 OQ;exact(nX hA (ii A) h1 h2 kd).sz hA (by grind[tY])
def adh(M L:Nat->B)(cs:List C5)(al:List gV)(p:Nat->Prop)(h:Tr Bk)(j:Nat):Prop:=aaR p h (M j) (jW (ix al j))/\yK p h (L j) (oD cs (ix al j)).2
abbrev apI(M L:Nat->B)(cs:List C5)(al:List gV)(h:Tr Bk)(b n lo hi:Nat):Prop:=NF (adh M L cs al) h b n (λj=>[M j,L j]) 2 160 lo hi
def LZ(M L:Nat->B)(cs:List C5)(al:List gV)(j:Nat):QK (adh M L cs al) j:=λ_ _ _ _ hp hk hq=>⟨aY.keep hp.1 hk hq,hp.2.keep hk hq⟩
def abb(M L:Nat->B):LG (λj=>[M j,L j]) 2:=λ_=>rfl
def awg{σ:St}(hW:WF σ){p p':Nat->Prop}{x1 x2 x3 C Av:B}{e:zJ}(hC:oU p σ.h C e.c)(hA:iW p' σ.h Av e.a)(h1:x1.kn=true)(h2:x2.kn=true)(h3:x3.kn=true){A:Nat}(hD:BJ A)(hO:JK A e):
  aC EN 54 [.agg [x1,x2,x3,C,Av]] σ λr σ'=>(∃rv pv,r=.agg (jB e.c.length rv pv (l9 e e.c.length))/\yL (λb=>σ.aj<=b/\b<σ'.aj) σ'.h rv pv (bW e))/\Fr σ σ':=by
 refine aN (uZ.o _ _) uZ.h ?_
 unfold uZ
 dsimp only
 have JJ:=aY.kn hC
 have hAk:=hA.kn
 have Yg:=aY.len hC
 have hlenA:=hA.len
 have hnc:=hO.nc
 have hna:=hO.na
 have hFr:=Fr.refl hW
 simp(disch:=try exact jz) only[go_sem,z3,h1,h2,h3,JJ,hAk,Yg]
 refine bI.mono (Q:=λex tm σ'=>ex=.exit 0/\∃bs,Tr.ah tm 1=.c (.ptr σ.aj 0)/\Tr.ah tm 2=.c (.ptr (σ.aj+1) 0)/\Tr.ah tm 3=.c (.ptr (σ.aj+1+1+1) 0)
   /\σ'.h σ.aj=some ⟨[x1,x2,x3,C,Av],none⟩/\σ'.h (σ.aj+1)=some ⟨[.int .i64 (.ofNat 0),.aX,.aX,.bool (rn 0),.str (rs 0),.str (rd 0)],none⟩/\σ'.h (σ.aj+1+1+1)=some ⟨jB e.c.length (.sl (σ.aj+1+1) 0 8 (.ex 8)) .aX (l9 e e.c.length),none⟩/\RkS σ' (σ.aj+1+1) bs e.c e.c.length (σ.aj+1+1+1+1)/\Fr σ σ'/\σ.aj+1+1+1+1<=σ'.aj)
  (aF (λq tm σ'=>∃k bs,q=e.c.length-k/\k<=e.c.length/\Tr.ah tm 1=.c (.ptr σ.aj 0)/\Tr.ah tm 2=.c (.ptr (σ.aj+1) 0)/\Tr.ah tm 3=.c (.ptr (σ.aj+1+1+1) 0)/\Tr.ah tm 15=.c C/\Tr.ah tm 16=.c (.int .i64 (.ofNat e.c.length))/\Tr.ah tm 17=.c (.int .i64 (.ofNat k))
   /\σ'.h σ.aj=some ⟨[x1,x2,x3,C,Av],none⟩/\σ'.h (σ.aj+1)=some ⟨[.int .i64 (.ofNat 0),.aX,.aX,.bool (rn 0),.str (rs 0),.str (rd 0)],none⟩/\σ'.h (σ.aj+1+1+1)=some ⟨jB e.c.length (.sl (σ.aj+1+1) 0 8 (.ex 8)) .aX (l9 e k),none⟩/\RkS σ' (σ.aj+1+1) bs e.c k (σ.aj+1+1+1+1)/\Fr σ σ'/\σ.aj+1+1+1+1<=σ'.aj) e.c.length ?_ ?_) ?_
 .refine⟨0,λ_=>0,jb,jb,?_⟩
  simp(disch:=try exact jz) only[go_sem,z3,am]
  refine⟨rfl,⟨?_,λr hr=>rfl,λr hr=>.inl rfl,λr r' _ _ _=>.inl rfl⟩,fr,jb⟩
  simp(disch:=omega) only[au,aA];rfl
 .rintro q tm σ' ⟨k,bs,rfl,hk,t1,t2,t3,t15,t16,t17,q0,q1,q3,hR,hf,hnx⟩
  have hle:=hf.le
  simp(disch:=try exact jz) only[go_sem,z3,t1,t2,t3,t15,t16,t17,aG]
  refine aH (λhlt=>?_) (λhlt=>?_)
  .obtain⟨b5,o5,c5,rfl,-,bF⟩:=aY.pos hC jb
   have bF:=hf.ld hW (bF k hlt)
   unfold Uy at bF
   have hfit:=rF (hO.fc k hlt) jj
   have hz:=Sz.zero.two
   have hraw:rq (ix e.c k).a.n (ix e.c k).a.s (ix e.c k).a.d=(ix e.c k).a.q:=rfl
   obtain⟨r,hr,hrk⟩:=hO.r k hlt
   have hqz:=OW hD (hO.c k)
   have jM:=Fr.refl hf.wf
   have hrb:=hR.b
   have hlb:σ.aj+1+1+1<σ'.aj:=jb
   unfold jB at q3
   simp(disch:=try exact jz) only[go_sem,z3,t1,t2,t3,t15,t16,t17,bF,hfit,hz,hraw,hrk,df,ak q3]
   refine aC.st (Fr σ') (fr) λiw=>?_
   have hsz:Sz (aV (BL e.c r k)):=Vj (n:=e.c.length) hD (λp hp=>by have:=OM (P:=IQ A) (λi _=>hO.c i) r k hk p hp;grind) (by grind[LX])
   refine(asO iw.wf (hR.fr jb iw) jb kd hr hrk jb hsz hqz).mono ?_
   rintro _ σ6 ⟨⟨bs',hR6⟩,hlo,hW6,yg⟩
   have uM:σ'.aj+1+1<=σ6.aj:=yg
   have hlr:=hR.l r hr
   have hk6:∀b,b<σ.aj+1+1+1+1->b≠σ.aj+1+1->σ6.h b=σ'.h b:=λb h1 h2=>by rw[hlo b kd h2 jb];exact iw.old b jb
   have q06:=(hk6 _ jb jb).trans q0
   have q16:=(hk6 _ jb jb).trans q1
   have q36:=(hk6 _ jb jb).trans q3
   have q66:σ6.h (σ'.aj+1)=some ⟨[.bool (rn (ix e.c k).a.q),.str (rs (ix e.c k).a.q),.str (rd (ix e.c k).a.q)],none⟩:=(hlo _ (cg _) jb jb).trans (aA _ _ _)
   have hts:Sz (l9 e k):=asP hD hO.c jb
   have gJ:Fr σ σ6:=⟨jb,hW6,λb hb=>by rw[hk6 b jb jb];exact hf.old b hb⟩
   simp(disch:=try exact jz) only[go_sem,z3,t1,t2,t3,t15,t16,t17,ak q36,ak q66,q36,aJ q36]
   refine⟨e.c.length-(k+1),jb,k+1,bs',rfl,jb,rfl,q06,q16,rfl,?_,fr,jb⟩
   exact hR6.on (au _ _ _ _ jb) (λb h1 _=>au _ _ _ _ jb) jp
  .have:k=e.c.length:=jb
   subst this
   simp(disch:=try exact jz) only[go_sem,z3,am]
   grind
 rintro _ tm σ2 ⟨rfl,bs,t1,t2,t3,q0,q1,q3,hR,hf,hnx⟩
 have hle:=hf.le
 unfold jB at q3
 simp(disch:=try exact jz) only[go_sem,z3,t1,t2,t3,ak q0,hAk,hlenA]
 refine bI.mono (Q:=λex tm σ'=>ex=.exit 2/\∃pb M L,Tr.ah tm 2=.c (.ptr (σ.aj+1) 0)/\Tr.ah tm 3=.c (.ptr (σ.aj+1+1+1) 0)
   /\σ'.h (σ.aj+1+1+1)=some ⟨jB e.c.length (.sl (σ.aj+1+1) 0 8 (.ex 8)) (aU e.a.length pb) (l9 e e.c.length),none⟩/\apI M L e.c e.a σ'.h pb e.a.length σ2.aj σ'.aj/\aT [σ.aj+1+1+1] σ2 σ')
  (aF (λq tm σ'=>∃j pb M L,q=e.a.length-j/\j<=e.a.length/\Tr.ah tm 1=.c (.ptr σ.aj 0)/\Tr.ah tm 2=.c (.ptr (σ.aj+1) 0)/\Tr.ah tm 3=.c (.ptr (σ.aj+1+1+1) 0)/\Tr.ah tm 41=.c Av/\Tr.ah tm 42=.c (.int .i64 (.ofNat e.a.length))/\Tr.ah tm 43=.c (.int .i64 (.ofNat j))
   /\σ'.h (σ.aj+1+1+1)=some ⟨jB e.c.length (.sl (σ.aj+1+1) 0 8 (.ex 8)) (aU j pb) (l9 e e.c.length),none⟩/\apI M L e.c e.a σ'.h pb j σ2.aj σ'.aj/\aT [σ.aj+1+1+1] σ2 σ') e.a.length ?_ ?_) ?_
 .refine⟨0,σ2.aj,λ_=>.aX,λ_=>.aX,jb,jb,?_⟩
  simp(disch:=try exact jz) only[go_sem,z3,t1,t2,t3,am]
  exact⟨q3,NF.nil (abb _ _),aT.refl hf.wf⟩
 .rintro q tm σ' ⟨j,pb,M,L,rfl,hj,t1,t2,t3,t41,t42,t43,q3,hN,hfe⟩
  have hle':=hfe.le
  simp(disch:=try exact jz) only[go_sem,z3,t1,t2,t3,t41,t42,t43,aG]
  refine aH (λhlt=>?_) (λhlt=>?_)
  .obtain⟨b5,o5,c5,rfl,T1,bF,hT⟩:=hA.at hlt
   have hf3:Fr σ σ':=hfe.to hf (by simp;omega)
   have bF:=hf3.ld hW bF
   have q0':=hfe.get hf.wf (by simp only[dc];omega) q0
   have JH:=hT.kn
   have hlb:=hN.l1
   have O5:=hN.l2
   have jM:=Fr.refl hfe.wf
   unfold jB at q3
   simp(disch:=try exact jz) only[go_sem,z3,t1,t2,t3,t41,t42,t43,bF,JH,ak q0',ak q3,h1,h2,h3,JJ,hAk]
   refine aC.st (Fr σ') (fr) λiw=>?_
   have hf5:=hf3.trans iw
   refine(av9 iw.wf (aY.fr hW hf5 hC) (hT.fr hW hf5) h1 h2 h3 hAk hD (hO.a j hlt)).mono ?_
   rintro _ σ6 ⟨⟨mv,lv,rfl,hM,hL⟩,gJ⟩
   have jF:=iw.trans gJ
   have yg:σ'.aj+1<=σ6.aj:=gJ.le
   have q36:=jF.get hfe.wf q3
   have hMk:=aY.kn hM
   have hLk:=hL.kn
   have hN6:=NF.mono hN (λj _=>LZ _ _ _ _ j) (λb _ hb=>jF.old b hb) jp
   have hg6:=hN6.g
   have hLG:=abb M L
   have abd:aT [σ.aj+1+1+1] σ2 σ6:=hfe.trans (jF.ex _)
   simp(disch:=try exact jz) only[go_sem,z3,t1,t2,t3,t41,t42,t43,hMk,hLk,ak q36,q36,hg6,aJ q36]
   refine⟨e.a.length-(j+1),jb,j+1,σ6.aj+1,aP M j mv,aP L j lv,rfl,jb,rfl,rfl,?_,by repeat(first|assumption|exact aT.refl (by assumption)|exact aT.up (by assumption) kf|exact aT.up (aT.refl (by assumption)) kf|refine aT.set1 ?_ kg kf|refine aT.kZ ?_ kg|refine aT.nJ ?_ kg|refine aT.oh ?_ kf)⟩
   refine NF.push hN (λj _=>LZ _ _ _ _ j) (λi hi p h hq=>?_) (hi1:=σ6.aj) (h1:=σ6.h) ?_ (λb _ hb=>jF.old b hb) jb jb jb jb ?_ ?_ (λc h1 h2 h3=>?_) (λi hi=>?_) (abb _ _) (x:=[mv,lv])
   .unfold adh at hq⊢
    rw[aQ _ _ _ _ jb,aQ _ _ _ _ jb];exact hq
   .unfold adh
    rw[aO,aO]
    exact⟨aY.keep hM (λ_ _=>rfl) λb hb=>⟨az (eE _) hb.1,hb.2⟩,hL.keep (λ_ _=>rfl) λb hb=>⟨az (eE _) hb.1,hb.2⟩⟩
   .rw[au _ _ _ _ jb,aA]
   .rw[aO,aO]
   .rw[au _ _ _ _ jb,au _ _ _ _ jb,iq _ _ _ _ h3,au _ _ _ _ jb]
   .rw[aQ _ _ _ _ jb,aQ _ _ _ _ jb]
  .have:j=e.a.length:=jb
   subst this
   simp(disch:=try exact jz) only[go_sem,z3,am]
   exact⟨pb,M,L,t2,t3,q3,hN,hfe⟩
 rintro _ tm σ3 ⟨rfl,pb,M,L,t2,t3,q3,hN,hfe⟩
 have hle':=hfe.le
 have hf3:Fr σ σ3:=hfe.to hf (by simp;omega)
 have q1':=hfe.get hf.wf kc q1
 have hlb:=hN.l1
 unfold jB at q3
 simp(disch:=try exact jz) only[go_sem,z3,t2,t3,ak q3,Lj,aJ q1',q1']
 have hk:∀b,σ.aj+1<b->(hset σ3.h (σ.aj+1) ⟨[.int .i64 (.ofNat e.c.length),.sl (σ.aj+1+1) 0 8 (.ex 8),aU e.a.length pb,.bool (rn (l9 e e.c.length)),.str (rs (l9 e e.c.length)),.str (rd (l9 e e.c.length))],none⟩) b=σ3.h b:=λb hb=>au _ _ _ _ jb
 refine⟨⟨_,_,rfl,?_,M,L,?_,λi hi=>?_⟩,fr⟩
 .refine((hR.on (σ':=σ3) (hfe.old _ jb kc) (λb h1 h2=>hfe.old b h2 (by simp;omega)) hle').asr (p:=λb=>σ.aj+1<b/\b<σ3.aj) ⟨jb,jb⟩ λb h1 h2=>⟨jb,h2⟩).keep (λb hb=>hk b hb.1) λb hb=>⟨jb,hb.2⟩
 .show aY _ _ 2 _ (e.a.map (oD e.c)).length _
  rw[cV]
  refine(NF.hlp (p:=λb=>σ.aj+1<b/\b<σ3.aj) hN jj (λi hi=>?_) λb h1 h2=>⟨jb,h2⟩).keep (λb hb=>hk b hb.1) λb hb=>⟨jb,hb.2⟩
  have:=hN.el (λj _=>LZ M L e.c e.a j) hi
  simp only[cO,eo,aY.kn this.1,this.2.kn,dy]
 .have hi:i<(e.a.map (oD e.c)).length:=hi
  rw[cV]at hi
  have:=hN.el (λj _=>LZ M L e.c e.a j) hi
  show aaR _ _ _ (ix (e.a.map (oD e.c)) i).1/\yK _ _ _ (ix (e.a.map (oD e.c)) i).2
  rw[Ya _ hi]
  exact⟨aY.keep this.1 (λb hb=>hk b jb) λb hb=>⟨jb,hb.2⟩,this.2.keep (λb hb=>hk b jb) λb hb=>⟨jb,hb.2⟩⟩
end Go.Proofs.Xe
namespace Go.Proofs.Ins
def Ad(W:Rat)(q:fC->Rat):Rat->List fC->fC->Rat
 |_,[],_=>0
 |Q,a::t,l=>(if a=l then oz (Q+q a-W)-oz (Q-W)else 0)+Ad W q (Q+q a) t l
def EU(g:GL)(x:Nat->Rat)(l:fC):Rat:=aI g.ds λd=>Ad d.1 (gq g x) 0 d.2 l
def nT(g:GL)(x:Nat->Rat)(l:fC):Rat:=gq g x l-EU g x l
def JL(W:Rat)(q:fC->Rat)(Q:Rat)(a:fC)(t:List fC)(l:fC):Ad W q Q (a::t) l=(if a=l then oz (Q+q a-W)-oz (Q-W)else 0)+Ad W q (Q+q a) t l:=rfl
def Ew{W:Rat}{q:fC->Rat}{l:fC}:∀{t:List fC}{Q:Rat},l∉t->Ad W q Q t l=0
 |[],_,_=>rfl
 |a::t,Q,h=>by unfold Ad;rw[ae (λe=>h (by simp[e])),Ew (λhl=>h (by simp[hl]))];exact df 0
def Sr{W:Rat}{q:fC->Rat}{l a:fC}:∀{t:List fC}{Q:Rat},Ad W q Q (t++[a]) l=Ad W q Q t l+if a=l then oz (Q+aI t q+q a-W)-oz (Q+aI t q-W)else 0
 |[],Q=>by show(if a=l then oz (Q+q a-W)-oz (Q-W)else 0)+0=0+if a=l then oz (Q+0+q a-W)-oz (Q+0-W)else 0;grind
 |b::t,Q=>by rw[gA];unfold Ad;rw[Sr];show _=_+if a=l then oz (Q+(q b+aI t q)+q a-W)-oz (Q+(q b+aI t q)-W)else 0;rw[show Q+(q b+aI t q)=Q+q b+aI t q by grind];grind
section
variable {n:Nat} {g:GL}
def ayF(g:GL):Prop:=∀d∈g.ds,∀l∈d.2,g.h l.1 l.2=KL g d
end
def anU{g:fP}(h:GZ g):ayF (aZ g):=by
 intro d hd l hl;obtain⟨d',hd',rfl⟩:=cC.mp hd;obtain⟨j,hj,rfl⟩:=aM hd';obtain⟨x,hx,rfl⟩:=cC.mp hl;obtain⟨k,hk,rfl⟩:=aM hx;rw[<-dV hj]at hk;have h1:=(h.l j hj).2.2 k hk;obtain⟨a,b,e1,-,-,-,h2⟩:=h1;have e2:KL (aZ g) ((ix g.d j).w.q,(ix g.d j).l.map vN)=holdL g.e (ix (ix g.d j).l 0):=by
  unfold KL;cases hL:(ix g.d j).l with
  |nil=>grind
  |cons y t=>rfl
 simp only[<-dV hj];rw[e2,<-h2,<-dV hk];rfl
end Go.Proofs.Ins
