import Derived.Test.YtchhojplceoifaaGreatDoorYf29
set_option linter.all false
set_option maxRecDepth 100000
set_option maxHeartbeats 8000000
namespace Go.Proofs.Xe
open Go.RowKit Go.Proofs.Ins
def qA(a:Nat):(Int.ofNat a=Int.negSucc 0)=False:=by simp
def axA{σ:St}(hW:WF σ){p p':Nat->Prop}{x1 x2 x3 C Av tv:B}{cs:List C5}{a:fD}(hC:oN p σ.h C cs)(hT:dP p' σ.h tv a)(h1:x1.kn=true)(h2:x2.kn=true)(h3:x3.kn=true)(h4:Av.kn=true){A:Nat}(hA:CY A)(hO:akb A cs a):
  aC EN 143 [.agg [x1,x2,x3,C,Av],.agg [tv]] σ λr σ'=>(∃mv lv,r=.agg [mv,lv]/\abA (λb=>σ.aj<=b/\b<σ'.aj) σ'.h mv (kH a)/\zO (λb=>σ.aj<=b/\b<σ'.aj) σ'.h lv (qc cs a).2)/\Fr σ σ':=by
 refine aO (wI.o _ _) wI.h ?_
 unfold wI
 dsimp only
 have LM:=aX.kn hC
 have Rl:=hT.kn
 have I5:=aX.len hC
 have ajs:=hT.len
 have hnc:=hO.nc
 have hna:=hO.na
 have hFr:=Fr.refl hW
 have hPc:=atV hA.1
 simp(disch:=try exact jz) only[go_sem,h1,h2,h3,LM,h4,Rl]
 refine aC.st (Fr σ) (fr) λhF1=>?_
 refine(TV hF1.wf (hT.fr hW hF1) jb hO.nf).mono ?_
 rintro _ σ1 ⟨⟨mv,rfl,hM⟩,hf1⟩
 have hF:=hF1.trans hf1
 have hle1:σ.aj+1+1<=σ1.aj:=ap (by show _<=σ.aj+1+1+1;omega) hf1.le
 have hle2:σ.aj+1+1+1<=σ1.aj:=hf1.le
 have hM:iU σ1.h mv (xB a).length (λi=>[.int .i64 (ix (xB a) i)]) 1 3 (σ.aj+1+1+1) σ1.aj:=hM
 have q0:σ1.h σ.aj=some ⟨[x1,x2,x3,C,Av],none⟩:=hf1.get hF1.wf ((ak _ _ _ _ jb).trans ((ak _ _ _ _ jb).trans (aA _ _ _)))
 have q1:σ1.h (σ.aj+1)=some ⟨[tv],none⟩:=hf1.get hF1.wf ((ak _ _ _ _ jb).trans (aA _ _ _))
 have q2:σ1.h (σ.aj+1+1)=some ⟨[.aP,.aP],none⟩:=hf1.get hF1.wf (aA _ _ _)
 have hMk:=hM.kn
 have abL:=Fr.refl hF.wf
 simp(disch:=try exact jz) only[go_sem,hMk,au q0,h1,h2,h3,LM,h4,I5]
 refine bM.mono (Q:=λex tm σ'=>ex=.exit 0/\Tr.ah tm 3=.c (.ptr (σ.aj+1) 0)/\Tr.ah tm 4=.c (.ptr (σ.aj+1+1) 0)/\Tr.ah tm 5=.c (.ptr σ1.aj 0)/\Tr.ah tm 6=.c (.sl (σ1.aj+1) 0 cs.length (.ex cs.length))/\σ'.h σ1.aj=some ⟨[mv,.aP],none⟩/\σ'.h (σ1.aj+1)=some ⟨cZ cs.length (lsS cs a 0).1,none⟩/\Fr σ1 σ'/\σ1.aj+1+1<=σ'.aj)
  (aF (λq tm σ'=>∃k,q=cs.length-k/\k<=cs.length/\Tr.ah tm 3=.c (.ptr (σ.aj+1) 0)/\Tr.ah tm 4=.c (.ptr (σ.aj+1+1) 0)/\Tr.ah tm 5=.c (.ptr σ1.aj 0)/\Tr.ah tm 6=.c (.sl (σ1.aj+1) 0 cs.length (.ex cs.length))/\Tr.ah tm 26=.c C/\Tr.ah tm 27=jN cs.length/\Tr.ah tm 28=jN k
   /\σ'.h σ1.aj=some ⟨[mv,.aP],none⟩/\σ'.h (σ1.aj+1)=some ⟨cZ cs.length (λi=>if i<k then(ix cs i).a.q else 0),none⟩/\Fr σ1 σ'/\σ1.aj+1+1<=σ'.aj) cs.length ?_ ?_) ?_
 .refine⟨0,jb,jb,?_⟩
  simp(disch:=try exact jz) only[go_sem,am]
  refine⟨?_,fr,jb⟩
  congr 2
 .rintro q tm σ' ⟨k,rfl,hk,t3,t4,t5,t6,t26,t27,t28,p5,p6,hf,hnx⟩
  have hle:=hf.le
  simp(disch:=try exact jz) only[go_sem,t3,t4,t5,t6,t26,t27,t28,aG]
  refine aH (λhlt=>?_) (λhlt=>?_)
  .obtain⟨b5,o5,c5,rfl,-,bf⟩:=aX.pos hC jb
   have bf:=(hF.trans hf).ld hW (bf k hlt)
   unfold Xb at bf
   have hfit:=qE (hO.fc k hlt) jj
   have hz:=Sz.zero.two
   have hraw:rq (ix cs k).a.n (ix cs k).a.s (ix cs k).a.d=(ix cs k).a.q:=rfl
   simp(disch:=try exact jz) only[go_sem,t3,t4,t5,t6,t26,t27,t28,bf,hfit,hz,hraw,cY,aI p6,p6]
   refine⟨cs.length-(k+1),jb,k+1,rfl,jb,rfl,p5,?_,fr,jb⟩
   exact bO (λl=>some (Bk.mk l none)) (tN cs.length k λi=>(ix cs i).a.q)
  .have:k=cs.length:=jb
   subst this
   simp(disch:=try exact jz) only[go_sem,am]
   refine⟨t3,t4,t5,t6,p5,?_,hf,hnx⟩
   rw[p6]
   congr 2
   exact dS λi hi=>ae hi
 rintro _ tm σ2 ⟨rfl,t3,t4,t5,t6,p5,p6,hf2,hnx2⟩
 have hF2:=hF.trans hf2
 have q1:=hf2.get hF.wf q1
 have q2:=hf2.get hF.wf q2
 have hle3:=hf2.le
 simp(disch:=try exact jz) only[go_sem,t3,t4,t5,t6,au q1,Rl,ajs]
 refine bM.mono (Q:=λex tm σ'=>ex=.exit 2/\∃lb U,Tr.ah tm 4=.c (.ptr (σ.aj+1+1) 0)/\Tr.ah tm 5=.c (.ptr σ1.aj 0)/\Tr.ah tm 6=.c (.sl (σ1.aj+1) 0 cs.length (.ex cs.length))/\σ'.h σ1.aj=some ⟨[mv,aV a.length lb],none⟩/\σ'.h (σ1.aj+1)=some ⟨cZ cs.length (lsA cs a).1,none⟩/\abJ U (λi=>ix (qc cs a).2 i) σ'.h lb a.length σ2.aj σ'.aj/\aU [σ1.aj,σ1.aj+1] σ2 σ')
  (aF (λq tm σ'=>∃j lb U,q=a.length-j/\j<=a.length/\Tr.ah tm 4=.c (.ptr (σ.aj+1+1) 0)/\Tr.ah tm 5=.c (.ptr σ1.aj 0)/\Tr.ah tm 6=.c (.sl (σ1.aj+1) 0 cs.length (.ex cs.length))/\Tr.ah tm 42=.c tv/\Tr.ah tm 43=jN a.length/\Tr.ah tm 44=jN j
   /\σ'.h σ1.aj=some ⟨[mv,aV j lb],none⟩/\σ'.h (σ1.aj+1)=some ⟨cZ cs.length (lsS cs a j).1,none⟩/\abJ U (λi=>ix (qc cs a).2 i) σ'.h lb j σ2.aj σ'.aj/\aU [σ1.aj,σ1.aj+1] σ2 σ') a.length ?_ ?_) ?_
 .refine⟨0,σ2.aj,λ_=>.aP,jb,jb,?_⟩
  simp(disch:=try exact jz) only[go_sem,t4,t5,t6,am]
  exact⟨p5,p6,NF.nil (V4 _ _),aU.refl hf2.wf⟩
 .rintro q tm σ' ⟨j,lb,U,rfl,hj,t4,t5,t6,t42,t43,t44,p5,p6,hN,hf⟩
  have hle:=hf.le
  simp(disch:=try exact jz) only[go_sem,t4,t5,t6,t42,t43,t44,aG]
  refine aH (λhlt=>?_) (λhlt=>?_)
  .obtain⟨b6,o6,c6,rfl,P1,bJ,hP1⟩:=hT.at hlt
   have hb6:=hW.dA bJ
   have bJ:=hf.ld hf2.wf (by simp;omega) (hF2.ld hW bJ)
   have atw:=aX.kn hP1
   have I4:=aX.len hP1
   have hnt:=hO.nt j hlt
   have hfp:=hO.fp j hlt
   have hpp:=hO.p _ (mX hlt)
   have hS:=aj8 (cs:=cs) hlt
   have hS2:=V5 (cs:=cs) (a:=a) (i:=j) (bR j) hlt
   have hL:ix (qc cs a).2 j=(Cc (lsS cs a j).1 (ix a j) (ix a j).length).2:=by unfold qc;rw[<-Jh];have h9:=Ce cs a a.length jp;show ix ((lsS cs a a.length).2++[_]) j=_;rw[gW _ _ jb];exact V5 hlt jp
   have hSP:=atX hPc hO.c hO.p j
   clear hS2
   generalize (lsS cs a j).1=f at*
   generalize ix a j=r at*
   simp(disch:=try exact jz) only[go_sem,t4,t5,t6,t42,t43,t44,bJ,atw,I4]
   refine bM.mono (Q:=λex tm σ4=>ex=.exit 4/\∃bs,Tr.ah tm 4=.c (.ptr (σ.aj+1+1) 0)/\Tr.ah tm 5=.c (.ptr σ1.aj 0)/\Tr.ah tm 6=.c (.sl (σ1.aj+1) 0 cs.length (.ex cs.length))/\Tr.ah tm 11=.c (.ptr σ'.aj 0)/\Tr.ah tm 42=.c (.sl b6 o6 a.length c6)/\Tr.ah tm 43=jN a.length/\Tr.ah tm 44=jN j
     /\σ4.h (σ1.aj+1)=some ⟨cZ cs.length (Cc f r r.length).1,none⟩/\TS σ4 σ'.aj bs (Cc f r r.length).2/\aU [σ1.aj+1] σ' σ4)
    (aF (λq tm σ4=>∃l bs,q=r.length-l/\l<=r.length/\Tr.ah tm 4=.c (.ptr (σ.aj+1+1) 0)/\Tr.ah tm 5=.c (.ptr σ1.aj 0)/\Tr.ah tm 6=.c (.sl (σ1.aj+1) 0 cs.length (.ex cs.length))/\Tr.ah tm 11=.c (.ptr σ'.aj 0)/\Tr.ah tm 42=.c (.sl b6 o6 a.length c6)/\Tr.ah tm 43=jN a.length/\Tr.ah tm 44=jN j/\Tr.ah tm 48=.c P1/\Tr.ah tm 49=jN r.length/\Tr.ah tm 50=jN l
     /\σ4.h (σ1.aj+1)=some ⟨cZ cs.length (Cc f r l).1,none⟩/\TS σ4 σ'.aj bs (Cc f r l).2/\aU [σ1.aj+1] σ' σ4) r.length ?_ ?_) ?_
   .refine⟨0,σ'.aj+1,jb,jb,?_⟩
    have mJ:=Fr.refl hf.wf
    simp(disch:=try exact jz) only[go_sem,t4,t5,t6,t42,t43,t44,am]
    refine⟨?_,⟨?_,rfl,bR _,.inl rfl⟩,Fr.ex (fr) _⟩
    .exact p6
    .rw[aA];rfl
   .rintro q tm σ4 ⟨l,bs,rfl,hl,t4,t5,t6,t11,t42,t43,t44,t48,t49,t50,p64,hTS,hf4⟩
    have pY:=hf4.le
    have axB:=hTS.lt hf4.wf
    simp(disch:=try exact jz) only[go_sem,t4,t5,t6,t11,t42,t43,t44,t48,t49,t50,aG]
    refine aH (λI7=>?_) (λI7=>?_)
    .obtain⟨b7,o7,c7,rfl,-,dB⟩:=aX.pos hP1 jb
     have dB:=dB l I7
     have hb7:=hW.dA dB
     have dB:=hf4.ld hf.wf (by simp;omega) (hf.ld hf2.wf (by simp;omega) (hF2.ld hW dB))
     unfold Ae at dB
     have hfit:=qE (hfp l I7) jj
     have hz:=Sz.zero.two
     have hx:=hpp _ (mX I7)
     have hok:=atW hPc hSP hpp l
     have hsz:=V6 hA hok.2 (by rw[Nk f r l hl];omega)
     have hll:=Nk f r l hl
     have hsucc:=Y8 (f:=f) I7
     have hraw:rq (ix r l).a.n (ix r l).a.s (ix r l).a.d=(ix r l).a.q:=rfl
     have hkl:∀b,b<σ'.aj->b<σ4.aj:=λb hb=>aM hb pY
     have aAJ:=hf4.wf.lt p64
     by_cases hk1:(ix r l).k=Int.negSucc 0
     .have hS1:Cc f r (l+1)=((Cc f r l).1,(Cc f r l).2++[(Int.negSucc 0,(ix r l).a.q)]):=by rw[hsucc];unfold Nc;rw[ae (show(ix r l).k=-1 from hk1)];rfl
      have hqz:=Qa hA (hx.2 (.inl hk1))
      have FQ:=Fr.refl hf4.wf
      simp(disch:=try exact jz) only[go_sem,t4,t5,t6,t11,t42,t43,t44,t48,t49,t50,dB,hk1,hfit,hz,hraw,cY]
      refine aC.st (Fr σ4) (fr) λgy=>?_
      have atZ:=hTS.fr hf4.wf gy
      refine(abI gy.wf atZ jb _ _ hsz hqz).mono ?_
      rintro _ σ6 ⟨⟨bs',akc⟩,hlo,hW6,yZ⟩
      have yZ:σ4.aj+1<=σ6.aj:=yZ
      simp(disch:=try exact jz) only[go_sem,t4,t5,t6,t11,t42,t43,t44,t48,t49,t50]
      refine⟨r.length-(l+1),jb,l+1,bs',rfl,jb,rfl,?_,?_,?_⟩
      .rw[hS1,hlo _ jb,gy.old _ jb];exact p64
      .rw[hS1];exact akc
      .exact⟨jb,hW6,λb hb hn=>by rw[hlo b hb,gy.old b jb];exact hf4.old b hb hn⟩
     .obtain⟨kk,hkk,hkn⟩:∃kk:Nat,(ix r l).k=Int.ofNat kk/\kk<cs.length:=by
       rcases hx.1 with h|⟨ha,hb⟩
       .exact absurd h hk1
       .exact⟨(ix r l).k.toNat,(eQ ha).symm,jb⟩
      have FQ:=Fr.refl hf4.wf
      have hcz:=Qa hA (hok.1 kk)
      have hcz2:=hcz.two
      have hxc:=hx.2
      have fin:∀(cq:Rat){s5:St},Sz cq->(Cc f r (l+1))=(aN (Cc f r l).1 kk ((Cc f r l).1 kk-cq),(Cc f r l).2++[(Int.ofNat kk,cq)])->aU [σ1.aj+1] σ4 s5->s5.h (σ1.aj+1)=some ⟨cZ cs.length (aN (Cc f r l).1 kk ((Cc f r l).1 kk-cq)),none⟩->∀{K:V->St->Prop},(∀v σ6 bs',σ6.h (σ1.aj+1)=some ⟨cZ cs.length (Cc f r (l+1)).1,none⟩->TS σ6 σ'.aj bs' (Cc f r (l+1)).2->aU [σ1.aj+1] σ' σ6->K v σ6)->
        aC EN 142 [.c (.ptr σ'.aj 0),jN kk,.agg [.bool (rn cq),.str (rs cq),.str (rd cq)]] s5 K:=λcq s5 hcq hS1 gy h5 K hK=>by
       have atZ:=hTS.fre hf4.wf gy (by simp;omega)
       refine(abI gy.wf atZ jb _ _ hsz hcq).mono ?_
       rintro v σ6 ⟨⟨bs',akc⟩,hlo,hW6,yZ⟩
       have uU:=gy.le
       refine hK v σ6 bs' ?_ (by rw[hS1];exact akc) ⟨jb,hW6,λb hb hn=>?_⟩
       .rw[hlo _ jb,h5,hS1]
       .rw[hlo b hb,gy.old b jb hn];exact hf4.old b hb hn
      by_cases hb:(ix r l).b=true
      .have hS1:Cc f r (l+1)=(aN (Cc f r l).1 kk ((Cc f r l).1 kk-kF ((Cc f r l).1 kk) (ix r l).a.q),(Cc f r l).2++[(Int.ofNat kk,kF ((Cc f r l).1 kk) (ix r l).a.q)]):=by rw[hsucc,aj7 (show¬(ix r l).k=-1 from hk1) hkk,hb];rfl
       have hmz:=Qa hA (hPc.min _ _ (hok.1 kk) (hx.2 (.inr hb)))
       simp(disch:=try exact jz) only[go_sem,t4,t5,t6,t11,t42,t43,t44,t48,t49,t50,dB,hkk,qA,hb,hfit,hcz2,hraw,atY,au p64,aI p64,p64]
       refine fin _ hmz hS1 (by have hFe:=aU.refl (ex:=[σ1.aj+1]) hf4.wf;repeat(first|assumption|exact aU.refl (by assumption)|exact aU.up (by assumption) kf|exact aU.up (aU.refl (by assumption)) kf|refine aU.set1 ?_ kg kf|refine aU.lW ?_ kg|refine aU.oG ?_ kg|refine aU.pK ?_ kf)) (aA _ _ _) λv σ6 bs' h1 h2 h3=>?_
       simp(disch:=try exact jz) only[go_sem,t4,t5,t6,t11,t42,t43,t44,t48,t49,t50]
       exact⟨r.length-(l+1),jb,l+1,bs',rfl,jb,rfl,h1,h2,h3⟩
      .have hb:(ix r l).b=false:=by simpa using hb
       have hS1:Cc f r (l+1)=(aN (Cc f r l).1 kk ((Cc f r l).1 kk-(Cc f r l).1 kk),(Cc f r l).2++[(Int.ofNat kk,(Cc f r l).1 kk)]):=by rw[hsucc,aj7 (show¬(ix r l).k=-1 from hk1) hkk,hb];rfl
       simp(disch:=try exact jz) only[go_sem,t4,t5,t6,t11,t42,t43,t44,t48,t49,t50,dB,hkk,qA,hb,hfit,hcz2,hraw,au p64,aI p64,p64]
       refine fin _ hcz hS1 (by have hFe:=aU.refl (ex:=[σ1.aj+1]) hf4.wf;repeat(first|assumption|exact aU.refl (by assumption)|exact aU.up (by assumption) kf|exact aU.up (aU.refl (by assumption)) kf|refine aU.set1 ?_ kg kf|refine aU.lW ?_ kg|refine aU.oG ?_ kg|refine aU.pK ?_ kf)) (aA _ _ _) λv σ6 bs' h1 h2 h3=>?_
       simp(disch:=try exact jz) only[go_sem,t4,t5,t6,t11,t42,t43,t44,t48,t49,t50]
       exact⟨r.length-(l+1),jb,l+1,bs',rfl,jb,rfl,h1,h2,h3⟩
    .have:l=r.length:=jb
     subst this
     simp(disch:=try exact jz) only[go_sem,am]
     exact⟨bs,t4,t5,t6,t11,t42,t43,t44,p64,hTS,hf4⟩
   .rintro _ tm σ4 ⟨rfl,bs,t4,t5,t6,t11,t42,t43,t44,p64,hTS,hf4⟩
    have pY:=hf4.le
    have hlb:=hN.l1
    have Qb:=hN.l2
    have axB:=hTS.lt hf4.wf
    have abr:aU [σ1.aj,σ1.aj+1] σ2 σ4:=hf.to' hf4 kc
    have p54:=hf4.get hf.wf kc p5
    have hN4:=NF.mono hN (λj _=>V3 _ _ j) (λb h1 h2=>hf4.old b h2 (by simp;omega)) jp
    have hg4:=hN4.g
    have hLG:=V4 U λi=>ix (qc cs a).2 i
    have TD:=hTS.b
    unfold kG at TD
    simp(disch:=try exact jz) only[go_sem,t4,t5,t6,t11,t42,t43,t44,au p54,au TD,p54,hg4,hMk]
    refine⟨a.length-(j+1),jb,j+1,σ4.aj+1,aN U j (aV (Cc f r r.length).2.length bs),rfl,jb,rfl,rfl,by rw[p64,hS],?_,?_⟩
    .refine hN.push (U:=U) hf4.wf hL hTS jp jb (λb h1 h2=>hf4.old b h2 (by simp;omega)) jb jb ?_ λc h1 h2 h3=>?_
     .rw[ak _ _ _ _ jb,aA];rfl
     .rw[ak _ _ _ _ jb,ak _ _ _ _ jb,iq _ _ _ _ h3,ak _ _ _ _ jb]
    .repeat(first|assumption|exact aU.refl (by assumption)|exact aU.up (by assumption) kf|exact aU.up (aU.refl (by assumption)) kf|refine aU.set1 ?_ kg kf|refine aU.lW ?_ kg|refine aU.oG ?_ kg|refine aU.pK ?_ kf)
  .have:j=a.length:=jb
   subst this
   simp(disch:=try exact jz) only[go_sem,am]
   exact⟨lb,U,t4,t5,t6,p5,by rw[<-Jh];exact p6,hN,hf⟩
 rintro _ tm σ3 ⟨rfl,lb,U,t4,t5,t6,p5,p6,hN,hf3⟩
 have hF3:Fr σ σ3:=hf3.to hF2 (by simp;omega)
 have pY:=hf3.le
 have q23:=hf3.get hf2.wf (by simp;omega) q2
 have hP:∀t∈a,∀x∈t,x.k=-1\/0<=x.k/\x.k<cs.length:=λt ht x hx=>(hO.p t ht x hx).1
 have hM3:iU σ3.h mv (kH a).length (λi=>[Rn (kH a) i]) 1 3 (σ.aj+1+1+1) σ1.aj:=by
  rw[P8];refine iU.congr (iU.mono hM (λb h1 h2=>?_) jp jp) λi hi=>by rw[aoG hP hi]
  rw[hf3.old b jb (by simp;omega),hf2.old b h2]
 have hMl:=hM3.len
 have hMm:abA (λb=>σ.aj+1+1+1<=b/\b<σ1.aj) σ3.h mv (kH a):=iU.hlp hM3 (λ_=>rfl) jj (λ_ _=>rfl) λb h1 h2=>⟨h1,h2⟩
 have hml:=He hP
 have akd:=Fr.refl hF3.wf
 have aBi:=hF3.wf.lt p6
 have hAc:=(ajT (n:=cs.length) hPc hO.c hO.p).1
 simp(disch:=try exact jz) only[go_sem,t4,t5,t6,au p5,hMk,hMl]
 refine bM.mono (Q:=λex tm σ4=>ex=.exit 6/\∃bs,Tr.ah tm 4=.c (.ptr (σ.aj+1+1) 0)/\Tr.ah tm 5=.c (.ptr σ1.aj 0)/\Tr.ah tm 15=.c (.ptr σ3.aj 0)/\TS σ4 σ3.aj bs (wP (kH a) (lsA cs a).1)/\Fr σ3 σ4)
  (aF (λq tm σ4=>∃i bs,q=(kH a).length-i/\i<=(kH a).length/\Tr.ah tm 4=.c (.ptr (σ.aj+1+1) 0)/\Tr.ah tm 5=.c (.ptr σ1.aj 0)/\Tr.ah tm 6=.c (.sl (σ1.aj+1) 0 cs.length (.ex cs.length))/\Tr.ah tm 15=.c (.ptr σ3.aj 0)/\Tr.ah tm 97=.c mv/\Tr.ah tm 98=jN (kH a).length/\Tr.ah tm 99=jN i/\TS σ4 σ3.aj bs (wP ((kH a).take i) (lsA cs a).1)/\Fr σ3 σ4) (kH a).length ?_ ?_) ?_
 .refine⟨0,σ3.aj+1,jb,jb,?_⟩
  simp(disch:=try exact jz) only[go_sem,t4,t5,t6,am]
  exact⟨⟨aA _ _ _,rfl,bR _,.inl rfl⟩,fr⟩
 .rintro q tm σ4 ⟨i,bs,rfl,hi,t4,t5,t6,t15,t97,H9,FT,hTS,hf4⟩
  have uU:=hf4.le
  simp(disch:=try exact jz) only[go_sem,t4,t5,t6,t15,t97,H9,FT,aG]
  refine aH (λhlt=>?_) (λhlt=>?_)
  .obtain⟨b8,o8,c8,rfl,oQ⟩:=(hMm.hc).pos jb
   have oQ:=hf4.ld hF3.wf (oQ i hlt)
   unfold Rn at oQ
   have hmi:=mX hlt
   have hin:ix (kH a) i<cs.length:=by have h1:=(vU hP).mp hmi;have:=vH hP ((ix (kH a) i:Nat):Int) (sD.mpr ⟨jb,h1⟩);omega
   have p64:=hf4.get hF3.wf p6
   have hll:(wP ((kH a).take i) (lsA cs a).1).length=i:=by unfold wP;rw[cA,dp];omega
   have hsz:Sz (aW (wP ((kH a).take i) (lsA cs a).1)):=V6 (n:=cs.length) hA (λp hp=>by obtain⟨k,hk,rfl⟩:=cW.mp hp;have h1:=(vU hP).mp (et hk);exact⟨.inr (vH hP k (sD.mpr ⟨jb,h1⟩)),hAc k⟩) jb
   have hcz:=Qa hA (hAc (ix (kH a) i))
   simp(disch:=try exact jz) only[go_sem,t4,t5,t6,t15,t97,H9,FT,oQ,au p64]
   refine(abI hf4.wf hTS jb _ _ hsz hcz).mono ?_
   rintro _ σ6 ⟨⟨bs',akc⟩,hlo,hW6,yZ⟩
   simp(disch:=try exact jz) only[go_sem,t4,t5,t6,t15,t97,H9,FT]
   refine⟨(kH a).length-(i+1),jb,i+1,bs',rfl,jb,rfl,by rw[af7 _ _ hlt];exact akc,jb,hW6,λb hb=>by rw[hlo b hb];exact hf4.old b hb⟩
  .have:i=(kH a).length:=jb
   subst this
   simp(disch:=try exact jz) only[go_sem,am]
   exact⟨bs,t4,t5,t15,by rw[cC]at hTS;exact hTS,hf4⟩
 rintro _ tm σ4 ⟨rfl,bs,t4,t5,t15,hTS,hf4⟩
 have uU:=hf4.le
 have hlb:=hN.l1
 have Qb:=hN.l2
 have axB:=hTS.lt hf4.wf
 have p54:=hf4.get hF3.wf p5
 have q24:=hf4.get hF3.wf q23
 have hN4:=NF.mono hN (λj _=>V3 _ _ j) (λb h1 h2=>hf4.old b h2) jp
 have hg4:=hN4.g
 have hLG:=V4 U λi=>ix (qc cs a).2 i
 have TD:=hTS.b
 have hL:ix (qc cs a).2 a.length=wP (kH a) (lsA cs a).1:=by
  have h9:=Ce cs a a.length jp;rw[Jh]at h9;unfold qc;conv=>lhs;rw[<-h9]
  exact gX _ _
 have jr:=hF3.trans hf4
 unfold kG at TD
 simp(disch:=try exact jz) only[go_sem,t4,t5,t15,au p54,au TD,p54,hg4,hMk,aI q24,q24]
 have hN5:=hN.push (U:=U) (n':=σ4.aj+1+1) (nx:=σ4.aj+1) hf4.wf hL hTS jp jb (λb h1 h2=>hf4.old b h2) jb jb (h':=hset (hset (hset (lW a.length (hset σ4.h σ4.aj ⟨[aV (wP (kH a) (lsA cs a).1).length bs,.bool (rn (aW (wP (kH a) (lsA cs a).1))),.str (rs (aW (wP (kH a) (lsA cs a).1))),.str (rd (aW (wP (kH a) (lsA cs a).1)))],none⟩) lb) (σ4.aj+1) ⟨bC a.length (Y7 U λi=>ix (qc cs a).2 i)++[aV (wP (kH a) (lsA cs a).1).length bs,.bool (rn (aW (wP (kH a) (lsA cs a).1))),.str (rs (aW (wP (kH a) (lsA cs a).1))),.str (rd (aW (wP (kH a) (lsA cs a).1)))],some (4,199)⟩) σ1.aj ⟨[mv,.sl (σ4.aj+1) 0 (a.length+1) .opn],none⟩) (σ.aj+1+1) ⟨[mv,.sl (σ4.aj+1) 0 (a.length+1) .opn],none⟩)
  (by rw[ak _ _ _ _ jb,ak _ _ _ _ jb,aA];rfl) (λc h1 h2 h3=>by rw[ak _ _ _ _ jb,ak _ _ _ _ jb,ak _ _ _ _ jb,iq _ _ _ _ h3,ak _ _ _ _ jb])
 have hll:(qc cs a).2.length=a.length+1:=by have h9:=Ce cs a a.length jp;rw[Jh]at h9;unfold qc;show((lsA cs a).2++[_]).length=_;rw[aD,h9];rfl
 refine⟨⟨_,_,rfl,?_,?_⟩,fr⟩
 .refine aX.keep hMm (λb hb=>?_) λb hb=>⟨jb,by show b<σ4.aj+1+1;omega⟩
  rw[ak _ _ _ _ jb,ak _ _ _ _ jb,ak _ _ _ _ jb,iq _ _ _ _ jb,ak _ _ _ _ jb,hf4.old b jb]
 .exact(hN5.atU hll λi _=>rfl).keep (λ_ _=>rfl) λb hb=>⟨jb,hb.2⟩
def rkG(cs:List C5)(bs:Nat->Nat)(k r:Nat):List B:=kG (aV (Cb cs r k).length (bs r)) (aW (Cb cs r k))
structure RkS(σ:St)(rb:Nat)(bs:Nat->Nat)(cs:List C5)(k lo:Nat):Prop where
 b:σ.h rb=some ⟨bC 8 (rkG cs bs k),none⟩
 o:∀r,r<8->PW σ.h (bs r) (Cb cs r k)
 l:∀r,r<8->(Cb cs r k).length=0\/lo<=bs r/\bs r<σ.aj
 i:∀r r',r<8->r'<8->r≠r'->(Cb cs r k).length=0\/(Cb cs r' k).length=0\/bs r≠bs r'
def RkS.on{σ σ':St}{rb lo k:Nat}{bs:Nat->Nat}{cs:List C5}(h:RkS σ rb bs cs k lo)(hrb:σ'.h rb=σ.h rb)(hf:∀b,lo<=b->b<σ.aj->σ'.h b=σ.h b)(hle:σ.aj<=σ'.aj):RkS σ' rb bs cs k lo:=by
 refine⟨by rw[hrb];exact h.b,λr hr=>?_,λr hr=>by have:=h.l r hr;omega,h.i⟩;refine(xw ?_).trans (h.o r hr);rcases h.l r hr with h1|h1
 .omega
 grind
theorem RkS.fr{σ σ':St}{rb lo k:Nat}{bs:Nat->Nat}{cs:List C5}(h:RkS σ rb bs cs k lo)(hrb:rb<σ.aj)(hf:Fr σ σ'):RkS σ' rb bs cs k lo:=h.on (hf.old _ hrb) (λb _ hb=>hf.old b hb) hf.le
def at1{σ:St}(hW:WF σ){rb lo k r:Nat}{bs:Nat->Nat}{cs:List C5}(h:RkS σ rb bs cs k lo)(hrb:rb<lo)(hlo:lo<=σ.aj)(hr:r<8)(hk:(ix cs k).r=(r:Int))(hk1:k<=1000000)(hs:Sz (aW (Cb cs r k)))(hq:Sz (ix cs k).a.q):
  aC EN 142 [.c (.ptr rb (r*4)),jN k,.agg [.bool (rn (ix cs k).a.q),.str (rs (ix cs k).a.q),.str (rd (ix cs k).a.q)]] σ λ_ σ'=>(∃bs',RkS σ' rb bs' cs (k+1) lo)/\(∀b,b<σ.aj->b≠rb->(Cb cs r k).length=0\/b≠bs r->σ'.h b=σ.h b)/\WF σ'/\σ.aj<=σ'.aj:=by
 have hl:=h.l r hr
 have hlen:=Nl cs r k
 obtain⟨b0,hb0,hb1⟩:∃b0,(∀c,aV (Cb cs r k).length c=aV (Cb cs r k).length b0\/c≠bs r)/\((Cb cs r k).length=0/\b0=rb\/0<(Cb cs r k).length/\b0=bs r):=by
  by_cases e:(Cb cs r k).length=0
  .exact⟨rb,λc=>.inl (by rw[e];rfl),.inl ⟨e,rfl⟩⟩
  .exact⟨bs r,λc=>by grind,.inr ⟨jb,rfl⟩⟩
 have hT:PW σ.h b0 (Cb cs r k):=by
  have:=h.o r hr;unfold PW at this⊢;rw[<-this];rcases hb1 with⟨e,-⟩|⟨-,e⟩
  .rw[e];rfl
  .rw[e]
 have hGr:rkG cs bs k r=kG (aV (Cb cs r k).length b0) (aW (Cb cs r k)):=by grind[rkG]
 refine(ajP hW h.b hr (λ_=>rfl) rfl rfl hGr hT jb jb jb k _ hs hq).mono ?_
 rintro _ σ' ⟨nx,h1,h2,h3,h4,h5⟩
 have hle:=h5.le
 have e1:Cb cs r (k+1)=Cb cs r k++[((k:Int),(ix cs k).a.q)]:=by grind[Cb]
 have e2:∀r',r'≠r->Cb cs r' (k+1)=Cb cs r' k:=λr' hne=>by grind[Cb]
 refine⟨⟨aN bs r nx,?_,λr' hr'=>?_,λr' hr'=>?_,λa b ha hb hab=>?_⟩,λb hb hne hn2=>h5.old b hb ?_,h5.wf,hle⟩
 .rw[h3]
  congr 2
  refine bH λr' hr'=>?_
  unfold iR rkG
  by_cases e:r'=r
  .subst e
   rw[ae rfl,aK,e1,TQ,aD];rfl
  grind[aS]
 .by_cases e:r'=r
  .subst e
   rw[aK,e1]
   unfold PW
   rw[aD,bZ]
   show σ'.h nx=some _
   grind[Go.Proofs.Xe.jw,Go.Proofs.Xe.bH,Go.Proofs.Xe.iR,Go.Proofs.Xe.gX,Go.Proofs.Xe.gW]
  .rw[aS _ _ _ _ e,e2 r' e]
   refine(xw ?_).trans (h.o r' hr')
   have h6:=h.l r' hr'
   have h7:=h.i r' r hr' hr e
   by_cases e0:(Cb cs r' k).length=0
   .exact .inl e0
   .refine .inr (h5.old _ jb ?_)
    simp;omega
 .by_cases e:r'=r
  .subst e;rw[aK];omega
  .rw[aS _ _ _ _ e,e2 r' e]
   have:=h.l r' hr';omega
 .by_cases ea:a=r
  .subst ea
   rw[aK,aS _ _ _ _ (Ne.symm hab),e2 b (Ne.symm hab)]
   have:=h.l b hb;omega
  .by_cases eb:b=r
   .subst eb
    rw[aK,aS _ _ _ _ ea,e2 a ea]
    have:=h.l a ha;omega
   .rw[aS _ _ _ _ ea,aS _ _ _ _ eb,e2 a ea,e2 b eb]
    exact h.i a b ha hb hab
 grind
def RkS.atU{σ:St}{rb lo:Nat}{bs:Nat->Nat}{cs:List C5}(h:RkS σ rb bs cs cs.length lo){p:Nat->Prop}(hp:p rb)(hp2:∀b,lo<=b->b<σ.aj->p b):zO p σ.h (.sl rb 0 8 (.ex 8)) (QT cs cs.length):=by
 have hix:∀r,r<8->ix (QT cs cs.length) r=Cb cs r cs.length:=λr hr=>by grind[QT,dU]
 have h8:(QT cs cs.length).length=8:=by rfl
 refine⟨λr=>aV (Cb cs r cs.length).length (bs r),?_,cP 8,λr hr=>?_⟩
 .rw[h8];refine(bD (G:=rkG cs bs cs.length) _ h.b rfl hp (λ_=>rfl) jj λr hr=>?_).congr λr hr=>by grind[rkG]
  grind[rkG,kG,vk,Ac,MG]
 .rw[h8]at hr;rw[hix r hr];exact(h.o r hr).hlp (by rcases h.l r hr with h1|h1;exact .inl h1;grind)
structure Qc(A:Nat)(e:vP):Prop where
 nc:e.c.length<=1000
 na:e.a.length<=1000
 r:∀k,k<e.c.length->∃r:Nat,r<8/\(ix e.c k).r=Int.ofNat r
 fc:∀k,k<e.c.length->(ix e.c k).a.fits 1000000
 c:∀k,Jg A (ix e.c k).a.q
 a:∀j,j<e.a.length->akb A e.c (ix e.a j)
def oK(e:vP)(k:Nat):Rat:=aB k λi=>(ix e.c i).a.q
def adQ{A:Nat}{f:Nat->Rat}(hf:∀i,Jg A (f i)):∀n,dX A (aB n f)/\0<=aB n f/\aB n f<=(n:Rat)*uQ
 |0=>⟨dX.zero A,aY,by show(0:Rat)<=((0:Nat):Rat)*uQ;simp⟩
 |n+1=>by
  obtain⟨h1,h2,h3⟩:=adQ hf n;have h4:=hf n;rw[gc];have:((1:Nat):Rat)=1:=rfl;refine⟨h1.add h4.1,?_,?_⟩
  .show 0<=aB n f+f n;grind
  .show aB n f+f n<=_;grind
def at6{A:Nat}(hA:CY A){f:Nat->Rat}(hf:∀i,Jg A (f i)){n:Nat}(hn:n<=10000):Sz (aB n f):=by obtain⟨h1,h2,h3⟩:=adQ hf n;have hU:=G9 (k:=10000) jj;have h4:(n:Rat)<=((10000:Nat):Rat):=bw.mpr hn;have h5:=bj h4 P6;exact(pF hA (io A) h1 h2 kd).sz hA (by grind[qP])
def adR(M L:Nat->B)(cs:List C5)(al:List fD)(p:Nat->Prop)(h:Tr Bk)(j:Nat):Prop:=abA p h (M j) (kH (ix al j))/\zO p h (L j) (qc cs (ix al j)).2
abbrev aqE(M L:Nat->B)(cs:List C5)(al:List fD)(h:Tr Bk)(b n lo hi:Nat):Prop:=NF (adR M L cs al) h b n (λj=>[M j,L j]) 2 202 lo hi
def Np(M L:Nat->B)(cs:List C5)(al:List fD)(j:Nat):QK (adR M L cs al) j:=λ_ _ _ _ hp hk hq=>⟨aX.keep hp.1 hk hq,hp.2.keep hk hq⟩
def abM(M L:Nat->B):LG (λj=>[M j,L j]) 2:=λ_=>rfl
def lS{E:Env}{f:Nat}{args:List V}{σ:St}{F:AF}{K:V->St->Prop}(ho:E.Xn f args σ=none)(hF:E.fns f=some F):aC E f args σ K=bM E F.body (ini args) σ (aaN F.res K):=by
 refine propext ⟨?_,aO ho hF⟩;rintro⟨n,v,σ',h1,h2⟩;cases n with
 |zero=>grind[jd]
 |succ n=>
  rw[jd]at h1
  unfold Iq at h1
  rw[ho,hF]at h1
  dsimp only at h1
  rw[aaM]at h1
  dsimp only at h1
  unfold aeG at h1
  split at h1
  .next tm τ e=>
   split at h1
   .next u hu=>cases h1;exact⟨n,_,tm,_,e,_,hu,h2⟩
   grind
  .next tm τ e=>
   split at h1
   .next u hu=>cases h1;exact⟨n,_,tm,_,e,_,hu,h2⟩
   grind
  grind
section
variable (dI bV tm:Tr V) (σ:St) (res:List Rs) (pd:List iW)
def ake(i:Nat)(us os:List Nat)(d:Option Nat)(g:Option (Nat×Bool))(bytes:Nat)(z:List B)(a c:O)(l:List DO)(K:St->List Rs->List iW->Prop):
  wz dI bV (⟨i,us,os,⟨d,g,.Lp bytes z a c⟩⟩::l) σ res pd K=match Og dI bV res us os with
   |some tm=>CX g tm (match KQ (a.ev tm),KQ (c.ev tm)with
    |some n,some m=>(bif Nat.ble n m&&(Nat.ble (bytes*m) 281474976710656&&Nat.ble m 1073741824)then wz dI bV l ⟨hset σ.h σ.aj ⟨rep z m,none⟩,σ.aj+1⟩ (⟨i,d,.c (.sl σ.aj 0 n (.ex m))⟩::res) (⟨i,⟨d,g,.Lp bytes z a c⟩,tm,.c (.sl σ.aj 0 n (.ex m)),true,some σ.aj⟩::pd) K else False)
    |_,_=>False) (wz dI bV l σ (⟨i,d,.tnil⟩::res) (⟨i,⟨d,g,.Lp bytes z a c⟩,tm,.tnil,false,none⟩::pd) K)
   |none=>False:=by
 unfold wz CX
 rw[yU]
 dsimp only
 cases Og dI bV res us os with
 |none=>rfl
 |some tm=>
  grind[wS.kind,oC,lV]
def abN(i:Nat)(d:Option Nat)(g9:Option (Nat×Bool))(bytes:Nat)(z:List B)(a c:O)(v:V)(b:Nat):again σ ⟨i,⟨d,g9,.Lp bytes z a c⟩,tm,v,true,some b⟩=match KQ (a.ev tm),KQ (c.ev tm)with
  |some n,some m=>(bif Nat.ble n m&&(Nat.ble (bytes*m) 281474976710656&&Nat.ble m 1073741824)then(match σ.h b with|some ⟨c,none⟩=>Oe c (rep z m)|_=>false)else false)
  |_,_=>false:=by
 grind[again,wS.kind,oC]
end
def akf(n:Nat)(f:Nat->Bool):(ones n λi=>.bool (f i)).all B.kn=true:=aa1 λ_=>rfl
attribute [go_sem] ake abN akf
def xI{E:Env}{a b:AC}{tm:Tr V}{σ:St}{Q:AX->Tr V->St->Prop}(P:Tr V->St->Prop)(h:bM E a tm σ λe tm' σ'=>e=.normal/\P tm' σ')(h2:∀tm' σ',P tm' σ'->bM E b tm' σ' Q):bM E (.seq a b) tm σ Q:=
 run_seq (h.mono (by rintro _ tm' σ' ⟨rfl,hp⟩;exact h2 _ _ hp))
def Qd{E:Env}{a b c:AC}{tm:Tr V}{σ:St}{Q:AX->Tr V->St->Prop}(P:Tr V->St->Prop)(h:bM E a tm σ (U7 E b λe tm' σ'=>e=.normal/\P tm' σ'))(h2:∀tm' σ',P tm' σ'->bM E c tm' σ' Q):bM E (.seq a (.seq b c)) tm σ Q:=
 run_seq (h.mono λe tm' σ' he=>by
  cases e with
  |normal=>exact xI P he h2
  |exit i=>cases he.1
  |ret=>cases he.1)
def Ji{E:Env}{b:AC}{tm:Tr V}{σ:St}{Q:AX->Tr V->St->Prop}(h:bM E b tm σ Q):bM E .skip tm σ (U7 E b Q):=XI h
def axD{σ:St}(hW:WF σ){p p':Nat->Prop}{x1 x2 x3 C Av:B}{e:vP}(hC:oN p σ.h C e.c)(hA:iG p' σ.h Av e.a)(h1:x1.kn=true)(h2:x2.kn=true)(h3:x3.kn=true){A:Nat}(hD:CY A)(hO:Qc A e):
  aC EN 86 [.agg [x1,x2,x3,C,Av]] σ λr σ'=>(∃rv pv,r=.agg (jI e.c.length rv pv (oK e e.c.length))/\zQ (λb=>σ.aj<=b/\b<σ'.aj) σ'.h rv pv (bY e))/\Fr σ σ':=by
 refine aO (wE.o _ _) wE.h ?_
 unfold wE
 dsimp only
 have LM:=aX.kn hC
 have hAk:=hA.kn
 have I5:=aX.len hC
 have hlenA:=hA.len
 have hnc:=hO.nc
 have hna:=hO.na
 have hFr:=Fr.refl hW
 simp(disch:=try exact jz) only[go_sem,h1,h2,h3,LM,hAk,I5]
 refine bM.mono (Q:=λex tm σ'=>ex=.exit 0/\∃bs,Tr.ah tm 1=.c (.ptr σ.aj 0)/\Tr.ah tm 2=.c (.ptr (σ.aj+1) 0)/\Tr.ah tm 3=.c (.ptr (σ.aj+1+1+1) 0)
   /\σ'.h σ.aj=some ⟨[x1,x2,x3,C,Av],none⟩/\σ'.h (σ.aj+1)=some ⟨[.int .i64 (.ofNat 0),.aP,.aP,.bool (rn 0),.str (rs 0),.str (rd 0)],none⟩/\σ'.h (σ.aj+1+1+1)=some ⟨jI e.c.length (.sl (σ.aj+1+1) 0 8 (.ex 8)) .aP (oK e e.c.length),none⟩/\RkS σ' (σ.aj+1+1) bs e.c e.c.length (σ.aj+1+1+1+1)/\Fr σ σ'/\σ.aj+1+1+1+1<=σ'.aj)
  (aF (λq tm σ'=>∃k bs,q=e.c.length-k/\k<=e.c.length/\Tr.ah tm 1=.c (.ptr σ.aj 0)/\Tr.ah tm 2=.c (.ptr (σ.aj+1) 0)/\Tr.ah tm 3=.c (.ptr (σ.aj+1+1+1) 0)/\Tr.ah tm 15=.c C/\Tr.ah tm 16=jN e.c.length/\Tr.ah tm 17=jN k
   /\σ'.h σ.aj=some ⟨[x1,x2,x3,C,Av],none⟩/\σ'.h (σ.aj+1)=some ⟨[.int .i64 (.ofNat 0),.aP,.aP,.bool (rn 0),.str (rs 0),.str (rd 0)],none⟩/\σ'.h (σ.aj+1+1+1)=some ⟨jI e.c.length (.sl (σ.aj+1+1) 0 8 (.ex 8)) .aP (oK e k),none⟩/\RkS σ' (σ.aj+1+1) bs e.c k (σ.aj+1+1+1+1)/\Fr σ σ'/\σ.aj+1+1+1+1<=σ'.aj) e.c.length ?_ ?_) ?_
 .refine⟨0,λ_=>0,jb,jb,?_⟩
  simp(disch:=try exact jz) only[go_sem,am]
  refine⟨rfl,⟨?_,λr hr=>rfl,λr hr=>.inl rfl,λr r' _ _ _=>.inl rfl⟩,fr,jb⟩
  simp(disch:=omega) only[ak,aA];rfl
 .rintro q tm σ' ⟨k,bs,rfl,hk,t1,t2,t3,t15,t16,t17,q0,q1,q3,hR,hf,hnx⟩
  have hle:=hf.le
  simp(disch:=try exact jz) only[go_sem,t1,t2,t3,t15,t16,t17,aG]
  refine aH (λhlt=>?_) (λhlt=>?_)
  .obtain⟨b5,o5,c5,rfl,-,bf⟩:=aX.pos hC jb
   have bf:=hf.ld hW (bf k hlt)
   unfold Xb at bf
   have hfit:=qE (hO.fc k hlt) jj
   have hz:=Sz.zero.two
   have hraw:rq (ix e.c k).a.n (ix e.c k).a.s (ix e.c k).a.d=(ix e.c k).a.q:=rfl
   obtain⟨r,hr,hrk⟩:=hO.r k hlt
   have hqz:=Qa hD (hO.c k)
   have mJ:=Fr.refl hf.wf
   have hrb:=hR.b
   have hlb:σ.aj+1+1+1<σ'.aj:=jb
   unfold jI at q3
   simp(disch:=try exact jz) only[go_sem,t1,t2,t3,t15,t16,t17,bf,hfit,hz,hraw,hrk,cY,au q3]
   refine aC.st (Fr σ') (fr) λgy=>?_
   have hsz:Sz (aW (Cb e.c r k)):=V6 (n:=e.c.length) hD (λp hp=>by have:=PX (P:=Jg A) (λi _=>hO.c i) r k hk p hp;grind) (by grind[Nl])
   refine(at1 gy.wf (hR.fr jb gy) jb kd hr hrk jb hsz hqz).mono ?_
   rintro _ σ6 ⟨⟨bs',hR6⟩,hlo,hW6,yZ⟩
   have uU:σ'.aj+1+1<=σ6.aj:=yZ
   have hlr:=hR.l r hr
   have hk6:∀b,b<σ.aj+1+1+1+1->b≠σ.aj+1+1->σ6.h b=σ'.h b:=λb h1 h2=>by rw[hlo b kd h2 jb];exact gy.old b jb
   have q06:=(hk6 _ jb jb).trans q0
   have q16:=(hk6 _ jb jb).trans q1
   have q36:=(hk6 _ jb jb).trans q3
   have q66:σ6.h (σ'.aj+1)=some ⟨[.bool (rn (ix e.c k).a.q),.str (rs (ix e.c k).a.q),.str (rd (ix e.c k).a.q)],none⟩:=(hlo _ (bR _) jb jb).trans (aA _ _ _)
   have hts:Sz (oK e k):=at6 hD hO.c jb
   have gV:Fr σ σ6:=⟨jb,hW6,λb hb=>by rw[hk6 b jb jb];exact hf.old b hb⟩
   simp(disch:=try exact jz) only[go_sem,t1,t2,t3,t15,t16,t17,au q36,au q66,q36,aI q36]
   refine⟨e.c.length-(k+1),jb,k+1,bs',rfl,jb,rfl,q06,q16,rfl,?_,fr,jb⟩
   exact hR6.on (ak _ _ _ _ jb) (λb h1 _=>ak _ _ _ _ jb) jp
  .have:k=e.c.length:=jb
   subst this
   simp(disch:=try exact jz) only[go_sem,am]
   grind
 rintro _ tm σ2 ⟨rfl,bs,t1,t2,t3,q0,q1,q3,hR,hf,hnx⟩
 have hle:=hf.le
 unfold jI at q3
 simp(disch:=try exact jz) only[go_sem,t1,t2,t3,au q0,hAk,hlenA]
 refine bM.mono (Q:=λex tm σ'=>ex=.exit 2/\∃pb M L,Tr.ah tm 2=.c (.ptr (σ.aj+1) 0)/\Tr.ah tm 3=.c (.ptr (σ.aj+1+1+1) 0)
   /\σ'.h (σ.aj+1+1+1)=some ⟨jI e.c.length (.sl (σ.aj+1+1) 0 8 (.ex 8)) (aV e.a.length pb) (oK e e.c.length),none⟩/\aqE M L e.c e.a σ'.h pb e.a.length σ2.aj σ'.aj/\aU [σ.aj+1+1+1] σ2 σ')
  (aF (λq tm σ'=>∃j pb M L,q=e.a.length-j/\j<=e.a.length/\Tr.ah tm 1=.c (.ptr σ.aj 0)/\Tr.ah tm 2=.c (.ptr (σ.aj+1) 0)/\Tr.ah tm 3=.c (.ptr (σ.aj+1+1+1) 0)/\Tr.ah tm 41=.c Av/\Tr.ah tm 42=jN e.a.length/\Tr.ah tm 43=jN j
   /\σ'.h (σ.aj+1+1+1)=some ⟨jI e.c.length (.sl (σ.aj+1+1) 0 8 (.ex 8)) (aV j pb) (oK e e.c.length),none⟩/\aqE M L e.c e.a σ'.h pb j σ2.aj σ'.aj/\aU [σ.aj+1+1+1] σ2 σ') e.a.length ?_ ?_) ?_
 .refine⟨0,σ2.aj,λ_=>.aP,λ_=>.aP,jb,jb,?_⟩
  simp(disch:=try exact jz) only[go_sem,t1,t2,t3,am]
  exact⟨q3,NF.nil (abM _ _),aU.refl hf.wf⟩
 .rintro q tm σ' ⟨j,pb,M,L,rfl,hj,t1,t2,t3,t41,t42,t43,q3,hN,hfe⟩
  have hle':=hfe.le
  simp(disch:=try exact jz) only[go_sem,t1,t2,t3,t41,t42,t43,aG]
  refine aH (λhlt=>?_) (λhlt=>?_)
  .obtain⟨b5,o5,c5,rfl,T1,bf,hT⟩:=hA.at hlt
   have hf3:Fr σ σ':=hfe.to hf (by simp;omega)
   have bf:=hf3.ld hW bf
   have q0':=hfe.get hf.wf (by simp only[dt];omega) q0
   have Rl:=hT.kn
   have hlb:=hN.l1
   have Qb:=hN.l2
   have mJ:=Fr.refl hfe.wf
   unfold jI at q3
   simp(disch:=try exact jz) only[go_sem,t1,t2,t3,t41,t42,t43,bf,Rl,au q0',au q3,h1,h2,h3,LM,hAk]
   refine aC.st (Fr σ') (fr) λgy=>?_
   have hf5:=hf3.trans gy
   refine(axA gy.wf (aX.fr hW hf5 hC) (hT.fr hW hf5) h1 h2 h3 hAk hD (hO.a j hlt)).mono ?_
   rintro _ σ6 ⟨⟨mv,lv,rfl,hM,hL⟩,gV⟩
   have kL:=gy.trans gV
   have yZ:σ'.aj+1<=σ6.aj:=gV.le
   have q36:=kL.get hfe.wf q3
   have hMk:=aX.kn hM
   have hLk:=hL.kn
   have hN6:=NF.mono hN (λj _=>Np _ _ _ _ j) (λb _ hb=>kL.old b hb) jp
   have hg6:=hN6.g
   have hLG:=abM M L
   have abO:aU [σ.aj+1+1+1] σ2 σ6:=hfe.trans (kL.ex _)
   simp(disch:=try exact jz) only[go_sem,t1,t2,t3,t41,t42,t43,hMk,hLk,au q36,q36,hg6,aI q36]
   refine⟨e.a.length-(j+1),jb,j+1,σ6.aj+1,aN M j mv,aN L j lv,rfl,jb,rfl,rfl,?_,by repeat(first|assumption|exact aU.refl (by assumption)|exact aU.up (by assumption) kf|exact aU.up (aU.refl (by assumption)) kf|refine aU.set1 ?_ kg kf|refine aU.lW ?_ kg|refine aU.oG ?_ kg|refine aU.pK ?_ kf)⟩
   refine NF.push hN (λj _=>Np _ _ _ _ j) (λi hi p h hq=>?_) (hi1:=σ6.aj) (h1:=σ6.h) ?_ (λb _ hb=>kL.old b hb) jb jb jb jb ?_ ?_ (λc h1 h2 h3=>?_) (λi hi=>?_) (abM _ _) (x:=[mv,lv])
   .unfold adR at hq⊢
    rw[aS _ _ _ _ jb,aS _ _ _ _ jb];exact hq
   .unfold adR
    rw[aK,aK]
    exact⟨aX.keep hM (λ_ _=>rfl) λb hb=>⟨ap (eh _) hb.1,hb.2⟩,hL.keep (λ_ _=>rfl) λb hb=>⟨ap (eh _) hb.1,hb.2⟩⟩
   .rw[ak _ _ _ _ jb,aA]
   .rw[aK,aK]
   .rw[ak _ _ _ _ jb,ak _ _ _ _ jb,iq _ _ _ _ h3,ak _ _ _ _ jb]
   .rw[aS _ _ _ _ jb,aS _ _ _ _ jb]
  .have:j=e.a.length:=jb
   subst this
   simp(disch:=try exact jz) only[go_sem,am]
   exact⟨pb,M,L,t2,t3,q3,hN,hfe⟩
 rintro _ tm σ3 ⟨rfl,pb,M,L,t2,t3,q3,hN,hfe⟩
 have hle':=hfe.le
 have hf3:Fr σ σ3:=hfe.to hf (by simp;omega)
 have q1':=hfe.get hf.wf kc q1
 have hlb:=hN.l1
 unfold jI at q3
 simp(disch:=try exact jz) only[go_sem,t2,t3,au q3,MG,aI q1',q1']
 have hk:∀b,σ.aj+1<b->(hset σ3.h (σ.aj+1) ⟨[.int .i64 (.ofNat e.c.length),.sl (σ.aj+1+1) 0 8 (.ex 8),aV e.a.length pb,.bool (rn (oK e e.c.length)),.str (rs (oK e e.c.length)),.str (rd (oK e e.c.length))],none⟩) b=σ3.h b:=λb hb=>ak _ _ _ _ jb
 refine⟨⟨_,_,rfl,?_,M,L,?_,λi hi=>?_⟩,fr⟩
 .refine((hR.on (σ':=σ3) (hfe.old _ jb kc) (λb h1 h2=>hfe.old b h2 (by simp;omega)) hle').atU (p:=λb=>σ.aj+1<b/\b<σ3.aj) ⟨jb,jb⟩ λb h1 h2=>⟨jb,h2⟩).keep (λb hb=>hk b hb.1) λb hb=>⟨jb,hb.2⟩
 .show aX _ _ 2 _ (e.a.map (qc e.c)).length _
  rw[cA]
  refine(NF.hlp (p:=λb=>σ.aj+1<b/\b<σ3.aj) hN jj (λi hi=>?_) λb h1 h2=>⟨jb,h2⟩).keep (λb hb=>hk b hb.1) λb hb=>⟨jb,hb.2⟩
  have:=hN.el (λj _=>Np M L e.c e.a j) hi
  simp only[cD,dj,aX.kn this.1,this.2.kn,cU]
 .have hi:i<(e.a.map (qc e.c)).length:=hi
  rw[cA]at hi
  have:=hN.el (λj _=>Np M L e.c e.a j) hi
  show abA _ _ _ (ix (e.a.map (qc e.c)) i).1/\zO _ _ _ (ix (e.a.map (qc e.c)) i).2
  rw[Y4 _ hi]
  exact⟨aX.keep this.1 (λb hb=>hk b jb) λb hb=>⟨jb,hb.2⟩,this.2.keep (λb hb=>hk b jb) λb hb=>⟨jb,hb.2⟩⟩
abbrev kJ(p:Nat->Prop)(h:Tr Bk)(v:B)(k:Nat)(f:Nat->Rat):Prop:=aX p h 3 v k λc=>dO (f c)
def dQ(p:Nat->Prop)(h:Tr Bk)(v:B)(n:Nat)(k:Nat->Nat)(f:Nat->Nat->Rat):Prop:=∃T:Nat->B,aX p h 1 v n (λi=>[T i])/\∀i,i<n->kJ p h (T i) (k i) (f i)
section
variable {p q:Nat→Prop} {h h' : Tr Bk} {v:B} {n:Nat} {k:Nat→Nat} {f f' : Nat→Nat→Rat}
def aX.at3{m:Nat}{f:Nat->Rat}(hl:kJ p h v m f){c:Nat}(hc:c<m):∃b o cc,v=.sl b o m cc/\p b/\ld h b (o+c*3) 3 true=some (.agg [.bool (rn (f c)),.str (rs (f c)),.str (rd (f c))]):=by obtain⟨b,o,cc,e,hp,hld⟩:=aX.pos hl jb;exact⟨b,o,cc,e,hp,hld c hc⟩
def dQ.at(hr:dQ p h v n k f){i:Nat}(hi:i<n):∃b o c T,v=.sl b o n c/\p b/\ld h b (o+i*1) 1 false=some (.c T)/\kJ p h T (k i) (f i):=by obtain⟨T,h1,h2⟩:=hr;obtain⟨b,o,c,e,hp,hld⟩:=h1.pos jb;grind[sU]
def dQ.keep(hr:dQ p h v n k f)(hk:∀b,p b->h' b=h b)(hp:∀b,p b->q b):dQ q h' v n k f:=by obtain⟨T,h1,h2⟩:=hr;exact⟨T,h1.keep hk hp,λi hi=>aX.keep (h2 i hi) hk hp⟩
def dQ.len(hr:dQ p h v n k f):lenV (.c v)=some (jN n):=hr.choose_spec.1.len
def dQ.kn(hr:dQ p h v n k f):v.kn=true:=hr.choose_spec.1.kn
end
theorem dQ.fr{σ σ':St}(hW:WF σ)(hf:Fr σ σ'){p:Nat->Prop}{v:B}{n:Nat}{k:Nat->Nat}{f:Nat->Nat->Rat}(hr:dQ p σ.h v n k f):dQ (Lt σ.aj) σ'.h v n k f:=by obtain⟨T,h1,h2⟩:=hr;exact⟨T,h1.fr hW hf,λi hi=>aX.fr hW hf (h2 i hi)⟩
def Ru(T:Nat->B)(k:Nat->Nat)(f:Nat->Nat->Rat)(p:Nat->Prop)(h:Tr Bk)(i:Nat):Prop:=kJ p h (T i) (k i) (f i)
abbrev abP(T:Nat->B)(k:Nat->Nat)(f:Nat->Nat->Rat)(ty:Nat)(h:Tr Bk)(b n lo hi:Nat):Prop:=NF (Ru T k f) h b n (λi=>[T i]) 1 ty lo hi
def Et(T:Nat->B)(k:Nat->Nat)(f:Nat->Nat->Rat)(j:Nat):QK (Ru T k f) j:=λ_ _ _ _ hp hk hq=>aX.keep hp hk hq
def akg(T:Nat->B):LG (λi=>[T i]) 1:=λ_=>rfl
section
variable {T:Nat→B} {k:Nat→Nat} {f:Nat→Nat→Rat} {h h' : Tr Bk} {b n ty lo hi:Nat}
def abP.push(ho:abP T k f ty h b n lo hi){hi1 nx n':Nat}{h1:Tr Bk}{v:B}(hx:kJ (λb=>hi<=b/\b<hi1) h1 v (k n) (f n))(hh:∀b,lo<=b->b<hi->h1 b=h b)(h2:hi<=hi1)(h3:hi1<=nx)(h4:nx<n')(h5:lo<=hi)
  (hb:h' nx=some ⟨bC n (λi=>[T i])++[v],some (1,ty)⟩) (hk:∀c,lo<=c->c<hi1->n=0\/c≠b->h' c=h1 c):abP (aN T n v) k f ty h' nx (n+1) lo n':=by
 refine NF.push ho (λj _=>Et _ k f j) (λj hj p h hq=>?_) (hi1:=hi1) (h1:=h1) ?_ hh h2 h3 h4 h5 hb ?_ hk (λi hi=>?_) (akg _)
 .grind[Ru,aS]
 .grind[Ru,aK]
 .rw[aK]
 grind[aS]
def abP.hrows(ho:abP T k f ty h b n lo hi){p:Nat->Prop}(hp:∀b,lo<=b->b<hi->p b):dQ p h (aV n b) n k f:=by have hel:=λi (hi:i<n)=>ho.el (λj _=>Et T k f j) hi;refine⟨T,ho.hlp jj (λi hi=>?_) hp,λi hi=>aX.keep (hel i hi) (λ_ _=>rfl) λb hb=>hp b hb.1 hb.2⟩;simp only[cD,dj,aX.kn (hel i hi),cU]
end
end Go.Proofs.Xe
