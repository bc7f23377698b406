import Derived.Test.YthkggcakedkboaaGreatDoorY23
set_option linter.all false
set_option maxRecDepth 100000
set_option maxHeartbeats 8000000
namespace Go.Proofs.Xe
open Go.RowKit Go.Proofs.Ins
def nS(a:Nat):(Int.ofNat a=Int.negSucc 0)=False:=by simp
def asP{σ:St}(hW:WF σ){p p':Nat->Prop}{x1 x2 x3 C Av tv:B}{cs:List C5}{a:iK}(hC:FQ p σ.h C cs)(hT:fE p' σ.h tv a)(h1:x1.kn=true)(h2:x2.kn=true)(h3:x3.kn=true)(h4:Av.kn=true){A:Nat}(hA:Ah A)(hO:agU A cs a):
  aC EN 94 [.agg [x1,x2,x3,C,Av],.agg [tv]] σ λr σ'=>(∃mv lv,r=.agg [mv,lv]/\YI (λb=>σ.aj<=b/\b<σ'.aj) σ'.h mv (lH a)/\xw (λb=>σ.aj<=b/\b<σ'.aj) σ'.h lv (qI cs a).2)/\Fr σ σ':=by
 refine aN (sW.o _ _) sW.h ?_
 unfold sW
 dsimp only
 have V3:=aZ.kn hC
 have hTk:=hT.kn
 have agV:=aZ.len hC
 have asQ:=hT.len
 have hnc:=hO.nc
 have hna:=hO.na
 have hFr:=Fr.refl hW
 have hPc:=apy hA.1
 simp(disch:=try exact jz) only[go_sem,z3,h1,h2,h3,V3,h4,hTk]
 refine aC.st (Fr σ) (fr) λhF1=>?_
 refine(PO hF1.wf (hT.fr hW hF1) jb hO.nf).mono ?_
 rintro _ σ1 ⟨⟨mv,rfl,hM⟩,hf1⟩
 have hF:=hF1.trans hf1
 have hle1:σ.aj+1+1<=σ1.aj:=ag (by show _<=σ.aj+1+1+1;omega) hf1.le
 have hle2:σ.aj+1+1+1<=σ1.aj:=hf1.le
 have hM:yD σ1.h mv (uI a).length (λi=>[.int .i64 (ix (uI a) i)]) 1 3 (σ.aj+1+1+1) σ1.aj:=hM
 have q0:σ1.h σ.aj=some ⟨[x1,x2,x3,C,Av],none⟩:=hf1.get hF1.wf ((au _ _ _ _ jb).trans ((au _ _ _ _ jb).trans (aB _ _ _)))
 have q1:σ1.h (σ.aj+1)=some ⟨[tv],none⟩:=hf1.get hF1.wf ((au _ _ _ _ jb).trans (aB _ _ _))
 have q2:σ1.h (σ.aj+1+1)=some ⟨[.bg,.bg],none⟩:=hf1.get hF1.wf (aB _ _ _)
 have hMk:=hM.kn
 have ac3:=Fr.refl hF.wf
 simp(disch:=try exact jz) only[go_sem,z3,hMk,ak q0,h1,h2,h3,V3,h4,agV]
 refine bK.mono (Q:=λex tm σ'=>ex=.exit 0/\Tr.ah tm 3=.c (.ptr (σ.aj+1) 0)/\Tr.ah tm 4=.c (.ptr (σ.aj+1+1) 0)/\Tr.ah tm 5=.c (.ptr σ1.aj 0)/\Tr.ah tm 6=.c (.sl (σ1.aj+1) 0 cs.length (.ex cs.length))/\σ'.h σ1.aj=some ⟨[mv,.bg],none⟩/\σ'.h (σ1.aj+1)=some ⟨bU cs.length (lsS cs a 0).1,none⟩/\Fr σ1 σ'/\σ1.aj+1+1<=σ'.aj)
  (aF (λq tm σ'=>∃k,q=cs.length-k/\k<=cs.length/\Tr.ah tm 3=.c (.ptr (σ.aj+1) 0)/\Tr.ah tm 4=.c (.ptr (σ.aj+1+1) 0)/\Tr.ah tm 5=.c (.ptr σ1.aj 0)/\Tr.ah tm 6=.c (.sl (σ1.aj+1) 0 cs.length (.ex cs.length))/\Tr.ah tm 26=.c C/\Tr.ah tm 27=.c (.int .i64 (.ofNat cs.length))/\Tr.ah tm 28=.c (.int .i64 (.ofNat k))
   /\σ'.h σ1.aj=some ⟨[mv,.bg],none⟩/\σ'.h (σ1.aj+1)=some ⟨bU cs.length (λi=>if i<k then(ix cs i).a.q else 0),none⟩/\Fr σ1 σ'/\σ1.aj+1+1<=σ'.aj) cs.length ?_ ?_) ?_
 .refine⟨0,jb,jb,?_⟩
  simp(disch:=try exact jz) only[go_sem,z3,ap]
  refine⟨?_,fr,jb⟩
  congr 2
 .rintro q tm σ' ⟨k,rfl,hk,t3,t4,t5,t6,t26,t27,t28,p5,p6,hf,hnx⟩
  have hle:=hf.le
  simp(disch:=try exact jz) only[go_sem,z3,t3,t4,t5,t6,t26,t27,t28,aH]
  refine aJ (λhlt=>?_) (λhlt=>?_)
  .obtain⟨b5,o5,c5,rfl,-,bP⟩:=aZ.pos hC jb
   have bP:=(hF.trans hf).ld hW (bP k hlt)
   unfold c5B at bP
   have hfit:=nU (hO.fc k hlt) jj
   have hz:=Sz.zero.two
   have hraw:rq (ix cs k).a.n (ix cs k).a.s (ix cs k).a.d=(ix cs k).a.q:=rfl
   simp(disch:=try exact jz) only[go_sem,z3,t3,t4,t5,t6,t26,t27,t28,bP,hfit,hz,hraw,cF,aI p6,p6]
   refine⟨cs.length-(k+1),jb,k+1,rfl,jb,rfl,p5,?_,fr,jb⟩
   exact bM (λl=>some (Bk.mk l none)) (nR cs.length k λi=>(ix cs i).a.q)
  .have:k=cs.length:=jb
   subst this
   simp(disch:=try exact jz) only[go_sem,z3,ap]
   refine⟨t3,t4,t5,t6,p5,?_,hf,hnx⟩
   rw[p6]
   congr 2
   exact dI λi hi=>ae hi
 rintro _ tm σ2 ⟨rfl,t3,t4,t5,t6,p5,p6,hf2,hnx2⟩
 have hF2:=hF.trans hf2
 have q1:=hf2.get hF.wf q1
 have q2:=hf2.get hF.wf q2
 have hle3:=hf2.le
 simp(disch:=try exact jz) only[go_sem,z3,t3,t4,t5,t6,ak q1,hTk,asQ]
 refine bK.mono (Q:=λex tm σ'=>ex=.exit 2/\∃lb U,Tr.ah tm 4=.c (.ptr (σ.aj+1+1) 0)/\Tr.ah tm 5=.c (.ptr σ1.aj 0)/\Tr.ah tm 6=.c (.sl (σ1.aj+1) 0 cs.length (.ex cs.length))/\σ'.h σ1.aj=some ⟨[mv,aQ a.length lb],none⟩/\σ'.h (σ1.aj+1)=some ⟨bU cs.length (lsA cs a).1,none⟩/\YU U (λi=>ix (qI cs a).2 i) σ'.h lb a.length σ2.aj σ'.aj/\aP [σ1.aj,σ1.aj+1] σ2 σ')
  (aF (λq tm σ'=>∃j lb U,q=a.length-j/\j<=a.length/\Tr.ah tm 4=.c (.ptr (σ.aj+1+1) 0)/\Tr.ah tm 5=.c (.ptr σ1.aj 0)/\Tr.ah tm 6=.c (.sl (σ1.aj+1) 0 cs.length (.ex cs.length))/\Tr.ah tm 42=.c tv/\Tr.ah tm 43=.c (.int .i64 (.ofNat a.length))/\Tr.ah tm 44=.c (.int .i64 (.ofNat j))
   /\σ'.h σ1.aj=some ⟨[mv,aQ j lb],none⟩/\σ'.h (σ1.aj+1)=some ⟨bU cs.length (lsS cs a j).1,none⟩/\YU U (λi=>ix (qI cs a).2 i) σ'.h lb j σ2.aj σ'.aj/\aP [σ1.aj,σ1.aj+1] σ2 σ') a.length ?_ ?_) ?_
 .refine⟨0,σ2.aj,λ_=>.bg,jb,jb,?_⟩
  simp(disch:=try exact jz) only[go_sem,z3,t4,t5,t6,ap]
  exact⟨p5,p6,NF.nil (SL _ _),aP.refl hf2.wf⟩
 .rintro q tm σ' ⟨j,lb,U,rfl,hj,t4,t5,t6,t42,t43,t44,p5,p6,hN,hf⟩
  have hle:=hf.le
  simp(disch:=try exact jz) only[go_sem,z3,t4,t5,t6,t42,t43,t44,aH]
  refine aJ (λhlt=>?_) (λhlt=>?_)
  .obtain⟨b6,o6,c6,rfl,P1,bJ,hP1⟩:=hT.at hlt
   have hb6:=hW.dw bJ
   have bJ:=hf.ld hf2.wf (by simp;omega) (hF2.ld hW bJ)
   have auX:=aZ.kn hP1
   have agW:=aZ.len hP1
   have hnt:=hO.nt j hlt
   have hfp:=hO.fp j hlt
   have hpp:=hO.p _ (kN hlt)
   have hS:=agS (cs:=cs) hlt
   have hS2:=SN (cs:=cs) (a:=a) (i:=j) (bO j) hlt
   have hL:ix (qI cs a).2 j=(zK (lsS cs a j).1 (ix a j) (ix a j).length).2:=by unfold qI;rw[<-Gj];have h9:=zL cs a a.length jp;show ix ((lsS cs a a.length).2++[_]) j=_;rw[zI _ _ jb];exact SN hlt jp
   have hSP:=apA hPc hO.c hO.p j
   clear hS2
   generalize (lsS cs a j).1=f at*
   generalize ix a j=r at*
   simp(disch:=try exact jz) only[go_sem,z3,t4,t5,t6,t42,t43,t44,bJ,auX,agW]
   refine bK.mono (Q:=λex tm σ4=>ex=.exit 4/\∃bs,Tr.ah tm 4=.c (.ptr (σ.aj+1+1) 0)/\Tr.ah tm 5=.c (.ptr σ1.aj 0)/\Tr.ah tm 6=.c (.sl (σ1.aj+1) 0 cs.length (.ex cs.length))/\Tr.ah tm 11=.c (.ptr σ'.aj 0)/\Tr.ah tm 42=.c (.sl b6 o6 a.length c6)/\Tr.ah tm 43=.c (.int .i64 (.ofNat a.length))/\Tr.ah tm 44=.c (.int .i64 (.ofNat j))
     /\σ4.h (σ1.aj+1)=some ⟨bU cs.length (zK f r r.length).1,none⟩/\TS σ4 σ'.aj bs (zK f r r.length).2/\aP [σ1.aj+1] σ' σ4)
    (aF (λq tm σ4=>∃l bs,q=r.length-l/\l<=r.length/\Tr.ah tm 4=.c (.ptr (σ.aj+1+1) 0)/\Tr.ah tm 5=.c (.ptr σ1.aj 0)/\Tr.ah tm 6=.c (.sl (σ1.aj+1) 0 cs.length (.ex cs.length))/\Tr.ah tm 11=.c (.ptr σ'.aj 0)/\Tr.ah tm 42=.c (.sl b6 o6 a.length c6)/\Tr.ah tm 43=.c (.int .i64 (.ofNat a.length))/\Tr.ah tm 44=.c (.int .i64 (.ofNat j))/\Tr.ah tm 48=.c P1/\Tr.ah tm 49=.c (.int .i64 (.ofNat r.length))/\Tr.ah tm 50=.c (.int .i64 (.ofNat l))
     /\σ4.h (σ1.aj+1)=some ⟨bU cs.length (zK f r l).1,none⟩/\TS σ4 σ'.aj bs (zK f r l).2/\aP [σ1.aj+1] σ' σ4) r.length ?_ ?_) ?_
   .refine⟨0,σ'.aj+1,jb,jb,?_⟩
    have jQ:=Fr.refl hf.wf
    simp(disch:=try exact jz) only[go_sem,z3,t4,t5,t6,t42,t43,t44,ap]
    refine⟨?_,⟨?_,rfl,bO _,.inl rfl⟩,Fr.ex (fr) _⟩
    .exact p6
    .rw[aB];rfl
   .rintro q tm σ4 ⟨l,bs,rfl,hl,t4,t5,t6,t11,t42,t43,t44,t48,t49,t50,p64,Xi,hf4⟩
    have yH:=hf4.le
    have asR:=Xi.lt hf4.wf
    simp(disch:=try exact jz) only[go_sem,z3,t4,t5,t6,t11,t42,t43,t44,t48,t49,t50,aH]
    refine aJ (λOm=>?_) (λOm=>?_)
    .obtain⟨b7,o7,c7,rfl,-,dh⟩:=aZ.pos hP1 jb
     have dh:=dh l Om
     have hb7:=hW.dw dh
     have dh:=hf4.ld hf.wf (by simp;omega) (hf.ld hf2.wf (by simp;omega) (hF2.ld hW dh))
     unfold Jb at dh
     have hfit:=nU (hfp l Om) jj
     have hz:=Sz.zero.two
     have hx:=hpp _ (kN Om)
     have hok:=apz hPc hSP hpp l
     have hsz:=SQ hA hok.2 (by rw[JL f r l hl];omega)
     have hll:=JL f r l hl
     have hsucc:=VZ (f:=f) Om
     have hraw:rq (ix r l).a.n (ix r l).a.s (ix r l).a.d=(ix r l).a.q:=rfl
     have hkl:∀b,b<σ'.aj->b<σ4.aj:=λb hb=>aD hb yH
     have avO:=hf4.wf.lt p64
     by_cases hk1:(ix r l).k=Int.negSucc 0
     .have hS1:zK f r (l+1)=((zK f r l).1,(zK f r l).2++[(Int.negSucc 0,(ix r l).a.q)]):=by rw[hsucc];unfold lpS;rw[ae (show(ix r l).k=-1 from hk1)];rfl
      have hqz:=Na hA (hx.2 (.inl hk1))
      have Em:=Fr.refl hf4.wf
      simp(disch:=try exact jz) only[go_sem,z3,t4,t5,t6,t11,t42,t43,t44,t48,t49,t50,dh,hk1,hfit,hz,hraw,cF]
      refine aC.st (Fr σ4) (fr) λgZ=>?_
      have apC:=Xi.fr hf4.wf gZ
      refine(YT gZ.wf apC jb _ _ hsz hqz).mono ?_
      rintro _ σ6 ⟨⟨bs',agX⟩,hlo,hW6,yI⟩
      have yI:σ4.aj+1<=σ6.aj:=yI
      simp(disch:=try exact jz) only[go_sem,z3,t4,t5,t6,t11,t42,t43,t44,t48,t49,t50]
      refine⟨r.length-(l+1),jb,l+1,bs',rfl,jb,rfl,?_,?_,?_⟩
      .rw[hS1,hlo _ jb,gZ.old _ jb];exact p64
      .rw[hS1];exact agX
      .exact⟨jb,hW6,λb hb hn=>by rw[hlo b hb,gZ.old b jb];exact hf4.old b hb hn⟩
     .obtain⟨kk,hkk,hkn⟩:∃kk:Nat,(ix r l).k=Int.ofNat kk/\kk<cs.length:=by
       rcases hx.1 with h|⟨ha,hb⟩
       .exact absurd h hk1
       .exact⟨(ix r l).k.toNat,(eV ha).symm,jb⟩
      have Em:=Fr.refl hf4.wf
      have hcz:=Na hA (hok.1 kk)
      have hcz2:=hcz.two
      have hxc:=hx.2
      have fin:∀(cq:Rat){s5:St},Sz cq->(zK f r (l+1))=(aT (zK f r l).1 kk ((zK f r l).1 kk-cq),(zK f r l).2++[(Int.ofNat kk,cq)])->aP [σ1.aj+1] σ4 s5->s5.h (σ1.aj+1)=some ⟨bU cs.length (aT (zK f r l).1 kk ((zK f r l).1 kk-cq)),none⟩->∀{K:V->St->Prop},(∀v σ6 bs',σ6.h (σ1.aj+1)=some ⟨bU cs.length (zK f r (l+1)).1,none⟩->TS σ6 σ'.aj bs' (zK f r (l+1)).2->aP [σ1.aj+1] σ' σ6->K v σ6)->
        aC EN 93 [.c (.ptr σ'.aj 0),.c (.int .i64 (.ofNat kk)),.agg [.bool (rn cq),.str (rs cq),.str (rd cq)]] s5 K:=λcq s5 hcq hS1 gZ h5 K hK=>by
       have apC:=Xi.fre hf4.wf gZ (by simp;omega)
       refine(YT gZ.wf apC jb _ _ hsz hcq).mono ?_
       rintro v σ6 ⟨⟨bs',agX⟩,hlo,hW6,yI⟩
       have yJ:=gZ.le
       refine hK v σ6 bs' ?_ (by rw[hS1];exact agX) ⟨jb,hW6,λb hb hn=>?_⟩
       .rw[hlo _ jb,h5,hS1]
       .rw[hlo b hb,gZ.old b jb hn];exact hf4.old b hb hn
      by_cases hb:(ix r l).b=true
      .have hS1:zK f r (l+1)=(aT (zK f r l).1 kk ((zK f r l).1 kk-iC ((zK f r l).1 kk) (ix r l).a.q),(zK f r l).2++[(Int.ofNat kk,iC ((zK f r l).1 kk) (ix r l).a.q)]):=by rw[hsucc,agR (show¬(ix r l).k=-1 from hk1) hkk,hb];rfl
       have hmz:=Na hA (hPc.min _ _ (hok.1 kk) (hx.2 (.inr hb)))
       simp(disch:=try exact jz) only[go_sem,z3,t4,t5,t6,t11,t42,t43,t44,t48,t49,t50,dh,hkk,nS,hb,hfit,hcz2,hraw,apB,ak p64,aI p64,p64]
       refine fin _ hmz hS1 (by have hFe:=aP.refl (ex:=[σ1.aj+1]) hf4.wf;repeat(first|assumption|exact aP.refl (by assumption)|exact aP.up (by assumption) kf|exact aP.up (aP.refl (by assumption)) kf|refine aP.set1 ?_ kg kf|refine aP.jV ?_ kg|refine aP.mG ?_ kg|refine aP.nG ?_ kf)) (aB _ _ _) λv σ6 bs' h1 h2 h3=>?_
       simp(disch:=try exact jz) only[go_sem,z3,t4,t5,t6,t11,t42,t43,t44,t48,t49,t50]
       exact⟨r.length-(l+1),jb,l+1,bs',rfl,jb,rfl,h1,h2,h3⟩
      .have hb:(ix r l).b=false:=by simpa using hb
       have hS1:zK f r (l+1)=(aT (zK f r l).1 kk ((zK f r l).1 kk-(zK f r l).1 kk),(zK f r l).2++[(Int.ofNat kk,(zK f r l).1 kk)]):=by rw[hsucc,agR (show¬(ix r l).k=-1 from hk1) hkk,hb];rfl
       simp(disch:=try exact jz) only[go_sem,z3,t4,t5,t6,t11,t42,t43,t44,t48,t49,t50,dh,hkk,nS,hb,hfit,hcz2,hraw,ak p64,aI p64,p64]
       refine fin _ hcz hS1 (by have hFe:=aP.refl (ex:=[σ1.aj+1]) hf4.wf;repeat(first|assumption|exact aP.refl (by assumption)|exact aP.up (by assumption) kf|exact aP.up (aP.refl (by assumption)) kf|refine aP.set1 ?_ kg kf|refine aP.jV ?_ kg|refine aP.mG ?_ kg|refine aP.nG ?_ kf)) (aB _ _ _) λv σ6 bs' h1 h2 h3=>?_
       simp(disch:=try exact jz) only[go_sem,z3,t4,t5,t6,t11,t42,t43,t44,t48,t49,t50]
       exact⟨r.length-(l+1),jb,l+1,bs',rfl,jb,rfl,h1,h2,h3⟩
    .have:l=r.length:=jb
     subst this
     simp(disch:=try exact jz) only[go_sem,z3,ap]
     exact⟨bs,t4,t5,t6,t11,t42,t43,t44,p64,Xi,hf4⟩
   .rintro _ tm σ4 ⟨rfl,bs,t4,t5,t6,t11,t42,t43,t44,p64,Xi,hf4⟩
    have yH:=hf4.le
    have hlb:=hN.l1
    have Nb:=hN.l2
    have asR:=Xi.lt hf4.wf
    have awh:aP [σ1.aj,σ1.aj+1] σ2 σ4:=hf.to' hf4 kc
    have p54:=hf4.get hf.wf kc p5
    have hN4:=NF.mono hN (λj _=>SK _ _ j) (λb h1 h2=>hf4.old b h2 (by simp;omega)) jp
    have hg4:=hN4.g
    have hLG:=SL U λi=>ix (qI cs a).2 i
    have hTb:=Xi.b
    unfold jA at hTb
    simp(disch:=try exact jz) only[go_sem,z3,t4,t5,t6,t11,t42,t43,t44,ak p54,ak hTb,p54,hg4,hMk]
    refine⟨a.length-(j+1),jb,j+1,σ4.aj+1,aT U j (aQ (zK f r r.length).2.length bs),rfl,jb,rfl,rfl,by rw[p64,hS],?_,?_⟩
    .refine hN.push (U:=U) hf4.wf hL Xi jp jb (λb h1 h2=>hf4.old b h2 (by simp;omega)) jb jb ?_ λc h1 h2 h3=>?_
     .rw[au _ _ _ _ jb,aB];rfl
     .rw[au _ _ _ _ jb,au _ _ _ _ jb,gI _ _ _ _ h3,au _ _ _ _ jb]
    .repeat(first|assumption|exact aP.refl (by assumption)|exact aP.up (by assumption) kf|exact aP.up (aP.refl (by assumption)) kf|refine aP.set1 ?_ kg kf|refine aP.jV ?_ kg|refine aP.mG ?_ kg|refine aP.nG ?_ kf)
  .have:j=a.length:=jb
   subst this
   simp(disch:=try exact jz) only[go_sem,z3,ap]
   exact⟨lb,U,t4,t5,t6,p5,by rw[<-Gj];exact p6,hN,hf⟩
 rintro _ tm σ3 ⟨rfl,lb,U,t4,t5,t6,p5,p6,hN,hf3⟩
 have hF3:Fr σ σ3:=hf3.to hF2 (by simp;omega)
 have yH:=hf3.le
 have q23:=hf3.get hf2.wf (by simp;omega) q2
 have hP:∀t∈a,∀x∈t,x.k=-1\/0<=x.k/\x.k<cs.length:=λt ht x hx=>(hO.p t ht x hx).1
 have hM3:yD σ3.h mv (lH a).length (λi=>[Oh (lH a) i]) 1 3 (σ.aj+1+1+1) σ1.aj:=by
  rw[MX];refine yD.congr (yD.mono hM (λb h1 h2=>?_) jp jp) λi hi=>by rw[ak3 hP hi]
  rw[hf3.old b jb (by simp;omega),hf2.old b h2]
 have hMl:=hM3.len
 have hMm:YI (λb=>σ.aj+1+1+1<=b/\b<σ1.aj) σ3.h mv (lH a):=yD.hlp hM3 (λ_=>rfl) jj (λ_ _=>rfl) λb h1 h2=>⟨h1,h2⟩
 have hml:=Ej hP
 have agY:=Fr.refl hF3.wf
 have awi:=hF3.wf.lt p6
 have hAc:=(agG (n:=cs.length) hPc hO.c hO.p).1
 simp(disch:=try exact jz) only[go_sem,z3,t4,t5,t6,ak p5,hMk,hMl]
 refine bK.mono (Q:=λex tm σ4=>ex=.exit 6/\∃bs,Tr.ah tm 4=.c (.ptr (σ.aj+1+1) 0)/\Tr.ah tm 5=.c (.ptr σ1.aj 0)/\Tr.ah tm 15=.c (.ptr σ3.aj 0)/\TS σ4 σ3.aj bs (xR (lH a) (lsA cs a).1)/\Fr σ3 σ4)
  (aF (λq tm σ4=>∃i bs,q=(lH a).length-i/\i<=(lH a).length/\Tr.ah tm 4=.c (.ptr (σ.aj+1+1) 0)/\Tr.ah tm 5=.c (.ptr σ1.aj 0)/\Tr.ah tm 6=.c (.sl (σ1.aj+1) 0 cs.length (.ex cs.length))/\Tr.ah tm 15=.c (.ptr σ3.aj 0)/\Tr.ah tm 97=.c mv/\Tr.ah tm 98=.c (.int .i64 (.ofNat (lH a).length))/\Tr.ah tm 99=.c (.int .i64 (.ofNat i))/\TS σ4 σ3.aj bs (xR ((lH a).take i) (lsA cs a).1)/\Fr σ3 σ4) (lH a).length ?_ ?_) ?_
 .refine⟨0,σ3.aj+1,jb,jb,?_⟩
  simp(disch:=try exact jz) only[go_sem,z3,t4,t5,t6,ap]
  exact⟨⟨aB _ _ _,rfl,bO _,.inl rfl⟩,fr⟩
 .rintro q tm σ4 ⟨i,bs,rfl,hi,t4,t5,t6,t15,t97,EH,Dy,Xi,hf4⟩
  have yJ:=hf4.le
  simp(disch:=try exact jz) only[go_sem,z3,t4,t5,t6,t15,t97,EH,Dy,aH]
  refine aJ (λhlt=>?_) (λhlt=>?_)
  .obtain⟨b8,o8,c8,rfl,mY⟩:=(hMm.hc).pos jb
   have mY:=hf4.ld hF3.wf (mY i hlt)
   unfold Oh at mY
   have hmi:=kN hlt
   have hin:ix (lH a) i<cs.length:=by have h1:=(wE hP).mp hmi;have:=rQ hP ((ix (lH a) i:Nat):Int) (pI.mpr ⟨jb,h1⟩);omega
   have p64:=hf4.get hF3.wf p6
   have hll:(xR ((lH a).take i) (lsA cs a).1).length=i:=by unfold xR;rw[cV,cW];omega
   have hsz:Sz (aU (xR ((lH a).take i) (lsA cs a).1)):=SQ (n:=cs.length) hA (λp hp=>by obtain⟨k,hk,rfl⟩:=cU.mp hp;have h1:=(wE hP).mp (du hk);exact⟨.inr (rQ hP k (pI.mpr ⟨jb,h1⟩)),hAc k⟩) jb
   have hcz:=Na hA (hAc (ix (lH a) i))
   simp(disch:=try exact jz) only[go_sem,z3,t4,t5,t6,t15,t97,EH,Dy,mY,ak p64]
   refine(YT hf4.wf Xi jb _ _ hsz hcz).mono ?_
   rintro _ σ6 ⟨⟨bs',agX⟩,hlo,hW6,yI⟩
   simp(disch:=try exact jz) only[go_sem,z3,t4,t5,t6,t15,t97,EH,Dy]
   refine⟨(lH a).length-(i+1),jb,i+1,bs',rfl,jb,rfl,by rw[ac2 _ _ hlt];exact agX,jb,hW6,λb hb=>by rw[hlo b hb];exact hf4.old b hb⟩
  .have:i=(lH a).length:=jb
   subst this
   simp(disch:=try exact jz) only[go_sem,z3,ap]
   exact⟨bs,t4,t5,t15,by rw[bX]at Xi;exact Xi,hf4⟩
 rintro _ tm σ4 ⟨rfl,bs,t4,t5,t15,Xi,hf4⟩
 have yJ:=hf4.le
 have hlb:=hN.l1
 have Nb:=hN.l2
 have asR:=Xi.lt hf4.wf
 have p54:=hf4.get hF3.wf p5
 have q24:=hf4.get hF3.wf q23
 have hN4:=NF.mono hN (λj _=>SK _ _ j) (λb h1 h2=>hf4.old b h2) jp
 have hg4:=hN4.g
 have hLG:=SL U λi=>ix (qI cs a).2 i
 have hTb:=Xi.b
 have hL:ix (qI cs a).2 a.length=xR (lH a) (lsA cs a).1:=by
  have h9:=zL cs a a.length jp;rw[Gj]at h9;unfold qI;conv=>lhs;rw[<-h9]
  exact zJ _ _
 have wK:=hF3.trans hf4
 unfold jA at hTb
 simp(disch:=try exact jz) only[go_sem,z3,t4,t5,t15,ak p54,ak hTb,p54,hg4,hMk,aI q24,q24]
 have hN5:=hN.push (U:=U) (n':=σ4.aj+1+1) (nx:=σ4.aj+1) hf4.wf hL Xi jp jb (λb h1 h2=>hf4.old b h2) jb jb (h':=hset (hset (hset (jV a.length (hset σ4.h σ4.aj ⟨[aQ (xR (lH a) (lsA cs a).1).length bs,.bool (rn (aU (xR (lH a) (lsA cs a).1))),.str (rs (aU (xR (lH a) (lsA cs a).1))),.str (rd (aU (xR (lH a) (lsA cs a).1)))],none⟩) lb) (σ4.aj+1) ⟨dF a.length (VY U λi=>ix (qI cs a).2 i)++[aQ (xR (lH a) (lsA cs a).1).length bs,.bool (rn (aU (xR (lH a) (lsA cs a).1))),.str (rs (aU (xR (lH a) (lsA cs a).1))),.str (rd (aU (xR (lH a) (lsA cs a).1)))],some (4,157)⟩) σ1.aj ⟨[mv,.sl (σ4.aj+1) 0 (a.length+1) .opn],none⟩) (σ.aj+1+1) ⟨[mv,.sl (σ4.aj+1) 0 (a.length+1) .opn],none⟩)
  (by rw[au _ _ _ _ jb,au _ _ _ _ jb,aB];rfl) (λc h1 h2 h3=>by rw[au _ _ _ _ jb,au _ _ _ _ jb,au _ _ _ _ jb,gI _ _ _ _ h3,au _ _ _ _ jb])
 have hll:(qI cs a).2.length=a.length+1:=by have h9:=zL cs a a.length jp;rw[Gj]at h9;unfold qI;show((lsA cs a).2++[_]).length=_;rw[aR,h9];rfl
 refine⟨⟨_,_,rfl,?_,?_⟩,fr⟩
 .refine aZ.keep hMm (λb hb=>?_) λb hb=>⟨jb,by show b<σ4.aj+1+1;omega⟩
  rw[au _ _ _ _ jb,au _ _ _ _ jb,au _ _ _ _ jb,gI _ _ _ _ jb,au _ _ _ _ jb,hf4.old b jb]
 .exact(hN5.apx hll λi _=>rfl).keep (λ_ _=>rfl) λb hb=>⟨jb,hb.2⟩
def rkG(cs:List C5)(bs:Nat->Nat)(k r:Nat):List B:=jA (aQ (xZ cs r k).length (bs r)) (aU (xZ cs r k))
structure RkS(σ:St)(rb:Nat)(bs:Nat->Nat)(cs:List C5)(k lo:Nat):Prop where
 b:σ.h rb=some ⟨dF 8 (rkG cs bs k),none⟩
 o:∀r,r<8->MR σ.h (bs r) (xZ cs r k)
 l:∀r,r<8->(xZ cs r k).length=0\/lo<=bs r/\bs r<σ.aj
 i:∀r r',r<8->r'<8->r≠r'->(xZ cs r k).length=0\/(xZ cs r' k).length=0\/bs r≠bs r'
def RkS.on{σ σ':St}{rb lo k:Nat}{bs:Nat->Nat}{cs:List C5}(h:RkS σ rb bs cs k lo)(hrb:σ'.h rb=σ.h rb)(hf:∀b,lo<=b->b<σ.aj->σ'.h b=σ.h b)(hle:σ.aj<=σ'.aj):RkS σ' rb bs cs k lo:=by
 refine⟨by rw[hrb];exact h.b,λr hr=>?_,λr hr=>by have:=h.l r hr;omega,h.i⟩;refine(uH ?_).trans (h.o r hr);rcases h.l r hr with h1|h1
 .omega
 grind
theorem RkS.fr{σ σ':St}{rb lo k:Nat}{bs:Nat->Nat}{cs:List C5}(h:RkS σ rb bs cs k lo)(hrb:rb<σ.aj)(hf:Fr σ σ'):RkS σ' rb bs cs k lo:=h.on (hf.old _ hrb) (λb _ hb=>hf.old b hb) hf.le
def apD{σ:St}(hW:WF σ){rb lo k r:Nat}{bs:Nat->Nat}{cs:List C5}(h:RkS σ rb bs cs k lo)(hrb:rb<lo)(hlo:lo<=σ.aj)(hr:r<8)(hk:(ix cs k).r=(r:Int))(hk1:k<=1000000)(hs:Sz (aU (xZ cs r k)))(hq:Sz (ix cs k).a.q):
  aC EN 93 [.c (.ptr rb (r*4)),.c (.int .i64 (.ofNat k)),.agg [.bool (rn (ix cs k).a.q),.str (rs (ix cs k).a.q),.str (rd (ix cs k).a.q)]] σ λ_ σ'=>(∃bs',RkS σ' rb bs' cs (k+1) lo)/\(∀b,b<σ.aj->b≠rb->(xZ cs r k).length=0\/b≠bs r->σ'.h b=σ.h b)/\WF σ'/\σ.aj<=σ'.aj:=by
 have hl:=h.l r hr
 have hlen:=JM cs r k
 obtain⟨b0,hb0,hb1⟩:∃b0,(∀c,aQ (xZ cs r k).length c=aQ (xZ cs r k).length b0\/c≠bs r)/\((xZ cs r k).length=0/\b0=rb\/0<(xZ cs r k).length/\b0=bs r):=by
  by_cases e:(xZ cs r k).length=0
  .exact⟨rb,λc=>.inl (by rw[e];rfl),.inl ⟨e,rfl⟩⟩
  .exact⟨bs r,λc=>by grind,.inr ⟨jb,rfl⟩⟩
 have hT:MR σ.h b0 (xZ cs r k):=by
  have:=h.o r hr;unfold MR at this⊢;rw[<-this];rcases hb1 with⟨e,-⟩|⟨-,e⟩
  .rw[e];rfl
  .rw[e]
 have hGr:rkG cs bs k r=jA (aQ (xZ cs r k).length b0) (aU (xZ cs r k)):=by grind[rkG]
 refine(agC hW h.b hr (λ_=>rfl) rfl rfl hGr hT jb jb jb k _ hs hq).mono ?_
 rintro _ σ' ⟨nx,h1,h2,h3,h4,h5⟩
 have hle:=h5.le
 have e1:xZ cs r (k+1)=xZ cs r k++[((k:Int),(ix cs k).a.q)]:=by grind[xZ]
 have e2:∀r',r'≠r->xZ cs r' (k+1)=xZ cs r' k:=λr' hne=>by grind[xZ]
 refine⟨⟨aT bs r nx,?_,λr' hr'=>?_,λr' hr'=>?_,λa b ha hb hab=>?_⟩,λb hb hne hn2=>h5.old b hb ?_,h5.wf,hle⟩
 .rw[h3]
  congr 2
  refine dO λr' hr'=>?_
  unfold kJ rkG
  by_cases e:r'=r
  .subst e
   rw[ae rfl,aS,e1,PI,aR];rfl
  grind[aW]
 .by_cases e:r'=r
  .subst e
   rw[aS,e1]
   unfold MR
   rw[aR,dE]
   show σ'.h nx=some _
   grind[Go.Proofs.Xe.vM,Go.Proofs.Xe.dO,Go.Proofs.Xe.kJ,Go.Proofs.Xe.zJ,Go.Proofs.Xe.zI]
  .rw[aW _ _ _ _ e,e2 r' e]
   refine(uH ?_).trans (h.o r' hr')
   have h6:=h.l r' hr'
   have h7:=h.i r' r hr' hr e
   by_cases e0:(xZ cs r' k).length=0
   .exact .inl e0
   .refine .inr (h5.old _ jb ?_)
    simp;omega
 .by_cases e:r'=r
  .subst e;rw[aS];omega
  .rw[aW _ _ _ _ e,e2 r' e]
   have:=h.l r' hr';omega
 .by_cases ea:a=r
  .subst ea
   rw[aS,aW _ _ _ _ (Ne.symm hab),e2 b (Ne.symm hab)]
   have:=h.l b hb;omega
  .by_cases eb:b=r
   .subst eb
    rw[aS,aW _ _ _ _ ea,e2 a ea]
    have:=h.l a ha;omega
   .rw[aW _ _ _ _ ea,aW _ _ _ _ eb,e2 a ea,e2 b eb]
    exact h.i a b ha hb hab
 grind
def RkS.apx{σ:St}{rb lo:Nat}{bs:Nat->Nat}{cs:List C5}(h:RkS σ rb bs cs cs.length lo){p:Nat->Prop}(hp:p rb)(hp2:∀b,lo<=b->b<σ.aj->p b):xw p σ.h (.sl rb 0 8 (.ex 8)) (YK cs cs.length):=by
 have hix:∀r,r<8->ix (YK cs cs.length) r=xZ cs r cs.length:=λr hr=>by grind[YK,fJ]
 have h8:(YK cs cs.length).length=8:=by rfl
 refine⟨λr=>aQ (xZ cs r cs.length).length (bs r),?_,cI 8,λr hr=>?_⟩
 .rw[h8];refine(bf (G:=rkG cs bs cs.length) _ h.b rfl hp (λ_=>rfl) jj λr hr=>?_).congr λr hr=>by grind[rkG]
  grind[rkG,jA,Jt,QT,Jv]
 .rw[h8]at hr;rw[hix r hr];exact(h.o r hr).hlp (by rcases h.l r hr with h1|h1;exact .inl h1;grind)
structure agZ(A:Nat)(e:Bc):Prop where
 nc:e.c.length<=1000
 na:e.a.length<=1000
 r:∀k,k<e.c.length->∃r:Nat,r<8/\(ix e.c k).r=Int.ofNat r
 fc:∀k,k<e.c.length->(ix e.c k).a.fits 1000000
 c:∀k,Gi A (ix e.c k).a.q
 a:∀j,j<e.a.length->agU A e.c (ix e.a j)
def qp(e:Bc)(k:Nat):Rat:=aA k λi=>(ix e.c i).a.q
def aaS{A:Nat}{f:Nat->Rat}(hf:∀i,Gi A (f i)):∀n,dR A (aA n f)/\0<=aA n f/\aA n f<=(n:Rat)*uQ
 |0=>⟨dR.zero A,aM,by show(0:Rat)<=((0:Nat):Rat)*uQ;simp⟩
 |n+1=>by
  obtain⟨h1,h2,h3⟩:=aaS hf n;have h4:=hf n;rw[fw];have:((1:Nat):Rat)=1:=rfl;refine⟨h1.add h4.1,?_,?_⟩
  .show 0<=aA n f+f n;grind
  .show aA n f+f n<=_;grind
def apE{A:Nat}(hA:Ah A){f:Nat->Rat}(hf:∀i,Gi A (f i)){n:Nat}(hn:n<=10000):Sz (aA n f):=by obtain⟨h1,h2,h3⟩:=aaS hf n;have hU:=Ei (k:=10000) jj;have h4:(n:Rat)<=((10000:Nat):Rat):=bo.mpr hn;have h5:=bh h4 MW;exact(qj hA (gT A) h1 h2 kd).sz hA (by grind[tN])
def aaT(M L:Nat->B)(cs:List C5)(al:List iK)(p:Nat->Prop)(h:Tr Bk)(j:Nat):Prop:=YI p h (M j) (lH (ix al j))/\xw p h (L j) (qI cs (ix al j)).2
abbrev amO(M L:Nat->B)(cs:List C5)(al:List iK)(h:Tr Bk)(b n lo hi:Nat):Prop:=NF (aaT M L cs al) h b n (λj=>[M j,L j]) 2 160 lo hi
def JO(M L:Nat->B)(cs:List C5)(al:List iK)(j:Nat):QK (aaT M L cs al) j:=λ_ _ _ _ hp hk hq=>⟨aZ.keep hp.1 hk hq,hp.2.keep hk hq⟩
def YW(M L:Nat->B):LG (λj=>[M j,L j]) 2:=λ_=>rfl
def jS{E:Env}{f:Nat}{args:List V}{σ:St}{F:AF}{K:V->St->Prop}(ho:E.Uj f args σ=none)(hF:E.fns f=some F):aC E f args σ K=bK E F.body (ini args) σ (X0 F.res K):=by
 refine propext ⟨?_,aN ho hF⟩;rintro⟨n,v,σ',h1,h2⟩;cases n with
 |zero=>grind[iJ]
 |succ n=>
  rw[iJ]at h1
  unfold Fa at h1
  rw[ho,hF]at h1
  dsimp only at h1
  rw[XZ]at h1
  dsimp only at h1
  unfold abE at h1
  split at h1
  .next tm τ e=>
   split at h1
   .next u hu=>cases h1;exact⟨n,_,tm,_,e,_,hu,h2⟩
   grind
  .next tm τ e=>
   split at h1
   .next u hu=>cases h1;exact⟨n,_,tm,_,e,_,hu,h2⟩
   grind
  grind
section
variable (cO bH tm:Tr V) (σ:St) (res:List Rs) (pd:List iF)
def ag0(i:Nat)(us os:List Nat)(d:Option Nat)(g:Option (Nat×Bool))(bytes:Nat)(z:List B)(a c:O)(l:List DO)(K:St->List Rs->List iF->Prop):
  sO cO bH (⟨i,us,os,⟨d,g,.I4 bytes z a c⟩⟩::l) σ res pd K=match KF cO bH res us os with
   |some tm=>Ac g tm (match IK (a.ev tm),IK (c.ev tm)with
    |some n,some m=>(bif Nat.ble n m&&(Nat.ble (bytes*m) 281474976710656&&Nat.ble m 1073741824)then sO cO bH l ⟨hset σ.h σ.aj ⟨rep z m,none⟩,σ.aj+1⟩ (⟨i,d,.c (.sl σ.aj 0 n (.ex m))⟩::res) (⟨i,⟨d,g,.I4 bytes z a c⟩,tm,.c (.sl σ.aj 0 n (.ex m)),true,some σ.aj⟩::pd) K else False)
    |_,_=>False) (sO cO bH l σ (⟨i,d,.tnil⟩::res) (⟨i,⟨d,g,.I4 bytes z a c⟩,tm,.tnil,false,none⟩::pd) K)
   |none=>False:=by
 unfold sO Ac
 rw[wI]
 dsimp only
 cases KF cO bH res us os with
 |none=>rfl
 |some tm=>
  grind[uf.kind,l9,jv]
def YX(i:Nat)(d:Option Nat)(g9:Option (Nat×Bool))(bytes:Nat)(z:List B)(a c:O)(v:V)(b:Nat):again σ ⟨i,⟨d,g9,.I4 bytes z a c⟩,tm,v,true,some b⟩=match IK (a.ev tm),IK (c.ev tm)with
  |some n,some m=>(bif Nat.ble n m&&(Nat.ble (bytes*m) 281474976710656&&Nat.ble m 1073741824)then(match σ.h b with|some ⟨c,none⟩=>KE c (rep z m)|_=>false)else false)
  |_,_=>false:=by
 grind[again,uf.kind,l9]
end
def ag1(n:Nat)(f:Nat->Bool):(ones n λi=>.bool (f i)).all B.kn=true:=Ye λ_=>rfl
attribute [go_sem] ag0 YX ag1
def uP{E:Env}{a b:AC}{tm:Tr V}{σ:St}{Q:AX->Tr V->St->Prop}(P:Tr V->St->Prop)(h:bK E a tm σ λe tm' σ'=>e=.normal/\P tm' σ')(h2:∀tm' σ',P tm' σ'->bK E b tm' σ' Q):bK E (.seq a b) tm σ Q:=
 run_seq (h.mono (by rintro _ tm' σ' ⟨rfl,hp⟩;exact h2 _ _ hp))
def Nc{E:Env}{a b c:AC}{tm:Tr V}{σ:St}{Q:AX->Tr V->St->Prop}(P:Tr V->St->Prop)(h:bK E a tm σ (QN E b λe tm' σ'=>e=.normal/\P tm' σ'))(h2:∀tm' σ',P tm' σ'->bK E c tm' σ' Q):bK E (.seq a (.seq b c)) tm σ Q:=
 run_seq (h.mono λe tm' σ' he=>by
  cases e with
  |normal=>exact uP P he h2
  |exit i=>cases he.1
  |ret=>cases he.1)
def Gn{E:Env}{b:AC}{tm:Tr V}{σ:St}{Q:AX->Tr V->St->Prop}(h:bK E b tm σ Q):bK E .skip tm σ (QN E b Q):=UG h
def asT{σ:St}(hW:WF σ){p p':Nat->Prop}{x1 x2 x3 C Av:B}{e:Bc}(hC:FQ p σ.h C e.c)(hA:mJ p' σ.h Av e.a)(h1:x1.kn=true)(h2:x2.kn=true)(h3:x3.kn=true){A:Nat}(hD:Ah A)(hO:agZ A e):
  aC EN 54 [.agg [x1,x2,x3,C,Av]] σ λr σ'=>(∃rv pv,r=.agg (je e.c.length rv pv (qp e e.c.length))/\xA (λb=>σ.aj<=b/\b<σ'.aj) σ'.h rv pv (dB e))/\Fr σ σ':=by
 refine aN (sS.o _ _) sS.h ?_
 unfold sS
 dsimp only
 have V3:=aZ.kn hC
 have hAk:=hA.kn
 have agV:=aZ.len hC
 have hlenA:=hA.len
 have hnc:=hO.nc
 have hna:=hO.na
 have hFr:=Fr.refl hW
 simp(disch:=try exact jz) only[go_sem,z3,h1,h2,h3,V3,hAk,agV]
 refine bK.mono (Q:=λex tm σ'=>ex=.exit 0/\∃bs,Tr.ah tm 1=.c (.ptr σ.aj 0)/\Tr.ah tm 2=.c (.ptr (σ.aj+1) 0)/\Tr.ah tm 3=.c (.ptr (σ.aj+1+1+1) 0)
   /\σ'.h σ.aj=some ⟨[x1,x2,x3,C,Av],none⟩/\σ'.h (σ.aj+1)=some ⟨[.int .i64 (.ofNat 0),.bg,.bg,.bool (rn 0),.str (rs 0),.str (rd 0)],none⟩/\σ'.h (σ.aj+1+1+1)=some ⟨je e.c.length (.sl (σ.aj+1+1) 0 8 (.ex 8)) .bg (qp e e.c.length),none⟩/\RkS σ' (σ.aj+1+1) bs e.c e.c.length (σ.aj+1+1+1+1)/\Fr σ σ'/\σ.aj+1+1+1+1<=σ'.aj)
  (aF (λq tm σ'=>∃k bs,q=e.c.length-k/\k<=e.c.length/\Tr.ah tm 1=.c (.ptr σ.aj 0)/\Tr.ah tm 2=.c (.ptr (σ.aj+1) 0)/\Tr.ah tm 3=.c (.ptr (σ.aj+1+1+1) 0)/\Tr.ah tm 15=.c C/\Tr.ah tm 16=.c (.int .i64 (.ofNat e.c.length))/\Tr.ah tm 17=.c (.int .i64 (.ofNat k))
   /\σ'.h σ.aj=some ⟨[x1,x2,x3,C,Av],none⟩/\σ'.h (σ.aj+1)=some ⟨[.int .i64 (.ofNat 0),.bg,.bg,.bool (rn 0),.str (rs 0),.str (rd 0)],none⟩/\σ'.h (σ.aj+1+1+1)=some ⟨je e.c.length (.sl (σ.aj+1+1) 0 8 (.ex 8)) .bg (qp e k),none⟩/\RkS σ' (σ.aj+1+1) bs e.c k (σ.aj+1+1+1+1)/\Fr σ σ'/\σ.aj+1+1+1+1<=σ'.aj) e.c.length ?_ ?_) ?_
 .refine⟨0,λ_=>0,jb,jb,?_⟩
  simp(disch:=try exact jz) only[go_sem,z3,ap]
  refine⟨rfl,⟨?_,λr hr=>rfl,λr hr=>.inl rfl,λr r' _ _ _=>.inl rfl⟩,fr,jb⟩
  simp(disch:=omega) only[au,aB];rfl
 .rintro q tm σ' ⟨k,bs,rfl,hk,t1,t2,t3,t15,t16,t17,q0,q1,q3,hR,hf,hnx⟩
  have hle:=hf.le
  simp(disch:=try exact jz) only[go_sem,z3,t1,t2,t3,t15,t16,t17,aH]
  refine aJ (λhlt=>?_) (λhlt=>?_)
  .obtain⟨b5,o5,c5,rfl,-,bP⟩:=aZ.pos hC jb
   have bP:=hf.ld hW (bP k hlt)
   unfold c5B at bP
   have hfit:=nU (hO.fc k hlt) jj
   have hz:=Sz.zero.two
   have hraw:rq (ix e.c k).a.n (ix e.c k).a.s (ix e.c k).a.d=(ix e.c k).a.q:=rfl
   obtain⟨r,hr,hrk⟩:=hO.r k hlt
   have hqz:=Na hD (hO.c k)
   have jQ:=Fr.refl hf.wf
   have hrb:=hR.b
   have hlb:σ.aj+1+1+1<σ'.aj:=jb
   unfold je at q3
   simp(disch:=try exact jz) only[go_sem,z3,t1,t2,t3,t15,t16,t17,bP,hfit,hz,hraw,hrk,cF,ak q3]
   refine aC.st (Fr σ') (fr) λgZ=>?_
   have hsz:Sz (aU (xZ e.c r k)):=SQ (n:=e.c.length) hD (λp hp=>by have:=MS (P:=Gi A) (λi _=>hO.c i) r k hk p hp;grind) (by grind[JM])
   refine(apD gZ.wf (hR.fr jb gZ) jb kd hr hrk jb hsz hqz).mono ?_
   rintro _ σ6 ⟨⟨bs',hR6⟩,hlo,hW6,yI⟩
   have yJ:σ'.aj+1+1<=σ6.aj:=yI
   have hlr:=hR.l r hr
   have hk6:∀b,b<σ.aj+1+1+1+1->b≠σ.aj+1+1->σ6.h b=σ'.h b:=λb h1 h2=>by rw[hlo b kd h2 jb];exact gZ.old b jb
   have q06:=(hk6 _ jb jb).trans q0
   have q16:=(hk6 _ jb jb).trans q1
   have q36:=(hk6 _ jb jb).trans q3
   have q66:σ6.h (σ'.aj+1)=some ⟨[.bool (rn (ix e.c k).a.q),.str (rs (ix e.c k).a.q),.str (rd (ix e.c k).a.q)],none⟩:=(hlo _ (bO _) jb jb).trans (aB _ _ _)
   have hts:Sz (qp e k):=apE hD hO.c jb
   have gX:Fr σ σ6:=⟨jb,hW6,λb hb=>by rw[hk6 b jb jb];exact hf.old b hb⟩
   simp(disch:=try exact jz) only[go_sem,z3,t1,t2,t3,t15,t16,t17,ak q36,ak q66,q36,aI q36]
   refine⟨e.c.length-(k+1),jb,k+1,bs',rfl,jb,rfl,q06,q16,rfl,?_,fr,jb⟩
   exact hR6.on (au _ _ _ _ jb) (λb h1 _=>au _ _ _ _ jb) jp
  .have:k=e.c.length:=jb
   subst this
   simp(disch:=try exact jz) only[go_sem,z3,ap]
   grind
 rintro _ tm σ2 ⟨rfl,bs,t1,t2,t3,q0,q1,q3,hR,hf,hnx⟩
 have hle:=hf.le
 unfold je at q3
 simp(disch:=try exact jz) only[go_sem,z3,t1,t2,t3,ak q0,hAk,hlenA]
 refine bK.mono (Q:=λex tm σ'=>ex=.exit 2/\∃pb M L,Tr.ah tm 2=.c (.ptr (σ.aj+1) 0)/\Tr.ah tm 3=.c (.ptr (σ.aj+1+1+1) 0)
   /\σ'.h (σ.aj+1+1+1)=some ⟨je e.c.length (.sl (σ.aj+1+1) 0 8 (.ex 8)) (aQ e.a.length pb) (qp e e.c.length),none⟩/\amO M L e.c e.a σ'.h pb e.a.length σ2.aj σ'.aj/\aP [σ.aj+1+1+1] σ2 σ')
  (aF (λq tm σ'=>∃j pb M L,q=e.a.length-j/\j<=e.a.length/\Tr.ah tm 1=.c (.ptr σ.aj 0)/\Tr.ah tm 2=.c (.ptr (σ.aj+1) 0)/\Tr.ah tm 3=.c (.ptr (σ.aj+1+1+1) 0)/\Tr.ah tm 41=.c Av/\Tr.ah tm 42=.c (.int .i64 (.ofNat e.a.length))/\Tr.ah tm 43=.c (.int .i64 (.ofNat j))
   /\σ'.h (σ.aj+1+1+1)=some ⟨je e.c.length (.sl (σ.aj+1+1) 0 8 (.ex 8)) (aQ j pb) (qp e e.c.length),none⟩/\amO M L e.c e.a σ'.h pb j σ2.aj σ'.aj/\aP [σ.aj+1+1+1] σ2 σ') e.a.length ?_ ?_) ?_
 .refine⟨0,σ2.aj,λ_=>.bg,λ_=>.bg,jb,jb,?_⟩
  simp(disch:=try exact jz) only[go_sem,z3,t1,t2,t3,ap]
  exact⟨q3,NF.nil (YW _ _),aP.refl hf.wf⟩
 .rintro q tm σ' ⟨j,pb,M,L,rfl,hj,t1,t2,t3,t41,t42,t43,q3,hN,hfe⟩
  have hle':=hfe.le
  simp(disch:=try exact jz) only[go_sem,z3,t1,t2,t3,t41,t42,t43,aH]
  refine aJ (λhlt=>?_) (λhlt=>?_)
  .obtain⟨b5,o5,c5,rfl,T1,bP,hT⟩:=hA.at hlt
   have hf3:Fr σ σ':=hfe.to hf (by simp;omega)
   have bP:=hf3.ld hW bP
   have q0':=hfe.get hf.wf (by simp only[eh];omega) q0
   have hTk:=hT.kn
   have hlb:=hN.l1
   have Nb:=hN.l2
   have jQ:=Fr.refl hfe.wf
   unfold je at q3
   simp(disch:=try exact jz) only[go_sem,z3,t1,t2,t3,t41,t42,t43,bP,hTk,ak q0',ak q3,h1,h2,h3,V3,hAk]
   refine aC.st (Fr σ') (fr) λgZ=>?_
   have hf5:=hf3.trans gZ
   refine(asP gZ.wf (aZ.fr hW hf5 hC) (hT.fr hW hf5) h1 h2 h3 hAk hD (hO.a j hlt)).mono ?_
   rintro _ σ6 ⟨⟨mv,lv,rfl,hM,hL⟩,gX⟩
   have kH:=gZ.trans gX
   have yI:σ'.aj+1<=σ6.aj:=gX.le
   have q36:=kH.get hfe.wf q3
   have hMk:=aZ.kn hM
   have hLk:=hL.kn
   have hN6:=NF.mono hN (λj _=>JO _ _ _ _ j) (λb _ hb=>kH.old b hb) jp
   have hg6:=hN6.g
   have hLG:=YW M L
   have YZ:aP [σ.aj+1+1+1] σ2 σ6:=hfe.trans (kH.ex _)
   simp(disch:=try exact jz) only[go_sem,z3,t1,t2,t3,t41,t42,t43,hMk,hLk,ak q36,q36,hg6,aI q36]
   refine⟨e.a.length-(j+1),jb,j+1,σ6.aj+1,aT M j mv,aT L j lv,rfl,jb,rfl,rfl,?_,by repeat(first|assumption|exact aP.refl (by assumption)|exact aP.up (by assumption) kf|exact aP.up (aP.refl (by assumption)) kf|refine aP.set1 ?_ kg kf|refine aP.jV ?_ kg|refine aP.mG ?_ kg|refine aP.nG ?_ kf)⟩
   refine NF.push hN (λj _=>JO _ _ _ _ j) (λi hi p h hq=>?_) (hi1:=σ6.aj) (h1:=σ6.h) ?_ (λb _ hb=>kH.old b hb) jb jb jb jb ?_ ?_ (λc h1 h2 h3=>?_) (λi hi=>?_) (YW _ _) (x:=[mv,lv])
   .unfold aaT at hq⊢
    rw[aW _ _ _ _ jb,aW _ _ _ _ jb];exact hq
   .unfold aaT
    rw[aS,aS]
    exact⟨aZ.keep hM (λ_ _=>rfl) λb hb=>⟨ag (ec _) hb.1,hb.2⟩,hL.keep (λ_ _=>rfl) λb hb=>⟨ag (ec _) hb.1,hb.2⟩⟩
   .rw[au _ _ _ _ jb,aB]
   .rw[aS,aS]
   .rw[au _ _ _ _ jb,au _ _ _ _ jb,gI _ _ _ _ h3,au _ _ _ _ jb]
   .rw[aW _ _ _ _ jb,aW _ _ _ _ jb]
  .have:j=e.a.length:=jb
   subst this
   simp(disch:=try exact jz) only[go_sem,z3,ap]
   exact⟨pb,M,L,t2,t3,q3,hN,hfe⟩
 rintro _ tm σ3 ⟨rfl,pb,M,L,t2,t3,q3,hN,hfe⟩
 have hle':=hfe.le
 have hf3:Fr σ σ3:=hfe.to hf (by simp;omega)
 have q1':=hfe.get hf.wf kc q1
 have hlb:=hN.l1
 unfold je at q3
 simp(disch:=try exact jz) only[go_sem,z3,t2,t3,ak q3,Jv,aI q1',q1']
 have hk:∀b,σ.aj+1<b->(hset σ3.h (σ.aj+1) ⟨[.int .i64 (.ofNat e.c.length),.sl (σ.aj+1+1) 0 8 (.ex 8),aQ e.a.length pb,.bool (rn (qp e e.c.length)),.str (rs (qp e e.c.length)),.str (rd (qp e e.c.length))],none⟩) b=σ3.h b:=λb hb=>au _ _ _ _ jb
 refine⟨⟨_,_,rfl,?_,M,L,?_,λi hi=>?_⟩,fr⟩
 .refine((hR.on (σ':=σ3) (hfe.old _ jb kc) (λb h1 h2=>hfe.old b h2 (by simp;omega)) hle').apx (p:=λb=>σ.aj+1<b/\b<σ3.aj) ⟨jb,jb⟩ λb h1 h2=>⟨jb,h2⟩).keep (λb hb=>hk b hb.1) λb hb=>⟨jb,hb.2⟩
 .show aZ _ _ 2 _ (e.a.map (qI e.c)).length _
  rw[cV]
  refine(NF.hlp (p:=λb=>σ.aj+1<b/\b<σ3.aj) hN jj (λi hi=>?_) λb h1 h2=>⟨jb,h2⟩).keep (λb hb=>hk b hb.1) λb hb=>⟨jb,hb.2⟩
  have:=hN.el (λj _=>JO M L e.c e.a j) hi
  simp only[dp,fv,aZ.kn this.1,this.2.kn,eY]
 .have hi:i<(e.a.map (qI e.c)).length:=hi
  rw[cV]at hi
  have:=hN.el (λj _=>JO M L e.c e.a j) hi
  show YI _ _ _ (ix (e.a.map (qI e.c)) i).1/\xw _ _ _ (ix (e.a.map (qI e.c)) i).2
  rw[VU _ hi]
  exact⟨aZ.keep this.1 (λb hb=>hk b jb) λb hb=>⟨jb,hb.2⟩,this.2.keep (λb hb=>hk b jb) λb hb=>⟨jb,hb.2⟩⟩
abbrev jB(p:Nat->Prop)(h:Tr Bk)(v:B)(k:Nat)(f:Nat->Rat):Prop:=aZ p h 3 v k λc=>gK (f c)
def dN(p:Nat->Prop)(h:Tr Bk)(v:B)(n:Nat)(k:Nat->Nat)(f:Nat->Nat->Rat):Prop:=∃T:Nat->B,aZ p h 1 v n (λi=>[T i])/\∀i,i<n->jB p h (T i) (k i) (f i)
section
variable {p q:Nat→Prop} {h h' : Tr Bk} {v:B} {n:Nat} {k:Nat→Nat} {f f' : Nat→Nat→Rat}
def aZ.at3{m:Nat}{f:Nat->Rat}(hl:jB p h v m f){c:Nat}(hc:c<m):∃b o cc,v=.sl b o m cc/\p b/\ld h b (o+c*3) 3 true=some (.agg [.bool (rn (f c)),.str (rs (f c)),.str (rd (f c))]):=by obtain⟨b,o,cc,e,hp,hld⟩:=aZ.pos hl jb;exact⟨b,o,cc,e,hp,hld c hc⟩
def dN.at(hr:dN p h v n k f){i:Nat}(hi:i<n):∃b o c T,v=.sl b o n c/\p b/\ld h b (o+i*1) 1 false=some (.c T)/\jB p h T (k i) (f i):=by obtain⟨T,h1,h2⟩:=hr;obtain⟨b,o,c,e,hp,hld⟩:=h1.pos jb;grind[zG]
def dN.keep(hr:dN p h v n k f)(hk:∀b,p b->h' b=h b)(hp:∀b,p b->q b):dN q h' v n k f:=by obtain⟨T,h1,h2⟩:=hr;exact⟨T,h1.keep hk hp,λi hi=>aZ.keep (h2 i hi) hk hp⟩
def dN.len(hr:dN p h v n k f):lenV (.c v)=some (.c (.int .i64 (.ofNat n))):=hr.choose_spec.1.len
def dN.kn(hr:dN p h v n k f):v.kn=true:=hr.choose_spec.1.kn
end
theorem dN.fr{σ σ':St}(hW:WF σ)(hf:Fr σ σ'){p:Nat->Prop}{v:B}{n:Nat}{k:Nat->Nat}{f:Nat->Nat->Rat}(hr:dN p σ.h v n k f):dN (Lt σ.aj) σ'.h v n k f:=by obtain⟨T,h1,h2⟩:=hr;exact⟨T,h1.fr hW hf,λi hi=>aZ.fr hW hf (h2 i hi)⟩
def Oo(T:Nat->B)(k:Nat->Nat)(f:Nat->Nat->Rat)(p:Nat->Prop)(h:Tr Bk)(i:Nat):Prop:=jB p h (T i) (k i) (f i)
abbrev Y0(T:Nat->B)(k:Nat->Nat)(f:Nat->Nat->Rat)(ty:Nat)(h:Tr Bk)(b n lo hi:Nat):Prop:=NF (Oo T k f) h b n (λi=>[T i]) 1 ty lo hi
def BU(T:Nat->B)(k:Nat->Nat)(f:Nat->Nat->Rat)(j:Nat):QK (Oo T k f) j:=λ_ _ _ _ hp hk hq=>aZ.keep hp hk hq
def ag2(T:Nat->B):LG (λi=>[T i]) 1:=λ_=>rfl
section
variable {T:Nat→B} {k:Nat→Nat} {f:Nat→Nat→Rat} {h h' : Tr Bk} {b n ty lo hi:Nat}
def Y0.push(ho:Y0 T k f ty h b n lo hi){hi1 nx n':Nat}{h1:Tr Bk}{v:B}(hx:jB (λb=>hi<=b/\b<hi1) h1 v (k n) (f n))(hh:∀b,lo<=b->b<hi->h1 b=h b)(h2:hi<=hi1)(h3:hi1<=nx)(h4:nx<n')(h5:lo<=hi)
  (hb:h' nx=some ⟨dF n (λi=>[T i])++[v],some (1,ty)⟩) (hk:∀c,lo<=c->c<hi1->n=0\/c≠b->h' c=h1 c):Y0 (aT T n v) k f ty h' nx (n+1) lo n':=by
 refine NF.push ho (λj _=>BU _ k f j) (λj hj p h hq=>?_) (hi1:=hi1) (h1:=h1) ?_ hh h2 h3 h4 h5 hb ?_ hk (λi hi=>?_) (ag2 _)
 .grind[Oo,aW]
 .grind[Oo,aS]
 .rw[aS]
 grind[aW]
def Y0.hrows(ho:Y0 T k f ty h b n lo hi){p:Nat->Prop}(hp:∀b,lo<=b->b<hi->p b):dN p h (aQ n b) n k f:=by have hel:=λi (hi:i<n)=>ho.el (λj _=>BU T k f j) hi;refine⟨T,ho.hlp jj (λi hi=>?_) hp,λi hi=>aZ.keep (hel i hi) (λ_ _=>rfl) λb hb=>hp b hb.1 hb.2⟩;simp only[dp,fv,aZ.kn (hel i hi),eY]
end
end Go.Proofs.Xe
