import Derived.Test.YtodnohicahohdaaGreatDoorYh30
set_option linter.all false
set_option maxRecDepth 100000
set_option maxHeartbeats 8000000
attribute [-go_sem] Go.Proofs.Xe.azd Go.Proofs.Xe.aze Go.Proofs.Xe.azf
namespace Go.Proofs.Xe
open Go.RowKit Go.Proofs.Ins
def qZ(a:Nat):(Int.ofNat a=Int.negSucc 0)=False:=by simp
def azS{J:St}(hW:WF J){p p':Nat->Prop}{x1 x2 x3 C Av tv:B}{cs:List C5}{a:fD}(hC:lT p J.h C cs)(hT:dQ p' J.h tv a)(h1:x1.kn=true)(h2:x2.kn=true)(h3:x3.kn=true)(h4:Av.kn=true){A:Nat}(hA:DW A)(hO:alV A cs a):
  aB EN 171 [.agg [x1,x2,x3,C,Av],.agg [tv]] J λr J'=>(∃mv lv,r=.agg [mv,lv]/\acZ (λb=>J.aj<=b/\b<J'.aj) J'.h mv (kN a)/\Ap (λb=>J.aj<=b/\b<J'.aj) J'.h lv (qN cs a).2)/\Fr J J':=by
 refine aI (xM.o _ _) xM.h ?_
 unfold xM
 dsimp only
 have Om:=aZ.kn hC
 have Ll:=hT.kn
 have Fe:=aZ.len hC
 have ak5:=hT.len
 have hnc:=hO.nc
 have hna:=hO.na
 have hFr:=Fr.refl hW
 have hPc:=awk hA.1
 simp(disch:=try exact jz)only[go_sem,Ll]
 refine aB.st (Fr J) (fr) λhF1=>?_
 refine(U8 hF1.wf (hT.fr hW hF1) jb hO.nf).mono ?_
 rintro _ σ1 ⟨⟨mv,rfl,hM⟩,hf1⟩
 have hF:=hF1.trans hf1
 have hle1:J.aj+1+1<=σ1.aj:=ar (by show _<=J.aj+1+1+1;omega) hf1.le
 have hle2:J.aj+1+1+1<=σ1.aj:=hf1.le
 have hM:fJ σ1.h mv (yC a).length (λi=>[.int .i64 (ix (yC a) i)]) 1 3 (J.aj+1+1+1) σ1.aj:=hM
 have q0:σ1.h J.aj=some ⟨[x1,x2,x3,C,Av],none⟩:=hf1.get hF1.wf ((au _ _ _ _ jb).trans ((au _ _ _ _ jb).trans (aA _ _ _)))
 have q1:σ1.h (J.aj+1)=some ⟨[tv],none⟩:=hf1.get hF1.wf ((au _ _ _ _ jb).trans (aA _ _ _))
 have q2:σ1.h (J.aj+1+1)=some ⟨[.aQ,.aQ],none⟩:=hf1.get hF1.wf (aA _ _ _)
 have hMk:=hM.kn
 have ac9:=Fr.refl hF.wf
 simp(disch:=try exact jz)only[go_sem,ay q0,Om,Fe]
 refine bI.mono (Q:=λex tm J'=>ex=.exit 0/\r8 tm 3=.c (.ptr (J.aj+1) 0)/\r8 tm 4=.c (.ptr (J.aj+1+1) 0)/\r8 tm 5=.c (.ptr σ1.aj 0)/\r8 tm 6=.c (.sl (σ1.aj+1) 0 cs.length (.ex cs.length))/\J'.h σ1.aj=some ⟨[mv,.aQ],none⟩/\J'.h (σ1.aj+1)=some ⟨dh cs.length (lsS cs a 0).1,none⟩/\Fr σ1 J'/\σ1.aj+1+1<=J'.aj)
  (aG (λq tm J'=>∃k,q=cs.length-k/\k<=cs.length/\r8 tm 3=.c (.ptr (J.aj+1) 0)/\r8 tm 4=.c (.ptr (J.aj+1+1) 0)/\r8 tm 5=.c (.ptr σ1.aj 0)/\r8 tm 6=.c (.sl (σ1.aj+1) 0 cs.length (.ex cs.length))/\r8 tm 26=.c C/\r8 tm 27=jN cs.length/\r8 tm 28=jN k
   /\J'.h σ1.aj=some ⟨[mv,.aQ],none⟩/\J'.h (σ1.aj+1)=some ⟨dh cs.length (λi=>if i<k then(ix cs i).a.q else 0),none⟩/\Fr σ1 J'/\σ1.aj+1+1<=J'.aj) cs.length ?_ ?_) ?_
 .refine⟨0,jb,jb,?_⟩
  refine WP ?_
  refine⟨?_,fr,jb⟩
  congr 2
 .rintro q tm J' ⟨k,rfl,hk,t3,t4,t5,t6,t26,t27,t28,p5,p6,hf,hnx⟩
  have hle:=hf.le
  simp(disch:=try exact jz)only[go_sem,t27,t28,aC]
  refine aH (λhlt=>?_) (λhlt=>?_)
  .obtain⟨b5,o5,c5,rfl,-,bD⟩:=aZ.pos hC jb
   have bD:=(hF.trans hf).ld hW (bD k hlt)
   unfold Ym at bD
   have hfit:=rF (hO.fc k hlt) jj
   have hz:=Sz.zero.two
   have hraw:rq (ix cs k).a.n (ix cs k).a.s (ix cs k).a.d=(ix cs k).a.q:=rfl
   simp(disch:=try exact jz)only[go_sem,W4,bD,hraw,da,p6]
   refine⟨cs.length-(k+1),jb,k+1,rfl,jb,rfl,p5,?_,fr,jb⟩
   exact br (λl=>some (Bk.mk l none)) (uO cs.length k λi=>(ix cs i).a.q)
  .have:k=cs.length:=jb
   subst this
   simp(disch:=try exact jz)only[go_sem,am]
   refine⟨t3,t4,t5,t6,p5,?_,hf,hnx⟩
   rw[p6]
   congr 2
   exact dX λi hi=>ab hi
 rintro _ tm σ2 ⟨rfl,t3,t4,t5,t6,p5,p6,hf2,hnx2⟩
 have hF2:=hF.trans hf2
 have q1:=hf2.get hF.wf q1
 have q2:=hf2.get hF.wf q2
 have hle3:=hf2.le
 simp(disch:=try exact jz)only[go_sem,t3,ay q1,Ll,ak5]
 refine bI.mono (Q:=λex tm J'=>ex=.exit 2/\∃lb U,r8 tm 4=.c (.ptr (J.aj+1+1) 0)/\r8 tm 5=.c (.ptr σ1.aj 0)/\r8 tm 6=.c (.sl (σ1.aj+1) 0 cs.length (.ex cs.length))/\J'.h σ1.aj=some ⟨[mv,aX a.length lb],none⟩/\J'.h (σ1.aj+1)=some ⟨dh cs.length (lsA cs a).1,none⟩/\ac7 U (λi=>ix (qN cs a).2 i) J'.h lb a.length σ2.aj J'.aj/\gY [σ1.aj,σ1.aj+1] σ2 J')
  (aG (λq tm J'=>∃j lb U,q=a.length-j/\j<=a.length/\r8 tm 4=.c (.ptr (J.aj+1+1) 0)/\r8 tm 5=.c (.ptr σ1.aj 0)/\r8 tm 6=.c (.sl (σ1.aj+1) 0 cs.length (.ex cs.length))/\r8 tm 42=.c tv/\r8 tm 43=jN a.length/\r8 tm 44=jN j
   /\J'.h σ1.aj=some ⟨[mv,aX j lb],none⟩/\J'.h (σ1.aj+1)=some ⟨dh cs.length (lsS cs a j).1,none⟩/\ac7 U (λi=>ix (qN cs a).2 i) J'.h lb j σ2.aj J'.aj/\gY [σ1.aj,σ1.aj+1] σ2 J') a.length ?_ ?_) ?_
 .refine⟨0,σ2.aj,λ_=>.aQ,jb,jb,?_⟩
  simp(disch:=try exact jz)only[go_sem,t4,t5,t6,am]
  exact⟨p5,p6,NF.nil (XD _ _),gY.refl hf2.wf⟩
 .rintro q tm J' ⟨j,lb,U,rfl,hj,t4,t5,t6,t42,t43,t44,p5,p6,hN,hf⟩
  have hle:=hf.le
  simp(disch:=try exact jz)only[go_sem,t43,t44,aC]
  refine aH (λhlt=>?_) (λhlt=>?_)
  .obtain⟨b6,o6,c6,rfl,P1,bV,hP1⟩:=hT.at hlt
   have hb6:=hW.cZ bV
   have bV:=hf.ld hf2.wf (by simp;omega) (hF2.ld hW bV)
   have aB9:=aZ.kn hP1
   have JG:=aZ.len hP1
   have hnt:=hO.nt j hlt
   have hfp:=hO.fp j hlt
   have hpp:=hO.p _ (l7 hlt)
   have hS:=alT (cs:=cs) hlt
   have hS2:=XE (cs:=cs) (a:=a) (i:=j) (bL j) hlt
   have hL:ix (qN cs a).2 j=(Di (lsS cs a j).1 (ix a j) (ix a j).length).2:=by unfold qN;rw[<-JU];have h9:=Dj cs a a.length jp;show ix ((lsS cs a a.length).2++[_]) j=_;rw[gQ _ _ jb];exact XE hlt jp
   have hSP:=awm hPc hO.c hO.p j
   clear hS2
   generalize (lsS cs a j).1=f at*
   generalize ix a j=r at*
   simp(disch:=try exact jz)only[go_sem,t42,t44,bV,JG]
   refine bI.mono (Q:=λex tm σ4=>ex=.exit 4/\∃bs,r8 tm 4=.c (.ptr (J.aj+1+1) 0)/\r8 tm 5=.c (.ptr σ1.aj 0)/\r8 tm 6=.c (.sl (σ1.aj+1) 0 cs.length (.ex cs.length))/\r8 tm 11=.c (.ptr J'.aj 0)/\r8 tm 42=.c (.sl b6 o6 a.length c6)/\r8 tm 43=jN a.length/\r8 tm 44=jN j
     /\σ4.h (σ1.aj+1)=some ⟨dh cs.length (Di f r r.length).1,none⟩/\TS σ4 J'.aj bs (Di f r r.length).2/\gY [σ1.aj+1] J' σ4)
    (aG (λq tm σ4=>∃l bs,q=r.length-l/\l<=r.length/\r8 tm 4=.c (.ptr (J.aj+1+1) 0)/\r8 tm 5=.c (.ptr σ1.aj 0)/\r8 tm 6=.c (.sl (σ1.aj+1) 0 cs.length (.ex cs.length))/\r8 tm 11=.c (.ptr J'.aj 0)/\r8 tm 42=.c (.sl b6 o6 a.length c6)/\r8 tm 43=jN a.length/\r8 tm 44=jN j/\r8 tm 48=.c P1/\r8 tm 49=jN r.length/\r8 tm 50=jN l
     /\σ4.h (σ1.aj+1)=some ⟨dh cs.length (Di f r l).1,none⟩/\TS σ4 J'.aj bs (Di f r l).2/\gY [σ1.aj+1] J' σ4) r.length ?_ ?_) ?_
   .refine⟨0,J'.aj+1,jb,jb,?_⟩
    have lM:=Fr.refl hf.wf
    refine W1 ?_
    refine⟨?_,⟨?_,rfl,bL _,.inl rfl⟩,Fr.ex (fr) _⟩
    .exact p6
    .rw[aA];rfl
   .rintro q tm σ4 ⟨l,bs,rfl,hl,t4,t5,t6,t11,t42,t43,t44,t48,t49,t50,p64,hTS,hf4⟩
    have qM:=hf4.le
    have azT:=hTS.lt hf4.wf
    simp(disch:=try exact jz)only[go_sem,t49,t50,aC]
    refine aH (λJI=>?_) (λJI=>?_)
    .obtain⟨b7,o7,c7,rfl,-,dB⟩:=aZ.pos hP1 jb
     have dB:=dB l JI
     have hb7:=hW.cZ dB
     have dB:=hf4.ld hf.wf (by simp;omega) (hf.ld hf2.wf (by simp;omega) (hF2.ld hW dB))
     unfold AU at dB
     have hfit:=rF (hfp l JI) jj
     have hz:=Sz.zero.two
     have hx:=hpp _ (l7 JI)
     have hok:=awl hPc hSP hpp l
     have hsz:=XF hA hok.2 (by rw[OH f r l hl];omega)
     have hll:=OH f r l hl
     have hsucc:=aat (f:=f) JI
     have hraw:rq (ix r l).a.n (ix r l).a.s (ix r l).a.d=(ix r l).a.q:=rfl
     have hkl:∀b,b<J'.aj->b<σ4.aj:=λb hb=>aE hb qM
     have aC9:=hf4.wf.lt p64
     by_cases hk1:(ix r l).k=Int.negSucc 0
     .have hS1:Di f r (l+1)=((Di f r l).1,(Di f r l).2++[(Int.negSucc 0,(ix r l).a.q)]):=by rw[hsucc];unfold OD;rw[ab (show(ix r l).k=-1 from hk1)];rfl
      have hqz:=Ri hA (hx.2 (.inl hk1))
      have ET:=Fr.refl hf4.wf
      simp(disch:=try exact jz)only[go_sem,t11,t48,t50,dB,hk1,hraw,da]
      refine aB.st (Fr σ4) (fr) λeX=>?_
      have awo:=hTS.fr hf4.wf eX
      refine(ac6 eX.wf awo jb _ _ hsz hqz).mono ?_
      rintro _ σ6 ⟨⟨bs',alW⟩,hlo,hW6,AZ⟩
      have AZ:σ4.aj+1<=σ6.aj:=AZ
      refine W0 ?_
      refine⟨r.length-(l+1),jb,l+1,bs',rfl,jb,rfl,?_,?_,?_⟩
      .rw[hS1,hlo _ jb,eX.old _ jb];exact p64
      .rw[hS1];exact alW
      .exact⟨jb,hW6,λb hb hn=>by rw[hlo b hb,eX.old b jb];exact hf4.old b hb hn⟩
     .obtain⟨kk,hkk,hkn⟩:∃kk:Nat,(ix r l).k=Int.ofNat kk/\kk<cs.length:=by
       rcases hx.1 with h|⟨ha,hb⟩
       .exact absurd h hk1
       .exact⟨(ix r l).k.toNat,(eE ha).symm,jb⟩
      have ET:=Fr.refl hf4.wf
      have hcz:=Ri hA (hok.1 kk)
      have hcz2:=hcz.two
      have hxc:=hx.2
      have fin:∀(cq:Rat){s5:St},Sz cq->(Di f r (l+1))=(aO (Di f r l).1 kk ((Di f r l).1 kk-cq),(Di f r l).2++[(Int.ofNat kk,cq)])->gY [σ1.aj+1] σ4 s5->s5.h (σ1.aj+1)=some ⟨dh cs.length (aO (Di f r l).1 kk ((Di f r l).1 kk-cq)),none⟩->∀{K:V->St->Prop},(∀v σ6 bs',σ6.h (σ1.aj+1)=some ⟨dh cs.length (Di f r (l+1)).1,none⟩->TS σ6 J'.aj bs' (Di f r (l+1)).2->gY [σ1.aj+1] J' σ6->K v σ6)->
        aB EN 170 [.c (.ptr J'.aj 0),jN kk,.agg (rK cq)] s5 K:=λcq s5 hcq hS1 eX h5 K hK=>by
       have awo:=hTS.fre hf4.wf eX (by simp;omega)
       refine(ac6 eX.wf awo jb _ _ hsz hcq).mono ?_
       rintro v σ6 ⟨⟨bs',alW⟩,hlo,hW6,AZ⟩
       have vS:=eX.le
       refine hK v σ6 bs' ?_ (by rw[hS1];exact alW) ⟨jb,hW6,λb hb hn=>?_⟩
       .rw[hlo _ jb,h5,hS1]
       .rw[hlo b hb,eX.old b jb hn];exact hf4.old b hb hn
      by_cases hb:(ix r l).b=true
      .have hS1:Di f r (l+1)=(aO (Di f r l).1 kk ((Di f r l).1 kk-kL ((Di f r l).1 kk) (ix r l).a.q),(Di f r l).2++[(Int.ofNat kk,kL ((Di f r l).1 kk) (ix r l).a.q)]):=by rw[hsucc,alS (show¬(ix r l).k=-1 from hk1) hkk,hb];rfl
       have hmz:=Ri hA (hPc.min _ _ (hok.1 kk) (hx.2 (.inr hb)))
       simp(disch:=try exact jz)only[go_sem,t6,t11,t48,t50,dB,hkk,qZ,hb,hraw,awn,ay p64,p64]
       refine fin _ hmz hS1 (by have hFe:=gY.refl (ex:=[σ1.aj+1]) hf4.wf;exact fe) (aA _ _ _) λv σ6 bs' h1 h2 h3=>?_
       refine W0 ?_
       exact⟨r.length-(l+1),jb,l+1,bs',rfl,jb,rfl,h1,h2,h3⟩
      .have hb:(ix r l).b=false:=by simpa using hb
       have hS1:Di f r (l+1)=(aO (Di f r l).1 kk ((Di f r l).1 kk-(Di f r l).1 kk),(Di f r l).2++[(Int.ofNat kk,(Di f r l).1 kk)]):=by rw[hsucc,alS (show¬(ix r l).k=-1 from hk1) hkk,hb];rfl
       simp(disch:=try exact jz)only[go_sem,t6,t11,t48,t50,dB,hkk,qZ,hb,ay p64,p64]
       refine fin _ hcz hS1 (by have hFe:=gY.refl (ex:=[σ1.aj+1]) hf4.wf;exact fe) (aA _ _ _) λv σ6 bs' h1 h2 h3=>?_
       refine W0 ?_
       exact⟨r.length-(l+1),jb,l+1,bs',rfl,jb,rfl,h1,h2,h3⟩
    .have:l=r.length:=jb
     subst this
     simp(disch:=try exact jz)only[go_sem,am]
     exact⟨bs,t4,t5,t6,t11,t42,t43,t44,p64,hTS,hf4⟩
   .rintro _ tm σ4 ⟨rfl,bs,t4,t5,t6,t11,t42,t43,t44,p64,hTS,hf4⟩
    have qM:=hf4.le
    have hlb:=hN.l1
    have Rj:=hN.l2
    have azT:=hTS.lt hf4.wf
    have acQ:gY [σ1.aj,σ1.aj+1] σ2 σ4:=hf.to' hf4 kc
    have p54:=hf4.get hf.wf kc p5
    have hN4:=NF.mono hN (λj _=>XC _ _ j) (λb h1 h2=>hf4.old b h2 (by simp;omega)) jp
    have hg4:=hN4.g
    have hLG:=XD U λi=>ix (qN cs a).2 i
    have UN:=hTS.b
    unfold kM at UN
    simp(disch:=try exact jz)only[go_sem,W4,ay p54,ay UN,p54,hg4]
    refine⟨a.length-(j+1),jb,j+1,σ4.aj+1,aO U j (aX (Di f r r.length).2.length bs),rfl,jb,rfl,rfl,by rw[p64,hS],?_,?_⟩
    .refine hN.push (U:=U) hf4.wf hL hTS jp jb (λb h1 h2=>hf4.old b h2 (by simp;omega)) jb jb ?_ λc h1 h2 h3=>?_
     .rw[au _ _ _ _ jb,aA];rfl
     .rw[au _ _ _ _ jb,au _ _ _ _ jb,iJ _ _ _ _ h3,au _ _ _ _ jb]
    .exact fe
  .have:j=a.length:=jb
   subst this
   simp(disch:=try exact jz)only[go_sem,am]
   exact⟨lb,U,t4,t5,t6,p5,by rw[<-JU];exact p6,hN,hf⟩
 rintro _ tm σ3 ⟨rfl,lb,U,t4,t5,t6,p5,p6,hN,hf3⟩
 have hF3:Fr J σ3:=hf3.to hF2 (by simp;omega)
 have qM:=hf3.le
 have q23:=hf3.get hf2.wf (by simp;omega) q2
 have hP:∀t∈a,∀x∈t,x.k=-1\/0<=x.k/\x.k<cs.length:=λt ht x hx=>(hO.p t ht x hx).1
 have hM3:fJ σ3.h mv (kN a).length (λi=>[TG (kN a) i]) 1 3 (J.aj+1+1+1) σ1.aj:=by
  rw[Q9];refine fJ.congr (fJ.mono hM (λb h1 h2=>?_) jp jp) λi hi=>by rw[aqP hP hi]
  rw[hf3.old b jb (by simp;omega),hf2.old b h2]
 have hMl:=hM3.len
 have hMm:acZ (λb=>J.aj+1+1+1<=b/\b<σ1.aj) σ3.h mv (kN a):=fJ.hlp hM3 (λ_=>rfl) jj (λ_ _=>rfl) λb h1 h2=>⟨h1,h2⟩
 have hml:=Iy hP
 have akR:=Fr.refl hF3.wf
 have aDQ:=hF3.wf.lt p6
 have hAc:=(alG (n:=cs.length) hPc hO.c hO.p).1
 simp(disch:=try exact jz)only[go_sem,t5,ay p5,hMk,hMl]
 refine bI.mono (Q:=λex tm σ4=>ex=.exit 6/\∃bs,r8 tm 4=.c (.ptr (J.aj+1+1) 0)/\r8 tm 5=.c (.ptr σ1.aj 0)/\r8 tm 15=.c (.ptr σ3.aj 0)/\TS σ4 σ3.aj bs (xY (kN a) (lsA cs a).1)/\Fr σ3 σ4)
  (aG (λq tm σ4=>∃i bs,q=(kN a).length-i/\i<=(kN a).length/\r8 tm 4=.c (.ptr (J.aj+1+1) 0)/\r8 tm 5=.c (.ptr σ1.aj 0)/\r8 tm 6=.c (.sl (σ1.aj+1) 0 cs.length (.ex cs.length))/\r8 tm 15=.c (.ptr σ3.aj 0)/\r8 tm 97=.c mv/\r8 tm 98=jN (kN a).length/\r8 tm 99=jN i/\TS σ4 σ3.aj bs (xY ((kN a).take i) (lsA cs a).1)/\Fr σ3 σ4) (kN a).length ?_ ?_) ?_
 .refine⟨0,σ3.aj+1,jb,jb,?_⟩
  refine W1 ?_
  exact⟨⟨aA _ _ _,rfl,bL _,.inl rfl⟩,fr⟩
 .rintro q tm σ4 ⟨i,bs,rfl,hi,t4,t5,t6,t15,t97,JV,G9,hTS,hf4⟩
  have vS:=hf4.le
  simp(disch:=try exact jz)only[go_sem,JV,G9,aC]
  refine aH (λhlt=>?_) (λhlt=>?_)
  .obtain⟨b8,o8,c8,rfl,qh⟩:=(hMm.hc).pos jb
   have qh:=hf4.ld hF3.wf (qh i hlt)
   unfold TG at qh
   have hmi:=l7 hlt
   have hin:ix (kN a) i<cs.length:=by have h1:=(wX hP).mp hmi;have:=wI hP ((ix (kN a) i:Nat):Int) (tH.mpr ⟨jb,h1⟩);omega
   have p64:=hf4.get hF3.wf p6
   have hll:(xY ((kN a).take i) (lsA cs a).1).length=i:=by unfold xY;rw[cg,cN];omega
   have hsz:Sz (aY (xY ((kN a).take i) (lsA cs a).1)):=XF (n:=cs.length) hA (λp hp=>by obtain⟨k,hk,rfl⟩:=cP.mp hp;have h1:=(wX hP).mp (eg hk);exact⟨.inr (wI hP k (tH.mpr ⟨jb,h1⟩)),hAc k⟩) jb
   have hcz:=Ri hA (hAc (ix (kN a) i))
   simp(disch:=try exact jz)only[go_sem,t6,t15,t97,G9,qh,ay p64]
   refine(ac6 hf4.wf hTS jb _ _ hsz hcz).mono ?_
   rintro _ σ6 ⟨⟨bs',alW⟩,hlo,hW6,AZ⟩
   simp(disch:=try exact jz)only[go_sem,W4,JV,G9]
   refine⟨(kN a).length-(i+1),jb,i+1,bs',rfl,jb,rfl,by rw[ahH _ _ hlt];exact alW,jb,hW6,λb hb=>by rw[hlo b hb];exact hf4.old b hb⟩
  .have:i=(kN a).length:=jb
   subst this
   simp(disch:=try exact jz)only[go_sem,am]
   exact⟨bs,t4,t5,t15,by rw[cj]at hTS;exact hTS,hf4⟩
 rintro _ tm σ4 ⟨rfl,bs,t4,t5,t15,hTS,hf4⟩
 have vS:=hf4.le
 have hlb:=hN.l1
 have Rj:=hN.l2
 have azT:=hTS.lt hf4.wf
 have p54:=hf4.get hF3.wf p5
 have q24:=hf4.get hF3.wf q23
 have hN4:=NF.mono hN (λj _=>XC _ _ j) (λb h1 h2=>hf4.old b h2) jp
 have hg4:=hN4.g
 have hLG:=XD U λi=>ix (qN cs a).2 i
 have UN:=hTS.b
 have hL:ix (qN cs a).2 a.length=xY (kN a) (lsA cs a).1:=by
  have h9:=Dj cs a a.length jp;rw[JU]at h9;unfold qN;conv=>lhs;rw[<-h9]
  exact gU _ _
 have iK:=hF3.trans hf4
 unfold kM at UN
 simp(disch:=try exact jz)only[go_sem,W4,ay p54,ay UN,p54,hg4,hMk,q24]
 have hN5:=hN.push (U:=U) (n':=σ4.aj+1+1) (nx:=σ4.aj+1) hf4.wf hL hTS jp jb (λb h1 h2=>hf4.old b h2) jb jb (h':=hset (hset (hset (Qj a.length (hset σ4.h σ4.aj ⟨[aX (xY (kN a) (lsA cs a).1).length bs,.bool (rn (aY (xY (kN a) (lsA cs a).1))),.str (rs (aY (xY (kN a) (lsA cs a).1))),.str (rd (aY (xY (kN a) (lsA cs a).1)))],none⟩) lb) (σ4.aj+1) ⟨bf a.length (aas U λi=>ix (qN cs a).2 i)++[aX (xY (kN a) (lsA cs a).1).length bs,.bool (rn (aY (xY (kN a) (lsA cs a).1))),.str (rs (aY (xY (kN a) (lsA cs a).1))),.str (rd (aY (xY (kN a) (lsA cs a).1)))],some (4,236)⟩) σ1.aj ⟨[mv,.sl (σ4.aj+1) 0 (a.length+1) .opn],none⟩) (J.aj+1+1) ⟨[mv,.sl (σ4.aj+1) 0 (a.length+1) .opn],none⟩)
  (by rw[au _ _ _ _ jb,au _ _ _ _ jb,aA];rfl) (λc h1 h2 h3=>by rw[au _ _ _ _ jb,au _ _ _ _ jb,au _ _ _ _ jb,iJ _ _ _ _ h3,au _ _ _ _ jb])
 have hll:(qN cs a).2.length=a.length+1:=by have h9:=Dj cs a a.length jp;rw[JU]at h9;unfold qN;show((lsA cs a).2++[_]).length=_;rw[az,h9];rfl
 refine⟨⟨_,_,rfl,?_,?_⟩,fr⟩
 .refine aZ.keep hMm (λb hb=>?_) λb hb=>⟨jb,by show b<σ4.aj+1+1;omega⟩
  rw[au _ _ _ _ jb,au _ _ _ _ jb,au _ _ _ _ jb,iJ _ _ _ _ jb,au _ _ _ _ jb,hf4.old b jb]
 .exact(hN5.awj hll λi _=>rfl).keep (λ_ _=>rfl) λb hb=>⟨jb,hb.2⟩
def rkG(cs:List C5)(bs:Nat->Nat)(k r:Nat):List B:=kM (aX (D7 cs r k).length (bs r)) (aY (D7 cs r k))
structure RkS(J:St)(rb:Nat)(bs:Nat->Nat)(cs:List C5)(k lo:Nat):Prop where
 b:J.h rb=some ⟨bf 8 (rkG cs bs k),none⟩
 o:∀r,r<8->QX J.h (bs r) (D7 cs r k)
 l:∀r,r<8->(D7 cs r k).length=0\/lo<=bs r/\bs r<J.aj
 i:∀r r',r<8->r'<8->r≠r'->(D7 cs r k).length=0\/(D7 cs r' k).length=0\/bs r≠bs r'
def RkS.on{J J':St}{rb lo k:Nat}{bs:Nat->Nat}{cs:List C5}(h:RkS J rb bs cs k lo)(hrb:J'.h rb=J.h rb)(hf:∀b,lo<=b->b<J.aj->J'.h b=J.h b)(hle:J.aj<=J'.aj):RkS J' rb bs cs k lo:=by
 refine⟨by rw[hrb];exact h.b,λr hr=>?_,λr hr=>by have:=h.l r hr;omega,h.i⟩;refine(yB ?_).trans (h.o r hr);rcases h.l r hr with h1|h1
 .omega
 grind
theorem RkS.fr{J J':St}{rb lo k:Nat}{bs:Nat->Nat}{cs:List C5}(h:RkS J rb bs cs k lo)(hrb:rb<J.aj)(hf:Fr J J'):RkS J' rb bs cs k lo:=h.on (hf.old _ hrb) (λb _ hb=>hf.old b hb) hf.le
def awp{J:St}(hW:WF J){rb lo k r:Nat}{bs:Nat->Nat}{cs:List C5}(h:RkS J rb bs cs k lo)(hrb:rb<lo)(hlo:lo<=J.aj)(hr:r<8)(hk:(ix cs k).r=(r:Int))(hk1:k<=1000000)(hs:Sz (aY (D7 cs r k)))(hq:Sz (ix cs k).a.q):
  aB EN 170 [.c (.ptr rb (r*4)),jN k,.agg (rK (ix cs k).a.q)] J λ_ J'=>(∃bs',RkS J' rb bs' cs (k+1) lo)/\(∀b,b<J.aj->b≠rb->(D7 cs r k).length=0\/b≠bs r->J'.h b=J.h b)/\WF J'/\J.aj<=J'.aj:=by
 have hl:=h.l r hr
 have hlen:=OI cs r k
 obtain⟨b0,hb0,hb1⟩:∃b0,(∀c,aX (D7 cs r k).length c=aX (D7 cs r k).length b0\/c≠bs r)/\((D7 cs r k).length=0/\b0=rb\/0<(D7 cs r k).length/\b0=bs r):=by
  by_cases e:(D7 cs r k).length=0
  .exact⟨rb,λc=>.inl (by rw[e];rfl),.inl ⟨e,rfl⟩⟩
  .exact⟨bs r,λc=>by grind,.inr ⟨jb,rfl⟩⟩
 have hT:QX J.h b0 (D7 cs r k):=by
  have:=h.o r hr;unfold QX at this⊢;rw[<-this];rcases hb1 with⟨e,-⟩|⟨-,e⟩
  .rw[e];rfl
  .rw[e]
 have hGr:rkG cs bs k r=kM (aX (D7 cs r k).length b0) (aY (D7 cs r k)):=by grind[rkG]
 refine(alC hW h.b hr (λ_=>rfl) rfl rfl hGr hT jb jb jb k _ hs hq).mono ?_
 rintro _ J' ⟨nx,h1,h2,h3,h4,h5⟩
 have hle:=h5.le
 have e1:D7 cs r (k+1)=D7 cs r k++[((k:Int),(ix cs k).a.q)]:=by grind[D7]
 have e2:∀r',r'≠r->D7 cs r' (k+1)=D7 cs r' k:=λr' hne=>by grind[D7]
 refine⟨⟨aO bs r nx,?_,λr' hr'=>?_,λr' hr'=>?_,λa b ha hb hab=>?_⟩,λb hb hne hn2=>h5.old b hb ?_,h5.wf,hle⟩
 .rw[h3]
  congr 2
  refine bC λr' hr'=>?_
  unfold je rkG
  by_cases e:r'=r
  .subst e
   rw[ab rfl,aN,e1,U5,az];rfl
  grind[aS]
 .by_cases e:r'=r
  .subst e
   rw[aN,e1]
   unfold QX
   rw[az,bz]
   show J'.h nx=some _
   grind[Go.Proofs.Xe.jA,Go.Proofs.Xe.bC,Go.Proofs.Xe.je,Go.Proofs.Xe.gU,Go.Proofs.Xe.gQ]
  .rw[aS _ _ _ _ e,e2 r' e]
   refine(yB ?_).trans (h.o r' hr')
   have h6:=h.l r' hr'
   have h7:=h.i r' r hr' hr e
   by_cases e0:(D7 cs r' k).length=0
   .exact .inl e0
   .refine .inr (h5.old _ jb ?_)
    simp;omega
 .by_cases e:r'=r
  .subst e;rw[aN];omega
  .rw[aS _ _ _ _ e,e2 r' e]
   have:=h.l r' hr';omega
 .by_cases ea:a=r
  .subst ea
   rw[aN,aS _ _ _ _ (Ne.symm hab),e2 b (Ne.symm hab)]
   have:=h.l b hb;omega
  .by_cases eb:b=r
   .subst eb
    rw[aN,aS _ _ _ _ ea,e2 a ea]
    have:=h.l a ha;omega
   .rw[aS _ _ _ _ ea,aS _ _ _ _ eb,e2 a ea,e2 b eb]
    exact h.i a b ha hb hab
 grind
def RkS.awj{J:St}{rb lo:Nat}{bs:Nat->Nat}{cs:List C5}(h:RkS J rb bs cs cs.length lo){p:Nat->Prop}(hp:p rb)(hp2:∀b,lo<=b->b<J.aj->p b):Ap p J.h (.sl rb 0 8 (.ex 8)) (Xy cs cs.length):=by
 have hix:∀r,r<8->ix (Xy cs cs.length) r=D7 cs r cs.length:=λr hr=>by grind[Xy,dY]
 have h8:(Xy cs cs.length).length=8:=by rfl
 refine⟨λr=>aX (D7 cs r cs.length).length (bs r),?_,cL 8,λr hr=>?_⟩
 .rw[h8];refine(bK (G:=rkG cs bs cs.length) _ h.b rfl hp (λ_=>rfl) jj λr hr=>?_).congr λr hr=>by grind[rkG]
  grind[rkG,kM,wB,AP,Og]
 .rw[h8]at hr;rw[hix r hr];exact(h.o r hr).hlp (by rcases h.l r hr with h1|h1;exact .inl h1;grind)
structure Rk(A:Nat)(e:yg):Prop where
 nc:e.c.length<=1000
 na:e.a.length<=1000
 r:∀k,k<e.c.length->∃r:Nat,r<8/\(ix e.c k).r=Int.ofNat r
 fc:∀k,k<e.c.length->(ix e.c k).a.fits 1000000
 c:∀k,JR A (ix e.c k).a.q
 a:∀j,j<e.a.length->alV A e.c (ix e.a j)
def og(e:yg)(k:Nat):Rat:=aF k λi=>(ix e.c i).a.q
def afl{A:Nat}{f:Nat->Rat}(hf:∀i,JR A (f i)):∀n,eY A (aF n f)/\0<=aF n f/\aF n f<=(n:Rat)*uQ
 |0=>⟨eY.zero A,aM,by show(0:Rat)<=((0:Nat):Rat)*uQ;simp⟩
 |n+1=>by
  obtain⟨h1,h2,h3⟩:=afl hf n;have h4:=hf n;rw[fY];have:((1:Nat):Rat)=1:=rfl;refine⟨h1.add h4.1,?_,?_⟩
  .show 0<=aF n f+f n;grind
  .show aF n f+f n<=_;grind
def awq{A:Nat}(hA:DW A){f:Nat->Rat}(hf:∀i,JR A (f i)){n:Nat}(hn:n<=10000):Sz (aF n f):=by obtain⟨h1,h2,h3⟩:=afl hf n;have hU:=Iw (k:=10000) jj;have h4:(n:Rat)<=((10000:Nat):Rat):=bj.mpr hn;have h5:=be h4 Q7;exact(qx hA (hJ A) h1 h2 kd).sz hA (by grind[uM])
def afm(M L:Nat->B)(cs:List C5)(al:List fD)(p:Nat->Prop)(h:Tr Bk)(j:Nat):Prop:=acZ p h (M j) (kN (ix al j))/\Ap p h (L j) (qN cs (ix al j)).2
abbrev as2(M L:Nat->B)(cs:List C5)(al:List fD)(h:Tr Bk)(b n lo hi:Nat):Prop:=NF (afm M L cs al) h b n (λj=>[M j,L j]) 2 239 lo hi
def OJ(M L:Nat->B)(cs:List C5)(al:List fD)(j:Nat):QK (afm M L cs al) j:=λ_ _ _ _ hp hk hq=>⟨aZ.keep hp.1 hk hq,hp.2.keep hk hq⟩
def ada(M L:Nat->B):LG (λj=>[M j,L j]) 2:=λ_=>rfl
def lU{E:Env}{f:Nat}{args:List V}{J:St}{F:AF}{K:V->St->Prop}(ho:E.Nw f args J=none)(hF:E.fns f=some F):aB E f args J K=bI E F.body (ini args) J (ab9 F.res K):=by
 refine propext ⟨?_,aI ho hF⟩;rintro⟨n,v,J',h1,h2⟩;cases n with
 |zero=>grind[iD]
 |succ n=>
  rw[iD]at h1
  unfold Hz at h1
  rw[ho,hF]at h1
  dsimp only at h1
  rw[ab8]at h1
  dsimp only at h1
  unfold agd at h1
  split at h1
  .next tm τ e=>
   split at h1
   .next u hu=>cases h1;exact⟨n,_,tm,_,e,_,hu,h2⟩
   grind
  .next tm τ e=>
   split at h1
   .next u hu=>cases h1;exact⟨n,_,tm,_,e,_,hu,h2⟩
   grind
  grind
section
variable (dw bU tm:Tr V) (J:St) (res:List Rs) (pd:List jf)
def alX(i:Nat)(us os:List Nat)(d:Option Nat)(g:Option (Nat×Bool))(bytes:Nat)(z:List B)(a c:O)(l:List DO)(K:St->List Rs->List jf->Prop):
  wU dw bU (⟨i,us,os,⟨d,g,.Nu bytes z a c⟩⟩::l) J res pd K=match PE dw bU res us os with
   |some tm=>DU g tm (match En (a.ev tm),En (c.ev tm)with
    |some n,some m=>(bif Nat.ble n m&&(Nat.ble (bytes*m) 281474976710656&&Nat.ble m 1073741824)then wU dw bU l ⟨hset J.h J.aj ⟨rep z m,none⟩,J.aj+1⟩ (⟨i,d,.c (.sl J.aj 0 n (.ex m))⟩::res) (⟨i,⟨d,g,.Nu bytes z a c⟩,tm,.c (.sl J.aj 0 n (.ex m)),true,some J.aj⟩::pd) K else False)
    |_,_=>False) (wU dw bU l J (⟨i,d,.tnil⟩::res) (⟨i,⟨d,g,.Nu bytes z a c⟩,tm,.tnil,false,none⟩::pd) K)
   |none=>False:=by
 unfold wU DU
 rw[zV]
 dsimp only
 cases PE dw bU res us os with
 |none=>rfl
 |some tm=>
  grind[xq.kind,oO,lZ]
def adb(i:Nat)(d:Option Nat)(g9:Option (Nat×Bool))(bytes:Nat)(z:List B)(a c:O)(v:V)(b:Nat):again J ⟨i,⟨d,g9,.Nu bytes z a c⟩,tm,v,true,some b⟩=match En (a.ev tm),En (c.ev tm)with
  |some n,some m=>(bif Nat.ble n m&&(Nat.ble (bytes*m) 281474976710656&&Nat.ble m 1073741824)then(match J.h b with|some ⟨c,none⟩=>PD c (rep z m)|_=>false)else false)
  |_,_=>false:=by
 grind[again,xq.kind,oO]
end
def alY(n:Nat)(f:Nat->Bool):(ones n λi=>.bool (f i)).all B.kn=true:=acv λ_=>rfl
attribute [go_sem] alX adb alY
def yH{E:Env}{a b:AC}{tm:Tr V}{J:St}{Q:AX->Tr V->St->Prop}(P:Tr V->St->Prop)(h:bI E a tm J λe tm' J'=>e=.normal/\P tm' J')(h2:∀tm' J',P tm' J'->bI E b tm' J' Q):bI E (.seq a b) tm J Q:=
 run_seq (h.mono (by rintro _ tm' J' ⟨rfl,hp⟩;exact h2 _ _ hp))
def Rl{E:Env}{a b c:AC}{tm:Tr V}{J:St}{Q:AX->Tr V->St->Prop}(P:Tr V->St->Prop)(h:bI E a tm J (Wx E b λe tm' J'=>e=.normal/\P tm' J'))(h2:∀tm' J',P tm' J'->bI E c tm' J' Q):bI E (.seq a (.seq b c)) tm J Q:=
 run_seq (h.mono λe tm' J' he=>by
  cases e with
  |normal=>exact yH P he h2
  |exit i=>cases he.1
  |ret=>cases he.1)
def JW{E:Env}{b:AC}{tm:Tr V}{J:St}{Q:AX->Tr V->St->Prop}(h:bI E b tm J Q):bI E .skip tm J (Wx E b Q):=Y1 h
def azV{J:St}(hW:WF J){p p':Nat->Prop}{x1 x2 x3 C Av:B}{e:yg}(hC:lT p J.h C e.c)(hA:iO p' J.h Av e.a)(h1:x1.kn=true)(h2:x2.kn=true)(h3:x3.kn=true){A:Nat}(hD:DW A)(hO:Rk A e):
  aB EN 79 [.agg [x1,x2,x3,C,Av]] J λr J'=>(∃rv pv,r=.agg (jU e.c.length rv pv (og e e.c.length))/\Aq (λb=>J.aj<=b/\b<J'.aj) J'.h rv pv (bZ e))/\Fr J J':=by
 refine aI (xH.o _ _) xH.h ?_
 unfold xH
 dsimp only
 have Om:=aZ.kn hC
 have hAk:=hA.kn
 have Fe:=aZ.len hC
 have hlenA:=hA.len
 have hnc:=hO.nc
 have hna:=hO.na
 have hFr:=Fr.refl hW
 simp(disch:=try exact jz)only[go_sem,Om,Fe]
 refine bI.mono (Q:=λex tm J'=>ex=.exit 0/\∃bs,r8 tm 1=.c (.ptr J.aj 0)/\r8 tm 2=.c (.ptr (J.aj+1) 0)/\r8 tm 3=.c (.ptr (J.aj+1+1+1) 0)
   /\J'.h J.aj=some ⟨[x1,x2,x3,C,Av],none⟩/\J'.h (J.aj+1)=some ⟨[.int .i64 (.ofNat 0),.aQ,.aQ,.bool (rn 0),.str (rs 0),.str (rd 0)],none⟩/\J'.h (J.aj+1+1+1)=some ⟨jU e.c.length (.sl (J.aj+1+1) 0 8 (.ex 8)) .aQ (og e e.c.length),none⟩/\RkS J' (J.aj+1+1) bs e.c e.c.length (J.aj+1+1+1+1)/\Fr J J'/\J.aj+1+1+1+1<=J'.aj)
  (aG (λq tm J'=>∃k bs,q=e.c.length-k/\k<=e.c.length/\r8 tm 1=.c (.ptr J.aj 0)/\r8 tm 2=.c (.ptr (J.aj+1) 0)/\r8 tm 3=.c (.ptr (J.aj+1+1+1) 0)/\r8 tm 15=.c C/\r8 tm 16=jN e.c.length/\r8 tm 17=jN k
   /\J'.h J.aj=some ⟨[x1,x2,x3,C,Av],none⟩/\J'.h (J.aj+1)=some ⟨[.int .i64 (.ofNat 0),.aQ,.aQ,.bool (rn 0),.str (rs 0),.str (rd 0)],none⟩/\J'.h (J.aj+1+1+1)=some ⟨jU e.c.length (.sl (J.aj+1+1) 0 8 (.ex 8)) .aQ (og e k),none⟩/\RkS J' (J.aj+1+1) bs e.c k (J.aj+1+1+1+1)/\Fr J J'/\J.aj+1+1+1+1<=J'.aj) e.c.length ?_ ?_) ?_
 .refine⟨0,λ_=>0,jb,jb,?_⟩
  refine WP ?_
  refine⟨rfl,⟨?_,λr hr=>rfl,λr hr=>.inl rfl,λr r' _ _ _=>.inl rfl⟩,fr,jb⟩
  simp(disch:=omega) only[au,aA];rfl
 .rintro q tm J' ⟨k,bs,rfl,hk,t1,t2,t3,t15,t16,t17,q0,q1,q3,hR,hf,hnx⟩
  have hle:=hf.le
  simp(disch:=try exact jz)only[go_sem,t16,t17,aC]
  refine aH (λhlt=>?_) (λhlt=>?_)
  .obtain⟨b5,o5,c5,rfl,-,bD⟩:=aZ.pos hC jb
   have bD:=hf.ld hW (bD k hlt)
   unfold Ym at bD
   have hfit:=rF (hO.fc k hlt) jj
   have hz:=Sz.zero.two
   have hraw:rq (ix e.c k).a.n (ix e.c k).a.s (ix e.c k).a.d=(ix e.c k).a.q:=rfl
   obtain⟨r,hr,hrk⟩:=hO.r k hlt
   have hqz:=Ri hD (hO.c k)
   have lM:=Fr.refl hf.wf
   have hrb:=hR.b
   have hlb:J.aj+1+1+1<J'.aj:=jb
   unfold jU at q3
   simp(disch:=try exact jz)only[go_sem,t3,t15,t17,bD,hraw,hrk,da,ay q3]
   refine aB.st (Fr J') (fr) λeX=>?_
   have hsz:Sz (aY (D7 e.c r k)):=XF (n:=e.c.length) hD (λp hp=>by have:=QY (P:=JR A) (λi _=>hO.c i) r k hk p hp;grind) (by grind[OI])
   refine(awp eX.wf (hR.fr jb eX) jb kd hr hrk jb hsz hqz).mono ?_
   rintro _ σ6 ⟨⟨bs',hR6⟩,hlo,hW6,AZ⟩
   have vS:J'.aj+1+1<=σ6.aj:=AZ
   have hlr:=hR.l r hr
   have hk6:∀b,b<J.aj+1+1+1+1->b≠J.aj+1+1->σ6.h b=J'.h b:=λb h1 h2=>by rw[hlo b kd h2 jb];exact eX.old b jb
   have q06:=(hk6 _ jb jb).trans q0
   have q16:=(hk6 _ jb jb).trans q1
   have q36:=(hk6 _ jb jb).trans q3
   have q66:σ6.h (J'.aj+1)=some ⟨(rK (ix e.c k).a.q),none⟩:=(hlo _ (bL _) jb jb).trans (aA _ _ _)
   have hts:Sz (og e k):=awq hD hO.c jb
   have gX:Fr J σ6:=⟨jb,hW6,λb hb=>by rw[hk6 b jb jb];exact hf.old b hb⟩
   simp(disch:=try exact jz)only[go_sem,W4,ay q36,ay q66,aJ q36]
   refine⟨e.c.length-(k+1),jb,k+1,bs',rfl,jb,rfl,q06,q16,rfl,?_,fr,jb⟩
   exact hR6.on (au _ _ _ _ jb) (λb h1 _=>au _ _ _ _ jb) jp
  .have:k=e.c.length:=jb
   subst this
   refine WP ?_
   grind
 rintro _ tm σ2 ⟨rfl,bs,t1,t2,t3,q0,q1,q3,hR,hf,hnx⟩
 have hle:=hf.le
 unfold jU at q3
 simp(disch:=try exact jz)only[go_sem,t1,ay q0,hAk,hlenA]
 refine bI.mono (Q:=λex tm J'=>ex=.exit 2/\∃pb M L,r8 tm 2=.c (.ptr (J.aj+1) 0)/\r8 tm 3=.c (.ptr (J.aj+1+1+1) 0)
   /\J'.h (J.aj+1+1+1)=some ⟨jU e.c.length (.sl (J.aj+1+1) 0 8 (.ex 8)) (aX e.a.length pb) (og e e.c.length),none⟩/\as2 M L e.c e.a J'.h pb e.a.length σ2.aj J'.aj/\gY [J.aj+1+1+1] σ2 J')
  (aG (λq tm J'=>∃j pb M L,q=e.a.length-j/\j<=e.a.length/\r8 tm 1=.c (.ptr J.aj 0)/\r8 tm 2=.c (.ptr (J.aj+1) 0)/\r8 tm 3=.c (.ptr (J.aj+1+1+1) 0)/\r8 tm 41=.c Av/\r8 tm 42=jN e.a.length/\r8 tm 43=jN j
   /\J'.h (J.aj+1+1+1)=some ⟨jU e.c.length (.sl (J.aj+1+1) 0 8 (.ex 8)) (aX j pb) (og e e.c.length),none⟩/\as2 M L e.c e.a J'.h pb j σ2.aj J'.aj/\gY [J.aj+1+1+1] σ2 J') e.a.length ?_ ?_) ?_
 .refine⟨0,σ2.aj,λ_=>.aQ,λ_=>.aQ,jb,jb,?_⟩
  refine W1 ?_
  exact⟨q3,NF.nil (ada _ _),gY.refl hf.wf⟩
 .rintro q tm J' ⟨j,pb,M,L,rfl,hj,t1,t2,t3,t41,t42,t43,q3,hN,hfe⟩
  have hle':=hfe.le
  simp(disch:=try exact jz)only[go_sem,t42,t43,aC]
  refine aH (λhlt=>?_) (λhlt=>?_)
  .obtain⟨b5,o5,c5,rfl,T1,bD,hT⟩:=hA.at hlt
   have hf3:Fr J J':=hfe.to hf (by simp;omega)
   have bD:=hf3.ld hW bD
   have q0':=hfe.get hf.wf (by simp only[cU];omega) q0
   have Ll:=hT.kn
   have hlb:=hN.l1
   have Rj:=hN.l2
   have lM:=Fr.refl hfe.wf
   unfold jU at q3
   simp(disch:=try exact jz)only[go_sem,t1,t3,t41,t43,bD,Ll,ay q0',ay q3,h1,h2,h3,Om,hAk]
   refine aB.st (Fr J') (fr) λeX=>?_
   have hf5:=hf3.trans eX
   refine(azS eX.wf (aZ.fr hW hf5 hC) (hT.fr hW hf5) h1 h2 h3 hAk hD (hO.a j hlt)).mono ?_
   rintro _ σ6 ⟨⟨mv,lv,rfl,hM,hL⟩,gX⟩
   have jO:=eX.trans gX
   have AZ:J'.aj+1<=σ6.aj:=gX.le
   have q36:=jO.get hfe.wf q3
   have hMk:=aZ.kn hM
   have hLk:=hL.kn
   have hN6:=NF.mono hN (λj _=>OJ _ _ _ _ j) (λb _ hb=>jO.old b hb) jp
   have Yq:=hN6.g
   have hLG:=ada M L
   have ade:gY [J.aj+1+1+1] σ2 σ6:=hfe.trans (jO.ex _)
   simp(disch:=try exact jz)only[go_sem,W4,hMk,hLk,ay q36,q36,Yq]
   refine⟨e.a.length-(j+1),jb,j+1,σ6.aj+1,aO M j mv,aO L j lv,rfl,jb,rfl,rfl,?_,fe⟩
   refine NF.push hN (λj _=>OJ _ _ _ _ j) (λi hi p h hq=>?_) (hi1:=σ6.aj) (h1:=σ6.h) ?_ (λb _ hb=>jO.old b hb) jb jb jb jb ?_ ?_ (λc h1 h2 h3=>?_) (λi hi=>?_) (ada _ _) (x:=[mv,lv])
   .unfold afm at hq⊢
    rw[aS _ _ _ _ jb,aS _ _ _ _ jb];exact hq
   .unfold afm
    rw[aN,aN]
    exact⟨aZ.keep hM (λ_ _=>rfl) λb hb=>⟨ar (dp _) hb.1,hb.2⟩,hL.keep (λ_ _=>rfl) λb hb=>⟨ar (dp _) hb.1,hb.2⟩⟩
   .rw[au _ _ _ _ jb,aA]
   .rw[aN,aN]
   .rw[au _ _ _ _ jb,au _ _ _ _ jb,iJ _ _ _ _ h3,au _ _ _ _ jb]
   .rw[aS _ _ _ _ jb,aS _ _ _ _ jb]
  .have:j=e.a.length:=jb
   subst this
   simp(disch:=try exact jz)only[go_sem,am]
   exact⟨pb,M,L,t2,t3,q3,hN,hfe⟩
 rintro _ tm σ3 ⟨rfl,pb,M,L,t2,t3,q3,hN,hfe⟩
 have hle':=hfe.le
 have hf3:Fr J σ3:=hfe.to hf (by simp;omega)
 have q1':=hfe.get hf.wf kc q1
 have hlb:=hN.l1
 unfold jU at q3
 simp(disch:=try exact jz)only[go_sem,W4,ay q3,Og,aJ q1']
 have hk:∀b,J.aj+1<b->(hset σ3.h (J.aj+1) ⟨[.int .i64 (.ofNat e.c.length),.sl (J.aj+1+1) 0 8 (.ex 8),aX e.a.length pb,.bool (rn (og e e.c.length)),.str (rs (og e e.c.length)),.str (rd (og e e.c.length))],none⟩) b=σ3.h b:=λb hb=>au _ _ _ _ jb
 refine⟨⟨_,_,rfl,?_,M,L,?_,λi hi=>?_⟩,fr⟩
 .refine((hR.on (J':=σ3) (hfe.old _ jb kc) (λb h1 h2=>hfe.old b h2 (by simp;omega)) hle').awj (p:=λb=>J.aj+1<b/\b<σ3.aj) ⟨jb,jb⟩ λb h1 h2=>⟨jb,h2⟩).keep (λb hb=>hk b hb.1) λb hb=>⟨jb,hb.2⟩
 .show aZ _ _ 2 _ (e.a.map (qN e.c)).length _
  rw[cg]
  refine(NF.hlp (p:=λb=>J.aj+1<b/\b<σ3.aj) hN jj (λi hi=>?_) λb h1 h2=>⟨jb,h2⟩).keep (λb hb=>hk b hb.1) λb hb=>⟨jb,hb.2⟩
  have:=hN.el (λj _=>OJ M L e.c e.a j) hi
  simp only[cw,cY,aZ.kn this.1,this.2.kn,cG]
 .have hi:i<(e.a.map (qN e.c)).length:=hi
  rw[cg]at hi
  have:=hN.el (λj _=>OJ M L e.c e.a j) hi
  show acZ _ _ _ (ix (e.a.map (qN e.c)) i).1/\Ap _ _ _ (ix (e.a.map (qN e.c)) i).2
  rw[aap _ hi]
  exact⟨aZ.keep this.1 (λb hb=>hk b jb) λb hb=>⟨jb,hb.2⟩,this.2.keep (λb hb=>hk b jb) λb hb=>⟨jb,hb.2⟩⟩
abbrev kS(p:Nat->Prop)(h:Tr Bk)(v:B)(k:Nat)(f:Nat->Rat):Prop:=aZ p h 3 v k λc=>bY (f c)
def dP(p:Nat->Prop)(h:Tr Bk)(v:B)(n:Nat)(k:Nat->Nat)(f:Nat->Nat->Rat):Prop:=∃T:Nat->B,aZ p h 1 v n (λi=>[T i])/\∀i,i<n->kS p h (T i) (k i) (f i)
section
variable {p q:Nat→Prop} {h h' : Tr Bk} {v:B} {n:Nat} {k:Nat→Nat} {f f' : Nat→Nat→Rat}
def aZ.at3{m:Nat}{f:Nat->Rat}(hl:kS p h v m f){c:Nat}(hc:c<m):∃b o cc,v=.sl b o m cc/\p b/\ld h b (o+c*3) 3 true=some (.agg (rK (f c))):=by obtain⟨b,o,cc,e,hp,hld⟩:=aZ.pos hl jb;exact⟨b,o,cc,e,hp,hld c hc⟩
def dP.at(hr:dP p h v n k f){i:Nat}(hi:i<n):∃b o c T,v=.sl b o n c/\p b/\ld h b (o+i*1) 1 false=some (.c T)/\kS p h T (k i) (f i):=by obtain⟨T,h1,h2⟩:=hr;obtain⟨b,o,c,e,hp,hld⟩:=h1.pos jb;grind[rW]
def dP.keep(hr:dP p h v n k f)(hk:∀b,p b->h' b=h b)(hp:∀b,p b->q b):dP q h' v n k f:=by obtain⟨T,h1,h2⟩:=hr;exact⟨T,h1.keep hk hp,λi hi=>aZ.keep (h2 i hi) hk hp⟩
def dP.congr(hr:dP p h v n k f)(hf:∀i c,i<n->c<k i->f i c=f' i c):dP p h v n k f':=by obtain⟨T,h1,h2⟩:=hr;exact⟨T,h1,λi hi=>aZ.congr (h2 i hi) λc hc=>by grind⟩
def dP.len(hr:dP p h v n k f):lenV (.c v)=some (jN n):=hr.choose_spec.1.len
def dP.kn(hr:dP p h v n k f):v.kn=true:=hr.choose_spec.1.kn
end
theorem dP.fr{J J':St}(hW:WF J)(hf:Fr J J'){p:Nat->Prop}{v:B}{n:Nat}{k:Nat->Nat}{f:Nat->Nat->Rat}(hr:dP p J.h v n k f):dP (Lt J.aj) J'.h v n k f:=by obtain⟨T,h1,h2⟩:=hr;exact⟨T,h1.fr hW hf,λi hi=>aZ.fr hW hf (h2 i hi)⟩
def TM(T:Nat->B)(k:Nat->Nat)(f:Nat->Nat->Rat)(p:Nat->Prop)(h:Tr Bk)(i:Nat):Prop:=kS p h (T i) (k i) (f i)
abbrev adf(T:Nat->B)(k:Nat->Nat)(f:Nat->Nat->Rat)(ty:Nat)(h:Tr Bk)(b n lo hi:Nat):Prop:=NF (TM T k f) h b n (λi=>[T i]) 1 ty lo hi
def FI(T:Nat->B)(k:Nat->Nat)(f:Nat->Nat->Rat)(j:Nat):QK (TM T k f) j:=λ_ _ _ _ hp hk hq=>aZ.keep hp hk hq
def alZ(T:Nat->B):LG (λi=>[T i]) 1:=λ_=>rfl
section
variable {T:Nat→B} {k:Nat→Nat} {f:Nat→Nat→Rat} {h h' : Tr Bk} {b n ty lo hi:Nat}
def adf.push(ho:adf T k f ty h b n lo hi){hi1 nx n':Nat}{h1:Tr Bk}{v:B}(hx:kS (λb=>hi<=b/\b<hi1) h1 v (k n) (f n))(hh:∀b,lo<=b->b<hi->h1 b=h b)(h2:hi<=hi1)(h3:hi1<=nx)(h4:nx<n')(h5:lo<=hi)
  (hb:h' nx=some ⟨bf n (λi=>[T i])++[v],some (1,ty)⟩) (hk:∀c,lo<=c->c<hi1->n=0\/c≠b->h' c=h1 c):adf (aO T n v) k f ty h' nx (n+1) lo n':=by
 refine NF.push ho (λj _=>FI _ k f j) (λj hj p h hq=>?_) (hi1:=hi1) (h1:=h1) ?_ hh h2 h3 h4 h5 hb ?_ hk (λi hi=>?_) (alZ _)
 .grind[TM,aS]
 .grind[TM,aN]
 .rw[aN]
 grind[aS]
def adf.hrows(ho:adf T k f ty h b n lo hi){p:Nat->Prop}(hp:∀b,lo<=b->b<hi->p b):dP p h (aX n b) n k f:=by have hel:=λi (hi:i<n)=>ho.el (λj _=>FI T k f j) hi;refine⟨T,ho.hlp jj (λi hi=>?_) hp,λi hi=>aZ.keep (hel i hi) (λ_ _=>rfl) λb hb=>hp b hb.1 hb.2⟩;simp only[cw,cY,aZ.kn (hel i hi),cG]
end
end Go.Proofs.Xe
namespace Go.Proofs.Ins
def Iz(W:Rat)(q:fZ->Rat):Rat->List fZ->fZ->Rat
 |_,[],_=>0
 |Q,a::t,l=>(if a=l then uG (Q+q a-W)-uG (Q-W)else 0)+Iz W q (Q+q a) t l
def BQ(g:GL)(x:Nat->Rat)(l:fZ):Rat:=aK g.ds λd=>Iz d.1 (gq g x) 0 d.2 l
def NK(g:GL)(x:Nat->Rat)(l:fZ):Rat:=gq g x l-BQ g x l
def LM(W:Rat)(q:fZ->Rat)(Q:Rat)(a:fZ)(t:List fZ)(l:fZ):Iz W q Q (a::t) l=(if a=l then uG (Q+q a-W)-uG (Q-W)else 0)+Iz W q (Q+q a) t l:=rfl
def XH{W:Rat}{q:fZ->Rat}{l:fZ}:∀{t:List fZ}{Q:Rat},l∉t->Iz W q Q t l=0
 |[],_,_=>rfl
 |a::t,Q,h=>by unfold Iz;rw[ae (λe=>h (by simp[e])),XH (λhl=>h (by simp[hl]))];exact da 0
def U9{W:Rat}{q:fZ->Rat}{l a:fZ}:∀{t:List fZ}{Q:Rat},Iz W q Q (t++[a]) l=Iz W q Q t l+if a=l then uG (Q+aK t q+q a-W)-uG (Q+aK t q-W)else 0
 |[],Q=>by show(if a=l then uG (Q+q a-W)-uG (Q-W)else 0)+0=0+if a=l then uG (Q+0+q a-W)-uG (Q+0-W)else 0;grind
 |b::t,Q=>by rw[fh];unfold Iz;rw[U9];show _=_+if a=l then uG (Q+(q b+aK t q)+q a-W)-uG (Q+(q b+aK t q)-W)else 0;rw[show Q+(q b+aK t q)=Q+q b+aK t q by grind];grind
section
variable {n:Nat} {g:GL}
end
end Go.Proofs.Ins
