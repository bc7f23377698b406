import Derived.Test.YtodnohicahohdaaGreatDoorYh23
set_option linter.all false
set_option maxRecDepth 100000
set_option maxHeartbeats 8000000
namespace Go.Proofs.Xe
open Go.RowKit Go.Proofs.Ins
structure acP(k:Nat)(e:yg):Prop where
 c:e.c.length<=k
 a:e.a.length<=k
 t:∀j,j<e.a.length->(ix e.a j).length<=k
 p:∀j t,j<e.a.length->t<(ix e.a j).length->(ix (ix e.a j) t).length<=k
structure Xa(k:Nat)(g:dV):Prop where
 e:∀i,i<g.e.length->acP k (ix g.e i)
 n:g.e.length<=k
 d:g.d.length<=k
 l:∀j,j<g.d.length->(ix g.d j).l.length<=k
def acP.up{k l:Nat}{e:yg}(h:acP k e)(hk:k<=l):acP l e:=⟨ar h.c hk,ar h.a hk,λj hj=>ar (h.t j hj) hk,λj t hj ht=>ar (h.p j t hj ht) hk⟩
def Xa.up{k l:Nat}{g:dV}(h:Xa k g)(hk:k<=l):Xa l g:=⟨λi hi=>(h.e i hi).up hk,ar h.n hk,ar h.d hk,λj hj=>ar (h.l j hj) hk⟩
structure Built(J J':St)(ev dv:B)(g:dV):Prop where
 hg:jY (λb=>J.aj<=b/\b<J'.aj) J'.h ev dv g
 s:CW 1000000 g
 n:g.e.length<=4
 c:∀i,i<g.e.length->(ix g.e i).c.length<=6
 z:SzG g
 fr:Fr J J'
 l:Xa 8 g
def Xb(x:Nat):(sO (amt x)).fits 1000:=Ee ((sD x).mono jb)
def aht{w:Nat}(h:w<=16):(sO ((Int.ofNat w:Int):Rat)).fits 1000:=Ee ((Gs (k:=3) (by show w<16777216;omega) jj).mono jb)
def Oo{r:R3}{k l:Nat}(h:r.fits k)(hkl:k<=l):r.fits l:=⟨ar h.1 hkl,ar h.2 hkl⟩
def mX.built{J J':St}{dv:B}{n eb:Nat}{m:Nat->Rat}{cl:Nat->List C5}{bs:Nat->Nat}{A:Nat->B}{al:Nat->List fD}{dl:List oM}{lo hi:Nat}(hg:mX J'.h dv n eb m cl bs A al dl lo hi)(hn:n<=4)(hlo:J.aj<=lo)(hhi:hi<=J'.aj)(hm:∀i,i<n->∃v,m i=amt v)(hc:∀i,i<n->(cl i).length<=6/\∀k,k<(cl i).length->∃v,(ix (cl i) k).a=sO (amt v))
  (ha:∀i,i<n->Ib (cl i).length (al i)) (hd:dl.length<=3/\∀j,j<dl.length->(ix dl j).l.length<=4/\∃v,(ix dl j).w=sO (amt v)) (hf:Fr J J'):Built J J' (.sl eb 0 n .opn) dv ⟨iC n m cl al,dl⟩:=by
 have hlen:(iC n m cl al).length=n:=pG ..
 refine⟨(hg.grp .opn).keep (λ_ _=>rfl) λb hb=>⟨by have:=hb.1;omega,by have:=hb.2;omega⟩,⟨λi hi=>?_,λi hi=>?_,by show _<=_;rw[hlen];omega,by show dl.length<=_;have:=hd.1;omega,λi hi=>by have:=(hd.2 i hi).1;show(ix dl i).l.length<=_;omega⟩,by show _<=_;rw[hlen];exact hn,λi hi=>?_,λi hi k hk=>?_,hf,⟨λi hi=>?_,by show _<=_;rw[hlen];omega,by show dl.length<=_;have:=hd.1;omega,λj hj=>by have:=(hd.2 j hj).1;show(ix dl j).l.length<=_;omega⟩⟩
 .have hi:i<n:=by rw[<-hlen];exact hi
  show acz _ (ix (iC n m cl al) i)
  rw[oq m cl al hi]
  obtain⟨a1,a2⟩:=ha i hi
  refine⟨?_,λk hk=>?_,λj t p hj ht hp=>?_,by show(cl i).length<=_;have:=(hc i hi).1;omega,by show(al i).length<=_;omega,λj hj=>by have:=(a2 j hj).1;show(ix (al i) j).length<=_;omega,λj t hj ht=>?_⟩
  .obtain⟨v,e⟩:=hm i hi
   show(sO (m i)).fits _
   rw[e];exact Oo (Xb v) jb
  .obtain⟨v,e⟩:=(hc i hi).2 k hk
   rw[e];exact Oo (Xb v) jb
  .have hj:j<(al i).length:=hj
   have ht:t<(ix (al i) j).length:=ht
   obtain⟨w,hw,e⟩:=(((a2 j hj).2 t (by have:=(a2 j hj).1;omega)).1 p hp).2
   rw[e];exact Oo (aht hw) jb
  .have hj:j<(al i).length:=hj
   have ht:t<(ix (al i) j).length:=ht
   have h9:=((a2 j hj).2 t (by have:=(a2 j hj).1;omega)).2
   have:=(hc i hi).1
   show(ix (ix (al i) j) t).length<=_
   omega
 .obtain⟨-,v,e⟩:=hd.2 i hi
  rw[e];exact Oo (Xb v) jb
 .have hi:i<n:=by rw[<-hlen];exact hi
  show(ix (iC n m cl al) i).c.length<=6
  rw[oq m cl al hi];exact(hc i hi).1
 .have hi:i<n:=by rw[<-hlen];exact hi
  have hk:k<(ix (iC n m cl al) i).c.length:=hk
  show(ix (ix (iC n m cl al) i).c k).a.s.size+(ix (ix (iC n m cl al) i).c k).a.d.size<=_/\Sz (ix (ix (iC n m cl al) i).c k).a.q
  rw[oq m cl al hi]at hk⊢
  obtain⟨v,e⟩:=(hc i hi).2 k hk
  show(ix (cl i) k).a.s.size+(ix (cl i) k).a.d.size<=_/\Sz (ix (cl i) k).a.q
  rw[e,wO]
  exact⟨(akV v).two,akV v⟩
 .have hi:i<n:=by rw[<-hlen];exact hi
  show acP 8 (ix (iC n m cl al) i)
  rw[oq m cl al hi]
  obtain⟨a1,a2⟩:=ha i hi
  have hc6:=(hc i hi).1
  refine⟨by show(cl i).length<=_;omega,by show(al i).length<=_;omega,λj hj=>by have:=(a2 j hj).1;show(ix (al i) j).length<=_;omega,λj t hj ht=>?_⟩
  have hj:j<(al i).length:=hj
  have ht:t<(ix (al i) j).length:=ht
  have:=((a2 j hj).2 t (by have:=(a2 j hj).1;omega)).2
  show(ix (ix (al i) j) t).length<=_
  omega
def pY{α:Type}[Inhabited α](f:Nat->α){n i:Nat}(h:i<n):ix ((List.range n).map f) i=f i:=by rw[dY (by simpa using h)];simp
structure GR(C:B->List B)(J J':St)(t12 i:Nat)(gvv:B)(R:Nat->B)(ns:Nat->Nat)(M:Nat->Nat->Nat):Prop where
 b:J'.h t12=some ⟨C gvv,none⟩
 v:(i=0/\gvv=.aQ)\/∃b,gvv=.sl b 0 i .opn/\0<i/\J'.h b=some ⟨ones i R,some (1,30)⟩/\t12+1<=b/\b<J'.aj/\∀j,j<i->aZ (λx=>t12+1<=x/\x<b) J'.h 3 (R j) (min (ns j) 8) λk=>bY (amt (M j k))
 nx:t12+1<=J'.aj
 fr:Fr J J'
def ccF(c:List C5):Nat->List B:=λk=>Ym (Qy (ix c k))
def cpF(t:List yQ):Nat->List B:=λk=>AU (avG (ix t k))
section
variable {m0 m1 m2:B}
def ahu{J:St}(hW:WF J){p p':Nat->Prop}(e:yg)(he:acz 1000000 e)(hl:acP 1000 e){C A:B}(hC:lT p J.h C e.c)(hA:iO p' J.h A e.a):
  aB EN 296 [.agg [.bool e.m.n,.str e.m.s,.str e.m.d,C,A]] J λr J'=>(∃C' A',r=.agg [.bool (rn e.m.q),.str (rs e.m.q),.str (rd e.m.q),C',A']/\lT (λb=>J.aj<=b/\b<J'.aj) J'.h C' (e.c.map Qy)/\iO (λb=>J.aj<=b/\b<J'.aj) J'.h A' (e.a.map JH))/\Fr J J':=by
 refine aI (ig.o _ _) ig.h ?_
 unfold ig
 dsimp only
 have Om:=aZ.kn hC
 have hAk:=hA.kn
 have Fe:=aZ.len hC
 have hlenA:=hA.len
 have hlc:=hl.c
 have hla:=hl.a
 refine WN ?_
 refine aB.st (Fr J) (fr) λhF1=>?_
 refine(Ol hF1.wf e.m he.m).mono ?_
 rintro _ σ1 ⟨rfl,hf1⟩
 unfold rV rK
 have hF:=hF1.trans hf1
 have hle1:J.aj+1+1<=σ1.aj:=hf1.le
 have q0:σ1.h J.aj=some ⟨[.bool e.m.n,.str e.m.s,.str e.m.d,C,A],none⟩:=hf1.get hF1.wf ((au _ _ _ _ jb).trans (aA _ _ _))
 have q1:σ1.h (J.aj+1)=some ⟨[.bool (rn 0),.str (rs 0),.str (rd 0),.aQ,.aQ],none⟩:=hf1.get hF1.wf (aA _ _ _)
 generalize e.m.q=mq at*
 simp(disch:=try exact jz)only[go_sem,Om,Fe,ay q0]
 refine bI.mono (Q:=λex tm J'=>ex=.exit 0/\∃cv,r8 tm 1=.c (.ptr J.aj 0)/\r8 tm 2=.c (.ptr (J.aj+1) 0)/\r8 tm 3=.c (.ptr σ1.aj 0)/\J'.h σ1.aj=some ⟨[.bool (rn mq),.str (rs mq),.str (rd mq),cv,.aQ],none⟩/\fJ J'.h cv e.c.length (ccF e.c) 5 77 (σ1.aj+1) J'.aj/\Fr σ1 J'/\σ1.aj+1<=J'.aj)
  (aG (λq tm J'=>∃k cv,q=e.c.length-k/\k<=e.c.length/\r8 tm 1=.c (.ptr J.aj 0)/\r8 tm 2=.c (.ptr (J.aj+1) 0)/\r8 tm 3=.c (.ptr σ1.aj 0)/\r8 tm 19=.c C/\r8 tm 20=jN e.c.length/\r8 tm 21=jN k
   /\J'.h σ1.aj=some ⟨[.bool (rn mq),.str (rs mq),.str (rd mq),cv,.aQ],none⟩/\fJ J'.h cv k (ccF e.c) 5 77 (σ1.aj+1) J'.aj/\Fr σ1 J'/\σ1.aj+1<=J'.aj) e.c.length ?_ ?_) ?_
 .refine⟨0,.aQ,jb,jb,?_⟩
  refine WP ?_
  have hFr:=Fr.refl hF.wf
  exact⟨.nil,fr,jb⟩
 .rintro q tm J' ⟨k,cv,rfl,hk,t1,t2,t3,t19,t20,t21,q3,hO,hf,hnx⟩
  have hle:=hf.le
  simp(disch:=try exact jz)only[go_sem,t20,t21,aC]
  refine aH (λhlt=>?_) (λhlt=>?_)
  .obtain⟨b5,o5,c5,rfl,-,bD⟩:=aZ.pos hC jb
   have bD:=(hF.trans hf).ld hW (bD k hlt)
   unfold Ym at bD
   have hfit:=he.c k hlt
   have hG:ccF e.c k=[.int .i64 (ix e.c k).h,.int .i64 (ix e.c k).r,.bool (rn (ix e.c k).a.q),.str (rs (ix e.c k).a.q),.str (rd (ix e.c k).a.q)]:=rfl
   simp(disch:=try exact jz)only[go_sem,t19,t21,bD]
   refine aB.st (Fr J') (by have hFr:=Fr.refl hf.wf;exact fr) λhF3=>?_
   refine(Ol hF3.wf _ hfit).mono ?_
   rintro _ σ4 ⟨rfl,hf4⟩
   unfold rV rK
   have iK:=hF3.trans hf4
   have qM:J'.aj+1<=σ4.aj:=hf4.le
   have q3':=iK.get hf.wf q3
   have q5:σ4.h J'.aj=some ⟨[.int .i64 (ix e.c k).h,.int .i64 (ix e.c k).r,.bool (ix e.c k).a.n,.str (ix e.c k).a.s,.str (ix e.c k).a.d],none⟩:=hf4.get hF3.wf (aA _ _ _)
   have hok:=hO.kn
   have acQ:=hf.trans iK
   rcases hO.cases with⟨rfl,rfl⟩|⟨hk0,b6,rfl,k1,k2,k3⟩
   .simp(disch:=try exact jz)only[go_sem,W4,aJ q5,ay q3',q3']
    refine⟨e.c.length-1,jb,1,_,rfl,jb,rfl,rfl,fJ.of (n:=0) (by rw[au _ _ _ _ jb,aA];rfl) jb jb,fr,jb⟩
   .have hrl:=uy (n:=k) (G:=ccF e.c) (e:=5) λ_=>rfl
    have hrt:=jC (n:=k) (G:=ccF e.c) (e:=5) λ_=>rfl
    have k1':=iK.get hf.wf k1
    simp(disch:=try exact jz)only[go_sem,W4,aJ q5,ay q3',q3',k1']
    refine⟨e.c.length-(k+1),jb,k+1,_,rfl,jb,rfl,rfl,fJ.of (by rw[au _ _ _ _ jb,aA,hrt];rfl) jb jb,fr,jb⟩
  .have:k=e.c.length:=jb
   subst this
   simp(disch:=try exact jz)only[go_sem,am]
   exact⟨cv,t1,t2,t3,q3,hO,hf,hnx⟩
 .rintro _ tm σ2 ⟨rfl,cv,t1,t2,t3,q3,hO,hf,hnx⟩
  have hle2:=hf.le
  have hF2:=hF.trans hf
  have hok:=hO.kn
  have q0':=hf.get hF.wf q0
  clear q0
  simp(disch:=try exact jz)only[go_sem,t1,ay q0',hlenA,hAk]
  refine bI.mono (Q:=λex tm J'=>ex=.exit 2/\∃av T,r8 tm 2=.c (.ptr (J.aj+1) 0)/\r8 tm 3=.c (.ptr σ1.aj 0)/\J'.h σ1.aj=some ⟨[.bool (rn mq),.str (rs mq),.str (rd mq),cv,av],none⟩/\fJ J'.h cv e.c.length (ccF e.c) 5 77 (σ1.aj+1) σ2.aj/\NU (RAi e.a) T J'.h av e.a.length 137 σ2.aj J'.aj/\Fr σ1 J'/\σ2.aj<=J'.aj)
   (aG (λq tm J'=>∃k av T,q=e.a.length-k/\k<=e.a.length/\r8 tm 2=.c (.ptr (J.aj+1) 0)/\r8 tm 3=.c (.ptr σ1.aj 0)/\r8 tm 37=.c A/\r8 tm 38=jN e.a.length/\r8 tm 39=jN k
    /\J'.h σ1.aj=some ⟨[.bool (rn mq),.str (rs mq),.str (rd mq),cv,av],none⟩/\fJ J'.h cv e.c.length (ccF e.c) 5 77 (σ1.aj+1) σ2.aj/\NU (RAi e.a) T J'.h av k 137 σ2.aj J'.aj/\Fr σ1 J'/\σ2.aj<=J'.aj) e.a.length ?_ ?_) ?_
  .refine⟨0,.aQ,λ_=>.aQ,jb,jb,?_⟩
   simp(disch:=try exact jz)only[go_sem,t2,t3,am]
   exact⟨q3,hO,NL.nil,hf,jb⟩
  .rintro q tm J' ⟨k,av,T,rfl,hk,t2,t3,t37,t38,t39,q3,hO,hN,hf,hn2⟩
   have hle:=hf.le
   simp(disch:=try exact jz)only[go_sem,t38,t39,aC]
   refine aH (λhlt=>?_) (λhlt=>?_)
   .obtain⟨b5,o5,c5,rfl,T1,bD,hT1⟩:=hA.at hlt
    have bD:=(hF.trans hf).ld hW bD
    have aB7:=hT1.kn
    have ak5:=hT1.len
    have hlt1:=hl.t k hlt
    have aB8:=hl.p k
    have azv:=he.a k
    have hRA:∀u p h,RAi e.a u p h k=dQ p h u (JH (ix e.a k)):=λ_ _ _=>rfl
    generalize ix e.a k=a at*
    simp(disch:=try exact jz)only[go_sem,t37,t39,bD,aB7,ak5]
    refine bI.mono (Q:=λex tm σ4=>ex=.exit 4/\∃tv U,r8 tm 2=.c (.ptr (J.aj+1) 0)/\r8 tm 3=.c (.ptr σ1.aj 0)/\r8 tm 8=.c (.ptr (J'.aj+1) 0)/\r8 tm 37=.c (.sl b5 o5 e.a.length c5)/\r8 tm 38=jN e.a.length/\r8 tm 39=jN k
     /\σ4.h (J'.aj+1)=some ⟨[tv],none⟩/\NU (RTi a) U σ4.h tv a.length 135 (J'.aj+1+1) σ4.aj/\Fr J' σ4/\J'.aj+1+1<=σ4.aj)
     (aG (λq tm σ4=>∃t tv U,q=a.length-t/\t<=a.length/\r8 tm 2=.c (.ptr (J.aj+1) 0)/\r8 tm 3=.c (.ptr σ1.aj 0)/\r8 tm 8=.c (.ptr (J'.aj+1) 0)/\r8 tm 37=.c (.sl b5 o5 e.a.length c5)/\r8 tm 38=jN e.a.length/\r8 tm 39=jN k/\r8 tm 44=.c T1/\r8 tm 45=jN a.length/\r8 tm 46=jN t
      /\σ4.h (J'.aj+1)=some ⟨[tv],none⟩/\NU (RTi a) U σ4.h tv t 135 (J'.aj+1+1) σ4.aj/\Fr J' σ4/\J'.aj+1+1<=σ4.aj) a.length ?_ ?_) ?_
    .refine⟨0,.aQ,λ_=>.aQ,jb,jb,?_⟩
     refine W1 ?_
     have hFr:=Fr.refl hf.wf
     exact⟨NL.nil,fr,jb⟩
    .rintro q tm σ4 ⟨t,tv,U,rfl,ht,t2,t3,t8,t37,t38,t39,t44,t45,t46,q8,hU,hf4,hn4⟩
     have qM:=hf4.le
     simp(disch:=try exact jz)only[go_sem,t45,t46,aC]
     refine aH (λaqn=>?_) (λaqn=>?_)
     .obtain⟨b6,o6,c6,rfl,P1,bV,hP1⟩:=hT1.at aqn
      have bV:=(hF.trans (hf.trans hf4)).ld hW bV
      have aB9:=aZ.kn hP1
      have JG:=aZ.len hP1
      have aDF:=aB8 t hlt aqn
      have azw:=azv t
      have hRT:∀u p h,RTi a u p h t=xw p h u (aho (ix a t)):=λ_ _ _=>rfl
      generalize ix a t=r at*
      simp(disch:=try exact jz)only[go_sem,t44,t46,bV,JG]
      refine bI.mono (Q:=λex tm σ5=>ex=.exit 6/\∃lv,r8 tm 2=.c (.ptr (J.aj+1) 0)/\r8 tm 3=.c (.ptr σ1.aj 0)/\r8 tm 8=.c (.ptr (J'.aj+1) 0)/\r8 tm 37=.c (.sl b5 o5 e.a.length c5)/\r8 tm 38=jN e.a.length/\r8 tm 39=jN k/\r8 tm 44=.c (.sl b6 o6 a.length c6)/\r8 tm 45=jN a.length/\r8 tm 46=jN t/\r8 tm 11=.c lv/\fJ σ5.h lv r.length (cpF r) 5 134 σ4.aj σ5.aj/\Fr σ4 σ5)
       (aG (λq tm σ5=>∃l lv,q=r.length-l/\l<=r.length/\r8 tm 2=.c (.ptr (J.aj+1) 0)/\r8 tm 3=.c (.ptr σ1.aj 0)/\r8 tm 8=.c (.ptr (J'.aj+1) 0)/\r8 tm 37=.c (.sl b5 o5 e.a.length c5)/\r8 tm 38=jN e.a.length/\r8 tm 39=jN k/\r8 tm 44=.c (.sl b6 o6 a.length c6)/\r8 tm 45=jN a.length/\r8 tm 46=jN t/\r8 tm 11=.c lv/\r8 tm 50=.c P1/\r8 tm 51=jN r.length/\r8 tm 52=jN l
        /\fJ σ5.h lv l (cpF r) 5 134 σ4.aj σ5.aj/\Fr σ4 σ5) r.length ?_ ?_) ?_
      .refine⟨0,.aQ,jb,jb,?_⟩
       refine W1 ?_
       exact⟨.nil,Fr.refl hf4.wf⟩
      .rintro q tm σ5 ⟨l,lv,rfl,hll,t2,t3,t8,t37,t38,t39,t44,t45,t46,t11,t50,t51,t52,hO5,hf5⟩
       have vS:=hf5.le
       simp(disch:=try exact jz)only[go_sem,t51,t52,aC]
       refine aH (λJI=>?_) (λJI=>?_)
       .obtain⟨b7,o7,c7,rfl,-,dB⟩:=aZ.pos hP1 jb
        have dB:=((hF.trans (hf.trans hf4)).trans hf5).ld hW (dB l JI)
        unfold AU at dB
        have azx:=azw l hlt aqn JI
        simp(disch:=try exact jz)only[go_sem,t50,t52,dB]
        refine aB.st (Fr σ5) (by have hFr:=Fr.refl hf5.wf;exact fr) λjO=>?_
        refine(Ol jO.wf _ azx).mono ?_
        rintro _ σ6 ⟨rfl,gX⟩
        unfold rV rK
        have azy:=jO.trans gX
        have AZ:σ5.aj+1<=σ6.aj:=gX.le
        have q9:σ6.h σ5.aj=some ⟨[.int .i64 (ix r l).k,.bool (ix r l).b,.bool (ix r l).a.n,.str (ix r l).a.s,.str (ix r l).a.d],none⟩:=gX.get jO.wf (aA _ _ _)
        have hlk:=hO5.kn
        have aDG:=hf5.trans azy
        rcases hO5.cases with⟨rfl,rfl⟩|⟨hl0,b8,rfl,k1,k2,k3⟩
        .simp(disch:=try exact jz)only[go_sem,W4,aJ q9]
         refine⟨r.length-1,jb,1,_,rfl,jb,rfl,rfl,fJ.of (n:=0) (by rw[aA];rfl) jb jb,fr⟩
        .have k1':=azy.get hf5.wf k1
         have hrl:=uy (n:=l) (G:=cpF r) (e:=5) λ_=>rfl
         have hrt:=jC (n:=l) (G:=cpF r) (e:=5) λ_=>rfl
         simp(disch:=try exact jz)only[go_sem,W4,aJ q9,k1']
         refine⟨r.length-(l+1),jb,l+1,_,rfl,jb,rfl,rfl,fJ.of (by rw[aA,hrt];rfl) jb jb,fr⟩
       .have:l=r.length:=jb
        subst this
        simp(disch:=try exact jz)only[go_sem,am]
        exact⟨lv,t2,t3,t8,t37,t38,t39,t44,t45,t46,t11,hO5,hf5⟩
      .rintro _ tm σ5 ⟨rfl,lv,t2,t3,t8,t37,t38,t39,t44,t45,t46,t11,hO5,hf5⟩
       have vS:=hf5.le
       have hlk:=hO5.kn
       have htk:=hU.kn
       have q8':=hf5.get hf4.wf q8
       have aDH:=hf4.trans hf5
       have hx:RTi a lv (λb=>σ4.aj<=b/\b<σ5.aj) σ5.h t:=by rw[hRT];exact hO5.parts λb h1 h2=>⟨h1,h2⟩
       rcases hU.cases with⟨rfl,rfl⟩|⟨ht0,b8,rfl,k1,k2,k3⟩
       .simp(disch:=try exact jz)only[go_sem,W4,ay q8',q8',hlk]
        refine⟨a.length-1,jb,1,_,aO U 0 lv,rfl,jb,rfl,rfl,?_,fr,jb⟩
        refine hU.push (aqc a) hx (λb _ hb=>hf5.old b hb) vS jb jb jb (cells:=[lv]) rfl ?_ λb h1 h2 _=>?_
        .rw[au _ _ _ _ jb,aA]
        .rw[au _ _ _ _ jb,au _ _ _ _ jb,au _ _ _ _ jb]
       .have k1':=hf5.get hf4.wf k1
        have hrl:=uy (n:=t) (G:=λj=>[U j]) (e:=1) λ_=>rfl
        have hrt:=jC (n:=t) (G:=λj=>[U j]) (e:=1) λ_=>rfl
        simp(disch:=try exact jz)only[go_sem,W4,ay q8',q8',hlk,k1']
        refine⟨a.length-(t+1),jb,t+1,_,aO U t lv,rfl,jb,rfl,rfl,?_,fr,jb⟩
        refine hU.push (aqc a) hx (λb _ hb=>hf5.old b hb) vS jb jb jb rfl ?_ λb h1 h2 h3=>?_
        .rw[au _ _ _ _ jb,aA,hrt]
        .have h3:=h3 _ _ _ rfl
         rw[au _ _ _ _ jb,au _ _ _ _ jb,fE _ _ _ jb,au _ _ _ _ jb]
     .have:t=a.length:=jb
      subst this
      simp(disch:=try exact jz)only[go_sem,am]
      exact⟨tv,U,t2,t3,t8,t37,t38,t39,q8,hU,hf4,hn4⟩
    .rintro _ tm σ4 ⟨rfl,tv,U,t2,t3,t8,t37,t38,t39,q8,hU,hf4,hn4⟩
     have qM:=hf4.le
     have htk:=hU.kn
     have q3':=hf4.get hf.wf q3
     have hak:=hN.kn
     have hx:RAi e.a tv (λb=>J'.aj<=b/\b<σ4.aj) σ4.h k:=by rw[hRA];exact hU.aeu.keep (λ_ _=>rfl) λb hb=>⟨jb,hb.2⟩
     have aDI:=hf.trans hf4
     rcases hN.cases with⟨rfl,rfl⟩|⟨hk0,b6,rfl,k1,k2,k3⟩
     .simp(disch:=try exact jz)only[go_sem,W4,ay q8,htk,ay q3',q3']
      refine⟨e.a.length-1,jb,1,_,aO T 0 tv,rfl,jb,rfl,rfl,?_,?_,fr,jb⟩
      .exact hO.mono (λb h1 h2=>by rw[au _ _ _ _ jb,au _ _ _ _ jb,au _ _ _ _ jb,hf4.old b jb]) jp jp
      .refine hN.push (aqd e.a) hx (λb _ hb=>hf4.old b hb) qM jb jb hn2 (cells:=[tv]) rfl ?_ λb h1 h2 _=>?_
       .rw[au _ _ _ _ jb,aA]
       .rw[au _ _ _ _ jb,au _ _ _ _ jb,au _ _ _ _ jb]
     .have k1':=hf4.get hf.wf k1
      have hrl:=uy (n:=k) (G:=λj=>[T j]) (e:=1) λ_=>rfl
      have hrt:=jC (n:=k) (G:=λj=>[T j]) (e:=1) λ_=>rfl
      simp(disch:=try exact jz)only[go_sem,W4,ay q8,htk,ay q3',q3',k1']
      refine⟨e.a.length-(k+1),jb,k+1,_,aO T k tv,rfl,jb,rfl,rfl,?_,?_,fr,jb⟩
      .exact hO.mono (λb h1 h2=>by rw[au _ _ _ _ jb,au _ _ _ _ jb,fE _ _ _ jb,au _ _ _ _ jb,hf4.old b jb]) jp jp
      .refine hN.push (aqd e.a) hx (λb _ hb=>hf4.old b hb) qM jb jb hn2 rfl ?_ λb h1 h2 h3=>?_
       .rw[au _ _ _ _ jb,aA,hrt]
       .have h3:=h3 _ _ _ rfl
        rw[au _ _ _ _ jb,au _ _ _ _ jb,fE _ _ _ jb,au _ _ _ _ jb]
   .have:k=e.a.length:=jb
    subst this
    simp(disch:=try exact jz)only[go_sem,am]
    exact⟨av,T,t2,t3,q3,hO,hN,hf,hn2⟩
  .rintro _ tm σ3 ⟨rfl,av,T,t2,t3,q3,hO3,hN,hf,hn2⟩
   have hle3:=hf.le
   have hF3:=hF.trans hf
   have hak:=hN.kn
   have q1:=hf.get hF.wf q1
   simp(disch:=try exact jz)only[go_sem,W4,ay q3,hok,hak,aJ q1]
   refine⟨⟨_,_,rfl,?_,?_⟩,fr⟩
   .exact(hO3.claims (p:=λb=>σ1.aj+1<=b/\b<σ2.aj) λb h1 h2=>⟨h1,h2⟩).keep (λb hb=>au _ _ _ _ jb) λb hb=>⟨jb,by show b<σ3.aj;omega⟩
   .exact hN.aBX.keep (λb hb=>au _ _ _ _ jb) λb hb=>⟨jb,hb.2⟩
end
def ahv(G:Nat->List B)(n:Nat):je G n (G n)=G:=by
 funext i;unfold je;split
 .next e=>rw[e]
 .rfl
def ZO(n:Nat)(G:Nat->List B):bf (n+1) G=bf n G++G n:=by rw[jA,ahv]
def aqo{h:Tr Bk}{b o e:Nat}{l:List B}(hl:ld h b o e true=some (.agg l)):∃k,h b=some k/\k.rd=true/\(k.cells.drop o).take e=l/\l.length=e/\l.all B.kn=true:=by
 unfold ld at hl;cases hk:h b with
 |none=>rw[hk]at hl;cases hl
 |some k=>
  rw[hk]at hl
  dsimp only at hl
  cases hr:k.rd with
  |false=>rw[hr]at hl;cases hl
  |true=>
   rw[hr]at hl
   simp only[bB]at hl
   unfold zT at hl
   dsimp only at hl
   cases hx:(Nat.beq ((k.cells.drop o).take e).length e&&((k.cells.drop o).take e).all B.kn)with
   |false=>rw[hx]at hl;cases hl
   |true=>
    rw[hx]at hl
    cases hl
    rw[af]at hx
    exact⟨k,rfl,hr,rfl,aq hx.1,hx.2⟩
def ZP{h:Tr Bk}{b o e:Nat}{G:Nat->List B}:∀{n:Nat},0<n->(∀i,i<n->ld h b (o+i*e) e true=some (.agg (G i)))->∃k,h b=some k/\k.rd=true/\(k.cells.drop o).take (n*e)=bf n G/\(bf n G).length=n*e/\(bf n G).all B.kn=true
 |0,h0,_=>jb
 |n+1,_,hl=>by
  obtain⟨k,h1,h2,h3,h4,h5⟩:=aqo (hl n jb);by_cases hn:n=0
  .subst hn;rw[gT,cy]at h3;rw[ZO];refine⟨k,h1,h2,?_,?_,?_⟩
   .rw[cx,Nat.one_mul,h3];rfl
   .show([]++G 0).length=_;simp[h4]
   .show([]++G 0).all B.kn=_;simpa using h5
  .obtain⟨k',h1',-,h3',h4',h5'⟩:=ZP (n:=n) jb λi hi=>hl i jb;rw[h1]at h1';cases h1';rw[ZO];refine⟨k,h1,h2,?_,?_,?_⟩
   .rw[cf,List.take_add,h3',it,h3]
   .rw[az,h4',h4,cf]
   .rw[List.all_append,h5',h5];rfl
def aqp{p:Nat->Prop}{J:St}{e n:Nat}{v:B}{G:Nat->List B}(hl:aZ p J.h e v n G)(ty bytes:Nat)(s:V):agX ty e bytes s (.c v) J=sH ty e bytes s n (bf n G) J:=by
 rcases hl with⟨rfl,rfl⟩|⟨b,o,c,rfl,-,hld⟩
 .rfl
 .by_cases hn:n=0
  .subst hn;rfl
  .obtain⟨k,h1,h2,h3,h4,h5⟩:=ZP jb hld;rw[aek _ _ _ _ _ _ _ _ _ jb,h1];dsimp only;rw[h2,h3,h4,h5,Ze];rfl
def ZQ{J:St}(hW:WF J){p:Nat->Prop}{v:B}(l:List Ins.Lg)(hL:yh p J.h v l)(hl:l.length<=1000):
  aB EN 228 [.c v] J λr J'=>(∃v',r=.c v'/\yh (λb=>J.aj<=b/\b<J'.aj) J'.h v' l)/\Fr J J':=by
 refine aI (iZ.o _ _) iZ.h ?_
 unfold iZ
 dsimp only
 have hF:Fr J ⟨hset J.h J.aj ⟨[],none⟩,J.aj+1⟩:=fr
 have hap:=λs=>aqp (J:=⟨hset J.h J.aj ⟨[],none⟩,J.aj+1⟩) (aZ.fr hW hF hL) 114 16 s
 rcases hL with⟨h0,rfl⟩|⟨b,o,c,rfl,h1,h2⟩
 .refine WN ?_
  exact⟨⟨_,rfl,.inl ⟨h0,rfl⟩⟩,Fr.refl hW⟩
 .by_cases h0:l.length=0
  .rw[h0]at hap
   simp(disch:=try exact jz)only[go_sem,hap,h0]
   refine⟨⟨_,rfl,.inr ⟨J.aj,0,.ex 0,?_,λh=>jb,λi hi=>jb⟩⟩,hF⟩
   rw[h0]
  .simp(disch:=try exact jz)only[go_sem,hap]
   refine⟨⟨_,rfl,?_⟩,fr⟩
   exact bK _ (aA _ _ _) (by rw[DI _ _ jb]) ⟨jb,bL _⟩ (λ_=>rfl) jj λ_ _=>rfl
def RE(el:List yg)(C A:Nat->B)(p:Nat->Prop)(h:Tr Bk)(j:Nat):Prop:=lT p h (C j) ((ix el j).c.map Qy)/\iO p h (A j) ((ix el j).a.map JH)
def Kw(m:Nat->Rat)(C A:Nat->B):Nat->List B:=λj=>[.bool (rn (m j)),.str (rs (m j)),.str (rd (m j)),C j,A j]
def RD(dl:List oM)(L:Nat->B)(p:Nat->Prop)(h:Tr Bk)(j:Nat):Prop:=yh p h (L j) (ix dl j).l
def dbF(dl:List oM)(L:Nat->B):Nat->List B:=λj=>[.bool (rn (ix dl j).w.q),.str (rs (ix dl j).w.q),.str (rd (ix dl j).w.q),L j]
def Lr(el:List yg)(C A:Nat->B)(j:Nat):QK (RE el C A) j:=λ_ _ _ _ hp hk hq=>⟨aZ.keep hp.1 hk hq,hp.2.keep hk hq⟩
def avP(dl:List oM)(L:Nat->B)(j:Nat):QK (RD dl L) j:=λ_ _ _ _ hp hk hq=>aZ.keep hp hk hq
def uz(el:List yg):Nat->Rat:=λj=>(ix el j).m.q
section
variable {h h' h1:Tr Bk} {v x y:B} {n ty lo hi hi1 nx n' : Nat} {m:Nat→Rat} {C A L:Nat→B} {el:List yg} {dl:List oM}
def NL.asQ(ho:NL (RE el C A) h v n (Kw m C A) 5 ty lo hi)(hx:lT (λb=>hi<=b/\b<hi1) h1 x ((ix el n).c.map Qy))(hy:iO (λb=>hi<=b/\b<hi1) h1 y ((ix el n).a.map JH))(hh:∀b,lo<=b->b<hi->h1 b=h b)(h2:hi<=hi1)(h3:hi1<=nx)(h4:nx<n')(h5:lo<=hi){cells:List B}(hc:cells=bf n (Kw m C A)++[.bool (rn (m n)),.str (rs (m n)),.str (rd (m n)),x,y])
  (hb:h' nx=some ⟨cells,some (5,ty)⟩) (hk:∀b,lo<=b->b<hi1->(∀c m k,v=.sl c 0 m k->b≠c)->h' b=h1 b):NL (RE el (aO C n x) (aO A n y)) h' (.sl nx 0 (n+1) .opn) (n+1) (Kw m (aO C n x) (aO A n y)) 5 ty lo n':=by
 have hg:∀j,j<n->Kw m C A j=Kw m (aO C n x) (aO A n y) j:=λj hj=>by unfold Kw;rw[aS _ _ _ _ jb,aS _ _ _ _ jb]
 have ho':NL (RE el (aO C n x) (aO A n y)) h v n (Kw m (aO C n x) (aO A n y)) 5 ty lo hi:=NL.congr ho (λj hj p h hq=>by unfold RE;rw[aS _ _ _ _ jb,aS _ _ _ _ jb];exact hq) hg
 refine NL.push ho' (λj _=>Lr el _ _ j) (hi1:=hi1) (h1:=h1) (x:=[.bool (rn (m n)),.str (rs (m n)),.str (rd (m n)),x,y]) (by unfold RE;rw[aN,aN];exact⟨hx,hy⟩) hh h2 h3 h4 h5 ?_ hb hk (λ_ _=>rfl) (by unfold Kw;rw[aN,aN])
 rw[hc,bC hg]
def NL.asR(ho:NL (RD dl L) h v n (dbF dl L) 4 ty lo hi)(hx:yh (λb=>hi<=b/\b<hi1) h1 x (ix dl n).l)(hh:∀b,lo<=b->b<hi->h1 b=h b)(h2:hi<=hi1)(h3:hi1<=nx)(h4:nx<n')(h5:lo<=hi){cells:List B}(hc:cells=bf n (dbF dl L)++[.bool (rn (ix dl n).w.q),.str (rs (ix dl n).w.q),.str (rd (ix dl n).w.q),x])
  (hb:h' nx=some ⟨cells,some (4,ty)⟩) (hk:∀b,lo<=b->b<hi1->(∀c m k,v=.sl c 0 m k->b≠c)->h' b=h1 b):NL (RD dl (aO L n x)) h' (.sl nx 0 (n+1) .opn) (n+1) (dbF dl (aO L n x)) 4 ty lo n':=by
 have hg:∀j,j<n->dbF dl L j=dbF dl (aO L n x) j:=λj hj=>by unfold dbF;rw[aS _ _ _ _ jb]
 have ho':NL (RD dl (aO L n x)) h v n (dbF dl (aO L n x)) 4 ty lo hi:=NL.congr ho (λj hj p h hq=>by unfold RD;rw[aS _ _ _ _ jb];exact hq) hg
 refine NL.push ho' (λj _=>avP dl _ j) (hi1:=hi1) (h1:=h1) (x:=[.bool (rn (ix dl n).w.q),.str (rs (ix dl n).w.q),.str (rd (ix dl n).w.q),x]) (by unfold RD;rw[aN];exact hx) hh h2 h3 h4 h5 ?_ hb hk (λ_ _=>rfl) (by unfold dbF;rw[aN])
 rw[hc,bC hg]
def NL.aCa(ho:NL (RD dl L) h v dl.length (dbF dl L) 4 ty lo hi):jF (λb=>lo<=b/\b<hi) h v (dl.map acN):=by
 have hl:(dl.map acN).length=dl.length:=cg ..;refine⟨L,?_,λj hj=>?_⟩
 .rw[hl];refine(fJ.hlp (p:=λb=>lo<=b/\b<hi) ho.own (λ_=>rfl) jj (λj hj=>?_) λb h1 h2=>⟨h1,h2⟩).congr λj hj=>by rw[Lj _ _ hj];rfl
  have hk:(L j).kn=true:=aZ.kn (ho.el (λj _=>avP dl L j) hj);unfold dbF;simp only[cw,cY,hk,wB,AP,cG]
 .rw[hl]at hj;rw[Lj _ _ hj];exact ho.el (λj _=>avP dl L j) hj
end
def CpG(g:dV)(m:Nat->Rat)(lo:Nat)(h:Tr Bk)(hi:Nat)(ov dv:B):Prop:=∃C A mid,NL (RE g.e C A) h ov g.e.length (Kw m C A) 5 73 lo mid/\jF (λb=>mid<=b/\b<hi) h dv (g.d.map acN)/\lo<=mid/\mid<=hi
def Fh{J:St}(hW:WF J){p:Nat->Prop}{ev dv:B}(g:dV)(hg:jY p J.h ev dv g)(hs:CW 1000000 g)(hl:Xa 1000 g):
  aB EN 246 [.agg [ev,dv]] J λr J'=>(∃ov pI,r=.agg [ov,pI]/\CpG g (uz g.e) J.aj J'.h J'.aj ov pI)/\Fr J J':=by
 refine aI (iH.o _ _) iH.h ?_
 unfold iH
 dsimp only
 have hek:=hg.e.kn
 have hdk:=hg.d.kn
 have hlenE:=hg.e.len
 have hlenD:=hg.d.len
 have hne:=hl.n
 have hnd:=hl.d
 simp(disch:=try exact jz)only[go_sem,hek,hlenE]
 refine bI.mono (Q:=λex tm J'=>ex=.exit 0/\∃ov C A,r8 tm 1=.c (.ptr J.aj 0)/\r8 tm 2=.c (.ptr (J.aj+1) 0)/\r8 tm 3=.c (.ptr (J.aj+1+1) 0)/\J'.h J.aj=some ⟨[ev,dv],none⟩/\J'.h (J.aj+1)=some ⟨[.aQ,.aQ],none⟩/\J'.h (J.aj+1+1)=some ⟨[ov,.aQ],none⟩
   /\NL (RE g.e C A) J'.h ov g.e.length (Kw (uz g.e) C A) 5 73 (J.aj+1+1+1) J'.aj/\Fr J J'/\J.aj+1+1+1<=J'.aj)
  (aG (λq tm J'=>∃i ov C A,q=g.e.length-i/\i<=g.e.length/\r8 tm 1=.c (.ptr J.aj 0)/\r8 tm 2=.c (.ptr (J.aj+1) 0)/\r8 tm 3=.c (.ptr (J.aj+1+1) 0)/\r8 tm 9=.c ev/\r8 tm 10=jN g.e.length/\r8 tm 11=jN i
   /\J'.h J.aj=some ⟨[ev,dv],none⟩/\J'.h (J.aj+1)=some ⟨[.aQ,.aQ],none⟩/\J'.h (J.aj+1+1)=some ⟨[ov,.aQ],none⟩/\NL (RE g.e C A) J'.h ov i (Kw (uz g.e) C A) 5 73 (J.aj+1+1+1) J'.aj/\Fr J J'/\J.aj+1+1+1<=J'.aj) g.e.length ?_ ?_) ?_
 .refine⟨0,.aQ,λ_=>.aQ,λ_=>.aQ,jb,jb,?_⟩
  refine WP ?_
  exact⟨NL.nil,fr,jb⟩
 .rintro q tm J' ⟨i,ov,C,A,rfl,hi,t1,t2,t3,t9,t10,t11,q0,q1,q2,hN,hf,hnx⟩
  have hle:=hf.le
  simp(disch:=try exact jz)only[go_sem,t10,t11,aC]
  refine aH (λhlt=>?_) (λhlt=>?_)
  .obtain⟨b5,o5,c5,rfl,C1,A1,bD,-,hC,hA⟩:=hg.e.at hlt
   have bD:=hf.ld hW bD
   have Om:=aZ.kn hC
   have hAk:=hA.kn
   have hok:=hN.own.kn
   have hse:=hs.e i hlt
   have hle1:=hl.e i hlt
   have hm:uz g.e i=(ix g.e i).m.q:=rfl
   simp(disch:=try exact jz)only[go_sem,t3,t9,t11,bD,Om,hAk,ay q2,hok]
   refine aB.st (Fr J') (by have hFr:=Fr.refl hf.wf;exact fr) λhF3=>?_
   have hf3:=hf.trans hF3
   refine(ahu hF3.wf (ix g.e i) hse hle1 (aZ.fr hW hf3 hC) (iO.fr hW hf3 hA)).mono ?_
   rintro _ σ4 ⟨⟨C2,A2,rfl,hC2,hA2⟩,hf4⟩
   rw[<-hm]
   have iK:=hF3.trans hf4
   have qM:J'.aj+1<=σ4.aj:=hf4.le
   have q2':=iK.get hf.wf q2
   have azz:=aZ.kn hC2
   have azA:=hA2.kn
   have q0':=iK.get hf.wf q0
   have q1':=iK.get hf.wf q1
   have hC3:lT (λb=>J'.aj<=b/\b<σ4.aj) σ4.h C2 ((ix g.e i).c.map Qy):=aZ.keep hC2 (λ_ _=>rfl) λb hb=>⟨ar (dp _) hb.1,hb.2⟩
   have hA3:iO (λb=>J'.aj<=b/\b<σ4.aj) σ4.h A2 ((ix g.e i).a.map JH):=hA2.keep (λ_ _=>rfl) λb hb=>⟨ar (dp _) hb.1,hb.2⟩
   have acQ:=hf.trans iK
   rcases hN.own.cases with⟨rfl,rfl⟩|⟨hi0,b6,rfl,k1,k2,k3⟩
   .simp(disch:=try exact jz)only[go_sem,W4,azz,azA,ay q2',q2']
    refine⟨g.e.length-1,jb,1,_,aO C 0 C2,aO A 0 A2,rfl,jb,rfl,q0',q1',rfl,?_,fr,jb⟩
    refine hN.asQ hC3 hA3 (λb _ hb=>iK.old b hb) jb jb jb hnx (cells:=[.bool (rn (uz g.e 0)),.str (rs (uz g.e 0)),.str (rd (uz g.e 0)),C2,A2]) rfl ?_ λb h1 h2 _=>?_
    .rw[au _ _ _ _ jb,aA]
    .rw[au _ _ _ _ jb,au _ _ _ _ jb,au _ _ _ _ jb]
   .have k1':=iK.get hf.wf k1
    have hrl:=uy (n:=i) (G:=Kw (uz g.e) C A) (e:=5) λ_=>rfl
    have hrt:=jC (n:=i) (G:=Kw (uz g.e) C A) (e:=5) λ_=>rfl
    simp(disch:=try exact jz)only[go_sem,W4,azz,azA,ay q2',q2',k1']
    refine⟨g.e.length-(i+1),jb,i+1,_,aO C i C2,aO A i A2,rfl,jb,rfl,q0',q1',rfl,?_,fr,jb⟩
    refine hN.asQ hC3 hA3 (λb _ hb=>iK.old b hb) jb jb jb hnx rfl ?_ λb h1 h2 h3=>?_
    .rw[au _ _ _ _ jb,aA,hrt]
    .have h3:=h3 _ _ _ rfl
     rw[au _ _ _ _ jb,au _ _ _ _ jb,fE _ _ _ jb,au _ _ _ _ jb]
  .have:i=g.e.length:=jb
   subst this
   simp(disch:=try exact jz)only[go_sem,am]
   exact⟨ov,C,A,t1,t2,t3,q0,q1,q2,hN,hf,hnx⟩
 .rintro _ tm σ2 ⟨rfl,ov,C,A,t1,t2,t3,q0,q1,q2,hN,hf,hnx⟩
  have hle2:=hf.le
  have hok:=hN.own.kn
  simp(disch:=try exact jz)only[go_sem,t1,ay q0,hdk,hlenD]
  refine bI.mono (Q:=λex tm J'=>ex=.exit 2/\∃pI L,r8 tm 2=.c (.ptr (J.aj+1) 0)/\r8 tm 3=.c (.ptr (J.aj+1+1) 0)/\J'.h (J.aj+1)=some ⟨[.aQ,.aQ],none⟩/\J'.h (J.aj+1+1)=some ⟨[ov,pI],none⟩
    /\NL (RE g.e C A) J'.h ov g.e.length (Kw (uz g.e) C A) 5 73 (J.aj+1+1+1) σ2.aj/\NL (RD g.d L) J'.h pI g.d.length (dbF g.d L) 4 140 σ2.aj J'.aj/\Fr J J'/\σ2.aj<=J'.aj)
   (aG (λq tm J'=>∃i pI L,q=g.d.length-i/\i<=g.d.length/\r8 tm 2=.c (.ptr (J.aj+1) 0)/\r8 tm 3=.c (.ptr (J.aj+1+1) 0)/\r8 tm 24=.c dv/\r8 tm 25=jN g.d.length/\r8 tm 26=jN i
    /\J'.h (J.aj+1)=some ⟨[.aQ,.aQ],none⟩/\J'.h (J.aj+1+1)=some ⟨[ov,pI],none⟩/\NL (RE g.e C A) J'.h ov g.e.length (Kw (uz g.e) C A) 5 73 (J.aj+1+1+1) σ2.aj/\NL (RD g.d L) J'.h pI i (dbF g.d L) 4 140 σ2.aj J'.aj/\Fr J J'/\σ2.aj<=J'.aj) g.d.length ?_ ?_) ?_
  .refine⟨0,.aQ,λ_=>.aQ,jb,jb,?_⟩
   simp(disch:=try exact jz)only[go_sem,t2,t3,am]
   exact⟨q1,q2,hN,NL.nil,hf,jb⟩
  .rintro q tm J' ⟨i,pI,L,rfl,hi,t2,t3,t24,t25,t26,q1,q2,hN,hD,hf,hn2⟩
   have hle:=hf.le
   simp(disch:=try exact jz)only[go_sem,t25,t26,aC]
   refine aH (λhlt=>?_) (λhlt=>?_)
   .obtain⟨b5,o5,c5,rfl,T1,bD,hT⟩:=hg.d.el hlt
    have bD:=hf.ld hW bD
    have Ll:=aZ.kn hT
    have ahw:=hD.own.kn
    have hsw:=hs.w i hlt
    have hll:=hl.l i hlt
    simp(disch:=try exact jz)only[go_sem,t3,t24,t26,bD,Ll,ay q2,ahw]
    refine aB.st (Fr J') (by have hFr:=Fr.refl hf.wf;exact fr) λhF3=>?_
    refine(Ol hF3.wf _ hsw).mono ?_
    rintro _ σ4 ⟨rfl,hf4⟩
    unfold rV rK
    have iK:=hF3.trans hf4
    have qM:J'.aj+1<=σ4.aj:=hf4.le
    have q7:σ4.h J'.aj=some ⟨[.bool (ix g.d i).w.n,.str (ix g.d i).w.s,.str (ix g.d i).w.d,T1],none⟩:=hf4.get hF3.wf (aA _ _ _)
    have acQ:=hf.trans iK
    have q2':=iK.get hf.wf q2
    simp(disch:=try exact jz)only[go_sem,Ll,ahw,ay q7,ay q2']
    refine(ZQ hf4.wf (ix g.d i).l (aZ.fr hW acQ hT) hll).mono ?_
    rintro _ σ5 ⟨⟨v',rfl,hV⟩,hf5⟩
    have eX:=iK.trans hf5
    have vS:=hf5.le
    have hvk:=aZ.kn hV
    have q25:=eX.get hf.wf q2
    have q15:=eX.get hf.wf q1
    have q75:=hf5.get hf4.wf q7
    have hV5:yh (λb=>J'.aj<=b/\b<σ5.aj) σ5.h v' (ix g.d i).l:=aZ.keep hV (λ_ _=>rfl) λb hb=>⟨jb,hb.2⟩
    have aCb:=hf.trans eX
    rcases hD.own.cases with⟨rfl,rfl⟩|⟨hi0,b6,rfl,k1,k2,k3⟩
    .simp(disch:=try exact jz)only[go_sem,W4,hvk,ay q25,q25]
     refine⟨g.d.length-1,jb,1,_,aO L 0 v',rfl,jb,rfl,q15,rfl,?_,?_,fr,jb⟩
     .exact NL.mono hN (λj _=>Lr g.e C A j) (λb h1 h2=>by rw[au _ _ _ _ jb,au _ _ _ _ jb,au _ _ _ _ jb,eX.old b jb]) jp
     .refine hD.asR hV5 (λb _ hb=>eX.old b hb) jb jb jb hn2 (cells:=[.bool (rn (ix g.d 0).w.q),.str (rs (ix g.d 0).w.q),.str (rd (ix g.d 0).w.q),v']) rfl ?_ λb h1 h2 _=>?_
      .rw[au _ _ _ _ jb,aA]
      .rw[au _ _ _ _ jb,au _ _ _ _ jb,au _ _ _ _ jb]
    .have k1':=eX.get hf.wf k1
     have hrl:=uy (n:=i) (G:=dbF g.d L) (e:=4) λ_=>rfl
     have hrt:=jC (n:=i) (G:=dbF g.d L) (e:=4) λ_=>rfl
     simp(disch:=try exact jz)only[go_sem,W4,hvk,ay q25,q25,k1']
     refine⟨g.d.length-(i+1),jb,i+1,_,aO L i v',rfl,jb,rfl,q15,rfl,?_,?_,fr,jb⟩
     .exact NL.mono hN (λj _=>Lr g.e C A j) (λb h1 h2=>by rw[au _ _ _ _ jb,au _ _ _ _ jb,fE _ _ _ jb,au _ _ _ _ jb,eX.old b jb]) jp
     .refine hD.asR hV5 (λb _ hb=>eX.old b hb) jb jb jb hn2 rfl ?_ λb h1 h2 h3=>?_
      .rw[au _ _ _ _ jb,aA,hrt]
      .have h3:=h3 _ _ _ rfl
       rw[au _ _ _ _ jb,au _ _ _ _ jb,fE _ _ _ jb,au _ _ _ _ jb]
   .have:i=g.d.length:=jb
    subst this
    simp(disch:=try exact jz)only[go_sem,am]
    exact⟨pI,L,t2,t3,q1,q2,hN,hD,hf,hn2⟩
  .rintro _ tm σ3 ⟨rfl,pI,L,t2,t3,q1,q2,hN,hD,hf,hn2⟩
   have ahw:=hD.own.kn
   have hle3:=hf.le
   simp(disch:=try exact jz)only[go_sem,W4,ay q2,hok,ahw,aJ q1]
   refine⟨⟨_,_,rfl,C,A,σ2.aj,?_,?_,jb,hn2⟩,fr⟩
   .have:=NL.mono hN (λj _=>Lr g.e C A j) (h':=hset σ3.h (J.aj+1) ⟨[ov,pI],none⟩) (λb h1 h2=>au _ _ _ _ jb) jp
    exact NL.down this (λj _=>Lr g.e C A j) jb
   .exact hD.aCa.keep (λb hb=>au _ _ _ _ jb) λb hb=>hb
section
variable (ρ:Nat→Nat)
def rnO:O->O
 |.k (.fn f c)=>.k (.fn (ρ f) c)
 |x=>x
def rnP:xq->xq
 |.call g a=>.call (rnO ρ g) a
 |p=>p
def rnA(o:AO):AO:=⟨o.dst,o.g,rnP ρ o.op⟩
def rnD:Dr->Dr
 |.fin q=>.fin q
 |.act q x r=>.act q ⟨x.i,x.us,x.os,rnA ρ x.o⟩ (rnD r)
def rnC:AC->AC
 |.ops l=>.ops (l.map (rnA ρ))
 |.drawn d pt ds=>.drawn (rnD ρ d) pt ds
 |.seq a b=>.seq (rnC a) (rnC b)
 |.cond c a b=>.cond c (rnC a) (rnC b)
 |.block i a=>.block i (rnC a)
 |.loop a=>.loop (rnC a)
 |c=>c
def rnF(F:AF):AF:=⟨F.n,rnC ρ F.body,F.res⟩
end
section
variable {ρ:Nat→Nat} {cl:Nat→List V→St→Option (V×St)}
def ZR(h:∀f a J,cl (ρ f) a J=cl f a J)(o:AO)(tm:Tr V)(J:St):stepG cl (rnA ρ o) tm J=stepG cl o tm J:=by
 obtain⟨d,g,op⟩:=o;unfold stepG rnA;dsimp only;have:oK cl (rnP ρ op) tm J=oK cl op tm J:=by
  cases op with
  |call g a=>
   unfold rnP oK
   show(match Pz _ tm with|some (f,args)=>cl f args J|none=>none)=(match Pz _ tm with|some (f,args)=>cl f args J|none=>none)
   unfold Pz
   dsimp only
   cases g with
   |t i=>rfl
   |k v=>
    cases v with
    |fn f c=>exact h _ _ _
    |_=>rfl
  |_=>rfl
 rw[this]
def UQ(h:∀f a J,cl (ρ f) a J=cl f a J):∀(l:List AO) (tm:Tr V) (J:St),oP cl (l.map (rnA ρ)) tm J=oP cl l tm J
 |[],_,_=>rfl
 |o::l,tm,J=>by
  show oP cl (rnA ρ o::l.map (rnA ρ)) tm J=_;unfold oP;rw[ZR h];have:(rnA ρ o).dst=o.dst:=rfl;rw[this];split
  .split
   .exact UQ h l _ _
   .rfl
  .rfl
def aeK(h:∀f a J,cl (ρ f) a J=cl f a J){pt:List (List Nat)}{dw bU:Tr V}:∀(d:Dr) (J:St) (res:List Rs) (pd:List jf),Bz cl pt dw bU (rnD ρ d) J res pd=Bz cl pt dw bU d J res pd
 |.fin _,_,_,_=>rfl
 |.act q x r,J,res,pd=>by unfold rnD Bz;dsimp only;have:(rnA ρ x.o).dst=x.o.dst:=rfl;simp only[ZR h,this,aeK h r]
theorem aeL {E:Env} (hE : ∀ f,ρ f=f∨((∀ a J,E.Nw (ρ f) a J=E.Nw f a J)∧∃ F,E.fns f=some F∧E.fns (ρ f)=some (rnF ρ F))) : ∀ n,(∀ c tm J,exec E n (rnC ρ c) tm J=exec E n c tm J)∧∀ f a J,iD E n (ρ f) a J=iD E n f a J
 | 0=>⟨fun c tm J=>by rw [exec,exec],fun f a J=>by rw [iD,iD]⟩
 | n+1=>by
  obtain ⟨h1,h2⟩:=aeL hE n
  have h3 : ∀ c,exec E n (rnC ρ c)=exec E n c:=fun c=>funext fun tm=>funext fun J=>h1 c tm J
  refine ⟨fun c tm J=>?_,fun f a J=>?_⟩
  ·cases c with
   | ops l=>rw [rnC,exec,exec,UQ h2]
   | drawn d pt ds=>rw [rnC,exec,exec];unfold xDr;simp only [aeK h2]
   | seq a b=>rw [rnC,exec,exec,h3,h3]
   | cond x a b =>
    rw [rnC,exec,exec]
    unfold YI
    split
    ·next t _=>cases t <;> exact h1 _ _ _
    ·rfl
   | block i a=>rw [rnC,exec,exec,h3]
   | loop a=>rw [rnC,exec,exec,h3,← h3 (.loop a),rnC]
   | _=>rfl
  ·rcases hE f with e|⟨h4,F,h5,h6⟩
   ·rw [e]
   ·rw [iD,iD,h4,h5,h6]
    have h7:(fun c=>exec E n c)=exec E n:=rfl
    unfold Hz
    simp only [rnF,h3]
theorem aB.rn{E:Env}(hE:∀f,ρ f=f\/((∀a J,E.Nw (ρ f) a J=E.Nw f a J)/\∃F,E.fns f=some F/\E.fns (ρ f)=some (rnF ρ F))){f:Nat}{a:List V}{J:St}{K:V->St->Prop}(h:aB E f a J K):aB E (ρ f) a J K:=by obtain⟨n,v,J',h1,h2⟩:=h;exact⟨n,v,J',by rw[(aeL hE n).2];exact h1,h2⟩
end
end Go.Proofs.Xe
