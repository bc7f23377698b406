import Derived.Test.YtjhhfbbndfpdaaaGreatDoorYg25
set_option linter.all false
set_option maxRecDepth 100000
set_option maxHeartbeats 8000000
namespace Go.Proofs.Xe
open Go.RowKit Go.Proofs.Ins
def RE(el:List vZ)(C A:Nat->B)(p:Nat->Prop)(h:Tr Bk)(j:Nat):Prop:=pJ p h (C j) ((ix el j).c.map Nv)/\iH p h (A j) ((ix el j).a.map Ht)
def J6(m:Nat->Rat)(C A:Nat->B):Nat->List B:=λj=>[.bool (rn (m j)),.str (rs (m j)),.str (rd (m j)),C j,A j]
def RD(dl:List pX)(L:Nat->B)(p:Nat->Prop)(h:Tr Bk)(j:Nat):Prop:=Bg p h (L j) (ix dl j).l
def dbF(dl:List pX)(L:Nat->B):Nat->List B:=λj=>[.bool (rn (ix dl j).w.q),.str (rs (ix dl j).w.q),.str (rd (ix dl j).w.q),L j]
def QF(el:List vZ)(C A:Nat->B)(j:Nat):QK (RE el C A) j:=λ_ _ _ _ hp hk hq=>⟨aZ.keep hp.1 hk hq,hp.2.keep hk hq⟩
def auY(dl:List pX)(L:Nat->B)(j:Nat):QK (RD dl L) j:=λ_ _ _ _ hp hk hq=>aZ.keep hp hk hq
def xU(el:List vZ):Nat->Rat:=λj=>(ix el j).m.q
section
variable {h h' h1:Tr Bk} {v x y:B} {n ty lo hi hi1 nx n' : Nat} {m:Nat→Rat} {C A L:Nat→B} {el:List vZ} {dl:List pX}
def NL.arM(ho:NL (RE el C A) h v n (J6 m C A) 5 ty lo hi)(hx:pJ (λb=>hi<=b/\b<hi1) h1 x ((ix el n).c.map Nv))(hy:iH (λb=>hi<=b/\b<hi1) h1 y ((ix el n).a.map Ht))(hh:∀b,lo<=b->b<hi->h1 b=h b)(h2:hi<=hi1)(h3:hi1<=nx)(h4:nx<n')(h5:lo<=hi){cells:List B}(hc:cells=aY n (J6 m C A)++[.bool (rn (m n)),.str (rs (m n)),.str (rd (m n)),x,y])
  (hb:h' nx=some ⟨cells,some (5,ty)⟩) (hk:∀b,lo<=b->b<hi1->(∀c m k,v=.sl c 0 m k->b≠c)->h' b=h1 b):NL (RE el (aJ C n x) (aJ A n y)) h' (.sl nx 0 (n+1) .opn) (n+1) (J6 m (aJ C n x) (aJ A n y)) 5 ty lo n':=by
 have hg:∀j,j<n->J6 m C A j=J6 m (aJ C n x) (aJ A n y) j:=λj hj=>by unfold J6;rw[aQ _ _ _ _ jb,aQ _ _ _ _ jb]
 have ho':NL (RE el (aJ C n x) (aJ A n y)) h v n (J6 m (aJ C n x) (aJ A n y)) 5 ty lo hi:=NL.congr ho (λj hj p h hq=>by unfold RE;rw[aQ _ _ _ _ jb,aQ _ _ _ _ jb];exact hq) hg
 refine NL.push ho' (λj _=>QF el _ _ j) (hi1:=hi1) (h1:=h1) (x:=[.bool (rn (m n)),.str (rs (m n)),.str (rd (m n)),x,y]) (by unfold RE;rw[aI,aI];exact⟨hx,hy⟩) hh h2 h3 h4 h5 ?_ hb hk (λ_ _=>rfl) (by unfold J6;rw[aI,aI])
 rw[hc,bf hg]
def NL.arN(ho:NL (RD dl L) h v n (dbF dl L) 4 ty lo hi)(hx:Bg (λb=>hi<=b/\b<hi1) h1 x (ix dl n).l)(hh:∀b,lo<=b->b<hi->h1 b=h b)(h2:hi<=hi1)(h3:hi1<=nx)(h4:nx<n')(h5:lo<=hi){cells:List B}(hc:cells=aY n (dbF dl L)++[.bool (rn (ix dl n).w.q),.str (rs (ix dl n).w.q),.str (rd (ix dl n).w.q),x])
  (hb:h' nx=some ⟨cells,some (4,ty)⟩) (hk:∀b,lo<=b->b<hi1->(∀c m k,v=.sl c 0 m k->b≠c)->h' b=h1 b):NL (RD dl (aJ L n x)) h' (.sl nx 0 (n+1) .opn) (n+1) (dbF dl (aJ L n x)) 4 ty lo n':=by
 have hg:∀j,j<n->dbF dl L j=dbF dl (aJ L n x) j:=λj hj=>by unfold dbF;rw[aQ _ _ _ _ jb]
 have ho':NL (RD dl (aJ L n x)) h v n (dbF dl (aJ L n x)) 4 ty lo hi:=NL.congr ho (λj hj p h hq=>by unfold RD;rw[aQ _ _ _ _ jb];exact hq) hg
 refine NL.push ho' (λj _=>auY dl _ j) (hi1:=hi1) (h1:=h1) (x:=[.bool (rn (ix dl n).w.q),.str (rs (ix dl n).w.q),.str (rd (ix dl n).w.q),x]) (by unfold RD;rw[aI];exact hx) hh h2 h3 h4 h5 ?_ hb hk (λ_ _=>rfl) (by unfold dbF;rw[aI])
 rw[hc,bf hg]
def NL.aBv(ho:NL (RD dl L) h v dl.length (dbF dl L) 4 ty lo hi):jY (λb=>lo<=b/\b<hi) h v (dl.map acr):=by
 have hl:(dl.map acr).length=dl.length:=cn ..;refine⟨L,?_,λj hj=>?_⟩
 .rw[hl];refine(iZ.hlp (p:=λb=>lo<=b/\b<hi) ho.own (λ_=>rfl) jj (λj hj=>?_) λb h1 h2=>⟨h1,h2⟩).congr λj hj=>by rw[La _ _ hj];rfl
  have hk:(L j).kn=true:=aZ.kn (ho.el (λj _=>auY dl L j) hj);unfold dbF;simp only[cy,di,hk,vK,Am,cI]
 .rw[hl]at hj;rw[La _ _ hj];exact ho.el (λj _=>auY dl L j) hj
end
def CpG(g:fH)(m:Nat->Rat)(lo:Nat)(h:Tr Bk)(hi:Nat)(ov dv:B):Prop:=∃C A mid,NL (RE g.e C A) h ov g.e.length (J6 m C A) 5 49 lo mid/\jY (λb=>mid<=b/\b<hi) h dv (g.d.map acr)/\lo<=mid/\mid<=hi
def ZL{J:St}(hW:WF J){p:Nat->Prop}{ev dv:B}(g:fH)(hg:rW p J.h ev dv g)(hs:Hg 1000000 g)(hl:acp 1000 g):
  aC EN 53 [.agg [ev,dv]] J λr J'=>(∃ov zy,r=.agg [ov,zy]/\CpG g (xU g.e) J.aj J'.h J'.aj ov zy)/\Fr J J':=by
 refine aN (mF.o _ _) mF.h ?_
 unfold mF
 dsimp only
 have hek:=hg.e.kn
 have hdk:=hg.d.kn
 have hlenE:=hg.e.len
 have hlenD:=hg.d.len
 have hne:=hl.n
 have hnd:=hl.d
 simp(disch:=try exact jz)only[go_sem,hek,hlenE]
 refine bM.mono (Q:=λex tm J'=>ex=.exit 0/\∃ov C A,r8 tm 1=.c (.ptr J.aj 0)/\r8 tm 2=.c (.ptr (J.aj+1) 0)/\r8 tm 3=.c (.ptr (J.aj+1+1) 0)/\J'.h J.aj=some ⟨[ev,dv],none⟩/\J'.h (J.aj+1)=some ⟨[.aO,.aO],none⟩/\J'.h (J.aj+1+1)=some ⟨[ov,.aO],none⟩
   /\NL (RE g.e C A) J'.h ov g.e.length (J6 (xU g.e) C A) 5 49 (J.aj+1+1+1) J'.aj/\Fr J J'/\J.aj+1+1+1<=J'.aj)
  (aF (λq tm J'=>∃i ov C A,q=g.e.length-i/\i<=g.e.length/\r8 tm 1=.c (.ptr J.aj 0)/\r8 tm 2=.c (.ptr (J.aj+1) 0)/\r8 tm 3=.c (.ptr (J.aj+1+1) 0)/\r8 tm 9=.c ev/\r8 tm 10=jN g.e.length/\r8 tm 11=jN i
   /\J'.h J.aj=some ⟨[ev,dv],none⟩/\J'.h (J.aj+1)=some ⟨[.aO,.aO],none⟩/\J'.h (J.aj+1+1)=some ⟨[ov,.aO],none⟩/\NL (RE g.e C A) J'.h ov i (J6 (xU g.e) C A) 5 49 (J.aj+1+1+1) J'.aj/\Fr J J'/\J.aj+1+1+1<=J'.aj) g.e.length ?_ ?_) ?_
 .refine⟨0,.aO,λ_=>.aO,λ_=>.aO,jb,jb,?_⟩
  refine WN ?_
  exact⟨NL.nil,fr,jb⟩
 .rintro q tm J' ⟨i,ov,C,A,rfl,hi,t1,t2,t3,t9,t10,t11,q0,q1,q2,hN,hf,hnx⟩
  have hle:=hf.le
  simp(disch:=try exact jz)only[go_sem,t10,t11,aA]
  refine aH (λhlt=>?_) (λhlt=>?_)
  .obtain⟨b5,o5,c5,rfl,C1,A1,bC,-,hC,hA⟩:=hg.e.at hlt
   have bC:=hf.ld hW bC
   have SY:=aZ.kn hC
   have hAk:=hA.kn
   have hok:=hN.own.kn
   have hse:=hs.e i hlt
   have hle1:=hl.e i hlt
   have hm:xU g.e i=(ix g.e i).m.q:=rfl
   simp(disch:=try exact jz)only[go_sem,t3,t9,t11,bC,SY,hAk,au q2,hok]
   refine aC.st (Fr J') (by have hFr:=Fr.refl hf.wf;exact fr) λhF3=>?_
   have hf3:=hf.trans hF3
   refine(ag4 hF3.wf (ix g.e i) hse hle1 (aZ.fr hW hf3 hC) (iH.fr hW hf3 hA)).mono ?_
   rintro _ σ4 ⟨⟨C2,A2,rfl,hC2,hA2⟩,hf4⟩
   rw[<-hm]
   have gB:=hF3.trans hf4
   have pK:J'.aj+1<=σ4.aj:=hf4.le
   have q2':=gB.get hf.wf q2
   have ayY:=aZ.kn hC2
   have ayZ:=hA2.kn
   have q0':=gB.get hf.wf q0
   have q1':=gB.get hf.wf q1
   have hC3:pJ (λb=>J'.aj<=b/\b<σ4.aj) σ4.h C2 ((ix g.e i).c.map Nv):=aZ.keep hC2 (λ_ _=>rfl) λb hb=>⟨ar (dx _) hb.1,hb.2⟩
   have hA3:iH (λb=>J'.aj<=b/\b<σ4.aj) σ4.h A2 ((ix g.e i).a.map Ht):=hA2.keep (λ_ _=>rfl) λb hb=>⟨ar (dx _) hb.1,hb.2⟩
   have acs:=hf.trans gB
   rcases hN.own.cases with⟨rfl,rfl⟩|⟨hi0,b6,rfl,k1,k2,k3⟩
   .simp(disch:=try exact jz)only[go_sem,W3,ayY,ayZ,au q2',q2']
    refine⟨g.e.length-1,jb,1,_,aJ C 0 C2,aJ A 0 A2,rfl,jb,rfl,q0',q1',rfl,?_,fr,jb⟩
    refine hN.arM hC3 hA3 (λb _ hb=>gB.old b hb) jb jb jb hnx (cells:=[.bool (rn (xU g.e 0)),.str (rs (xU g.e 0)),.str (rd (xU g.e 0)),C2,A2]) rfl ?_ λb h1 h2 _=>?_
    .rw[ak _ _ _ _ jb,ay]
    .rw[ak _ _ _ _ jb,ak _ _ _ _ jb,ak _ _ _ _ jb]
   .have k1':=gB.get hf.wf k1
    have hrl:=tK (n:=i) (G:=J6 (xU g.e) C A) (e:=5) λ_=>rfl
    have hrt:=jO (n:=i) (G:=J6 (xU g.e) C A) (e:=5) λ_=>rfl
    simp(disch:=try exact jz)only[go_sem,W3,ayY,ayZ,au q2',q2',k1']
    refine⟨g.e.length-(i+1),jb,i+1,_,aJ C i C2,aJ A i A2,rfl,jb,rfl,q0',q1',rfl,?_,fr,jb⟩
    refine hN.arM hC3 hA3 (λb _ hb=>gB.old b hb) jb jb jb hnx rfl ?_ λb h1 h2 h3=>?_
    .rw[ak _ _ _ _ jb,ay,hrt]
    .have h3:=h3 _ _ _ rfl
     rw[ak _ _ _ _ jb,ak _ _ _ _ jb,eY _ _ _ jb,ak _ _ _ _ jb]
  .have:i=g.e.length:=jb
   subst this
   simp(disch:=try exact jz)only[go_sem,am]
   exact⟨ov,C,A,t1,t2,t3,q0,q1,q2,hN,hf,hnx⟩
 .rintro _ tm σ2 ⟨rfl,ov,C,A,t1,t2,t3,q0,q1,q2,hN,hf,hnx⟩
  have hle2:=hf.le
  have hok:=hN.own.kn
  simp(disch:=try exact jz)only[go_sem,t1,au q0,hdk,hlenD]
  refine bM.mono (Q:=λex tm J'=>ex=.exit 2/\∃zy L,r8 tm 2=.c (.ptr (J.aj+1) 0)/\r8 tm 3=.c (.ptr (J.aj+1+1) 0)/\J'.h (J.aj+1)=some ⟨[.aO,.aO],none⟩/\J'.h (J.aj+1+1)=some ⟨[ov,zy],none⟩
    /\NL (RE g.e C A) J'.h ov g.e.length (J6 (xU g.e) C A) 5 49 (J.aj+1+1+1) σ2.aj/\NL (RD g.d L) J'.h zy g.d.length (dbF g.d L) 4 96 σ2.aj J'.aj/\Fr J J'/\σ2.aj<=J'.aj)
   (aF (λq tm J'=>∃i zy L,q=g.d.length-i/\i<=g.d.length/\r8 tm 2=.c (.ptr (J.aj+1) 0)/\r8 tm 3=.c (.ptr (J.aj+1+1) 0)/\r8 tm 24=.c dv/\r8 tm 25=jN g.d.length/\r8 tm 26=jN i
    /\J'.h (J.aj+1)=some ⟨[.aO,.aO],none⟩/\J'.h (J.aj+1+1)=some ⟨[ov,zy],none⟩/\NL (RE g.e C A) J'.h ov g.e.length (J6 (xU g.e) C A) 5 49 (J.aj+1+1+1) σ2.aj/\NL (RD g.d L) J'.h zy i (dbF g.d L) 4 96 σ2.aj J'.aj/\Fr J J'/\σ2.aj<=J'.aj) g.d.length ?_ ?_) ?_
  .refine⟨0,.aO,λ_=>.aO,jb,jb,?_⟩
   simp(disch:=try exact jz)only[go_sem,t2,t3,am]
   exact⟨q1,q2,hN,NL.nil,hf,jb⟩
  .rintro q tm J' ⟨i,zy,L,rfl,hi,t2,t3,t24,t25,t26,q1,q2,hN,hD,hf,hn2⟩
   have hle:=hf.le
   simp(disch:=try exact jz)only[go_sem,t25,t26,aA]
   refine aH (λhlt=>?_) (λhlt=>?_)
   .obtain⟨b5,o5,c5,rfl,T1,bC,hT⟩:=hg.d.el hlt
    have bC:=hf.ld hW bC
    have WT:=aZ.kn hT
    have ag6:=hD.own.kn
    have hsw:=hs.w i hlt
    have hll:=hl.l i hlt
    simp(disch:=try exact jz)only[go_sem,t3,t24,t26,bC,WT,au q2,ag6]
    refine aC.st (Fr J') (by have hFr:=Fr.refl hf.wf;exact fr) λhF3=>?_
    refine(Ob hF3.wf _ hsw).mono ?_
    rintro _ σ4 ⟨rfl,hf4⟩
    unfold rV rK
    have gB:=hF3.trans hf4
    have pK:J'.aj+1<=σ4.aj:=hf4.le
    have q7:σ4.h J'.aj=some ⟨[.bool (ix g.d i).w.n,.str (ix g.d i).w.s,.str (ix g.d i).w.d,T1],none⟩:=hf4.get hF3.wf (ay _ _ _)
    have acs:=hf.trans gB
    have q2':=gB.get hf.wf q2
    simp(disch:=try exact jz)only[go_sem,WT,ag6,au q7,au q2']
    refine(ZK hf4.wf (ix g.d i).l (aZ.fr hW acs hT) hll).mono ?_
    rintro _ σ5 ⟨⟨v',rfl,hV⟩,hf5⟩
    have dY:=gB.trans hf5
    have wu:=hf5.le
    have hvk:=aZ.kn hV
    have q25:=dY.get hf.wf q2
    have q15:=dY.get hf.wf q1
    have q75:=hf5.get hf4.wf q7
    have hV5:Bg (λb=>J'.aj<=b/\b<σ5.aj) σ5.h v' (ix g.d i).l:=aZ.keep hV (λ_ _=>rfl) λb hb=>⟨jb,hb.2⟩
    have aBw:=hf.trans dY
    rcases hD.own.cases with⟨rfl,rfl⟩|⟨hi0,b6,rfl,k1,k2,k3⟩
    .simp(disch:=try exact jz)only[go_sem,W3,hvk,au q25,q25]
     refine⟨g.d.length-1,jb,1,_,aJ L 0 v',rfl,jb,rfl,q15,rfl,?_,?_,fr,jb⟩
     .exact NL.mono hN (λj _=>QF g.e C A j) (λb h1 h2=>by rw[ak _ _ _ _ jb,ak _ _ _ _ jb,ak _ _ _ _ jb,dY.old b jb]) jp
     .refine hD.arN hV5 (λb _ hb=>dY.old b hb) jb jb jb hn2 (cells:=[.bool (rn (ix g.d 0).w.q),.str (rs (ix g.d 0).w.q),.str (rd (ix g.d 0).w.q),v']) rfl ?_ λb h1 h2 _=>?_
      .rw[ak _ _ _ _ jb,ay]
      .rw[ak _ _ _ _ jb,ak _ _ _ _ jb,ak _ _ _ _ jb]
    .have k1':=dY.get hf.wf k1
     have hrl:=tK (n:=i) (G:=dbF g.d L) (e:=4) λ_=>rfl
     have hrt:=jO (n:=i) (G:=dbF g.d L) (e:=4) λ_=>rfl
     simp(disch:=try exact jz)only[go_sem,W3,hvk,au q25,q25,k1']
     refine⟨g.d.length-(i+1),jb,i+1,_,aJ L i v',rfl,jb,rfl,q15,rfl,?_,?_,fr,jb⟩
     .exact NL.mono hN (λj _=>QF g.e C A j) (λb h1 h2=>by rw[ak _ _ _ _ jb,ak _ _ _ _ jb,eY _ _ _ jb,ak _ _ _ _ jb,dY.old b jb]) jp
     .refine hD.arN hV5 (λb _ hb=>dY.old b hb) jb jb jb hn2 rfl ?_ λb h1 h2 h3=>?_
      .rw[ak _ _ _ _ jb,ay,hrt]
      .have h3:=h3 _ _ _ rfl
       rw[ak _ _ _ _ jb,ak _ _ _ _ jb,eY _ _ _ jb,ak _ _ _ _ jb]
   .have:i=g.d.length:=jb
    subst this
    simp(disch:=try exact jz)only[go_sem,am]
    exact⟨zy,L,t2,t3,q1,q2,hN,hD,hf,hn2⟩
  .rintro _ tm σ3 ⟨rfl,zy,L,t2,t3,q1,q2,hN,hD,hf,hn2⟩
   have ag6:=hD.own.kn
   have hle3:=hf.le
   simp(disch:=try exact jz)only[go_sem,W3,au q2,hok,ag6,aG q1]
   refine⟨⟨_,_,rfl,C,A,σ2.aj,?_,?_,jb,hn2⟩,fr⟩
   .have:=NL.mono hN (λj _=>QF g.e C A j) (h':=hset σ3.h (J.aj+1) ⟨[ov,zy],none⟩) (λb h1 h2=>ak _ _ _ _ jb) jp
    exact NL.down this (λj _=>QF g.e C A j) jb
   .exact hD.aBv.keep (λb hb=>ak _ _ _ _ jb) λb hb=>hb
def JB(K:Nat->Rat):Nat->Bool
 |0=>false
 |n+1=>JB K n||decide (K n<0)
def apA(K:Nat->Rat)(n:Nat):Int:=if JB K n then .ofNat 7 else .ofNat 0
def U3{K:Nat->Rat}{j:Nat}(h:JB K j=true):∀n,j<=n->JB K n=true
 |0,h0=>by obtain rfl:j=0:=jb;exact h
 |n+1,hj=>by
  by_cases e:j=n+1
  .rw[<-e];exact h
  .show(JB K n||decide (K n<0))=true;rw[U3 h n jb];rfl
def ay0(q:Rat):decide (sg q<Int.ofNat 0)=decide (q<0):=by
 by_cases h:q<0
 .rw[aq h];have h0:q≠0:=by grind
  unfold sg;rw[ae h0,ab h];rfl
 .rw[af h];unfold sg;rw[ae h];split<;>rfl
def auZ{J:St}(hW:WF J)(q:Rat)(hq:Sz q):aC EN 48 [.agg (rK q)] J λr J'=>r=.c (.bool (decide (q<0)))/\Fr J J':=by refine aN (lu.o _ _) lu.h ?_;unfold lu;dsimp only;have h2:=hq.two;simp(disch:=try exact jz)only[go_sem,ay0];exact fr
def akB{J:St}(hW:WF J){p:Nat->Prop}{v:B}{n:Nat}(K:Nat->Rat)(hC:aZ p J.h 3 v n λj=>dP (K j))(hK:∀j,Sz (K j))(hn:n<=1000):
  aC EN 71 [.c v,.fn 48 []] J λr J'=>(∃i,r=.c (.int .i64 i)/\decide (Int.ofNat 0<=i)=JB K n)/\Fr J J':=by
 refine aN (gW.o _ _) gW.h ?_
 unfold gW
 dsimp only
 have hlen:=hC.len
 have hvk:=hC.kn
 simp(disch:=try exact jz)only[go_sem,hlen]
 refine aF (λq tm J'=>∃j,q=n-j/\j<=n/\r8 tm 0=.c v/\r8 tm 1=.fn 48 []/\r8 tm 7=jN n/\r8 tm 8=jN j/\JB K j=false/\Fr J J') n ?_ ?_
 .refine⟨0,jb,jb,?_⟩
  refine WN ?_
  exact⟨rfl,Fr.refl hW⟩
 .rintro q tm J' ⟨j,rfl,hj,t0,t1,t7,t8,hb,hf⟩
  simp(disch:=try exact jz)only[go_sem,t7,t8,aA]
  refine aH (λhlt=>?_) (λhlt=>?_)
  .obtain⟨b,o,c,rfl,-,hld⟩:=hC.pos jb
   have hld:=hf.ld hW (hld j hlt)
   unfold dP at hld
   simp(disch:=try exact jz)only[go_sem,t0,t1,t8,hld]
   refine(auZ hf.wf (K j) (hK j)).mono ?_
   rintro _ σ4 ⟨rfl,hf4⟩
   have acs:=hf.trans hf4
   have hn1:JB K (j+1)=(JB K j||decide (K j<0)):=rfl
   refine WX ?_
   refine aH (λhq=>?_) (λhq=>?_)
   .refine WX ?_
    rw[hb,aq hq]at hn1
    exact⟨⟨_,rfl,by rw[U3 hn1 n jb];exact aq kc⟩,acs⟩
   .refine WP ?_
    rw[hb,af hq]at hn1
    exact⟨n-(j+1),jb,j+1,rfl,jb,rfl,hn1,acs⟩
  .have:j=n:=jb
   subst this
   refine WX ?_
   exact⟨⟨_,rfl,by rw[hb];rfl⟩,hf⟩
def acu{J:St}(hW:WF J){p:Nat->Prop}{v:B}{n:Nat}(K:Nat->Rat)(hC:aZ p J.h 3 v n λj=>dP (K j))(hK:∀j,Sz (K j))(hn:n<=1000):
  aC EN 26 [.c v] J λr J'=>r=.c (.int .i64 (apA K n))/\Fr J J':=by
 refine aN (nC.o _ _) nC.h ?_
 unfold nC
 dsimp only
 have hc:aC EN 47 [.c v,.fn 48 []] J λr J'=>r=.c (.bool (JB K n))/\Fr J J':=by refine aN (fO.o _ _) fO.h ?_;unfold fO;dsimp only;refine WX ?_;refine(akB hW K hC hK hn).mono ?_;rintro _ σ2 ⟨⟨i,rfl,hi⟩,hf⟩;simp(disch:=try exact jz)only[go_sem,hi];exact hf
 refine WX ?_
 refine hc.mono ?_
 rintro _ σ2 ⟨rfl,hf⟩
 have hE:apA K n=if JB K n then .ofNat 7 else .ofNat 0:=rfl
 cases hb:JB K n with
 |true=>
  rw[hb]at hE
  refine WX ?_
  exact⟨by rw[hE];rfl,hf⟩
 |false=>
  rw[hb]at hE
  refine WX ?_
  exact⟨by rw[hE];rfl,hf⟩
def ZM(m K:Nat->Rat)(F:Nat->Bool)(i:Nat):Nat->Rat:=λj=>if j<i/\F j=true then sH (m j-K j) 0 else m j
def akC(m K:Nat->Rat)(F:Nat->Bool)(i:Nat)(h:F i=true):ZM m K F (i+1)=λj=>if j=i then sH (ZM m K F i i-K i) 0 else ZM m K F i j:=by
 funext j;unfold ZM;by_cases e:j=i
 .subst e;rw[ab ⟨jb,h⟩,ab rfl,ae (λh=>jb)]
 .rw[ae e];by_cases h1:j<i/\F j=true
  .rw[ab h1,ab ⟨jb,h1.2⟩]
  .rw[ae h1,ae (λh2=>h1 ⟨jb,h2.2⟩)]
def akD(m K:Nat->Rat)(F:Nat->Bool)(i:Nat)(h:F i=false):ZM m K F (i+1)=ZM m K F i:=by
 funext j;unfold ZM;by_cases h1:j<i/\F j=true
 .rw[ab h1,ab ⟨jb,h1.2⟩]
 .rw[ae h1,ae (λh2=>h1 ⟨by
   by_cases e:j=i
   .subst e;rw[h]at h2;exact absurd h2.2 jj
   .omega,h2.2⟩)]
def akE(m K:Nat->Rat)(F:Nat->Bool)(i:Nat):ZM m K F i i=m i:=ae λh=>jb
def au0{m:Nat->Rat}{C A:Nat->B}{n i:Nat}(hi:i<n)(q:Rat):wI (aY n (J6 m C A)) (i*5) (rK q)=some (aY n (J6 (λj=>if j=i then q else m j) C A)):=by
 have:=uS (e:=5) (k:=0) (vs:=(rK q)) (n:=n) (i:=i) (G:=J6 m C A) (λ_=>rfl) hi kc;rw[bO]at this;rw[this];show some _=some _;congr 1;refine bf λj hj=>?_;unfold iC J6;by_cases e:j=i
 .subst e;rw[ab rfl];simp
 .rw[ae e];simp[e]
def NL.au1{el:List vZ}{C A:Nat->B}{m m':Nat->Rat}{h h':Tr Bk}{b n ty lo hi:Nat}{c:Cap}(ho:NL (RE el C A) h (.sl b 0 n c) n (J6 m C A) 5 ty lo hi)(hb:h' b=some ⟨aY n (J6 m' C A),some (5,ty)⟩)(hk:∀x,x<b->h' x=h x):NL (RE el C A) h' (.sl b 0 n c) n (J6 m' C A) 5 ty lo hi:=by
 rcases ho with⟨-,h1⟩|⟨h0,b2,h1,k1,k2,k3,k4⟩
 .cases h1
 .cases h1;exact .inr ⟨h0,b,rfl,hb,k2,k3,λj hj=>QF el C A j _ _ _ _ (k4 j hj) (λx hx=>hk x hx.2) λx hx=>hx⟩
def NL.ekn{el:List vZ}{C A:Nat->B}{m:Nat->Rat}{h:Tr Bk}{v:B}{n ty lo hi:Nat}(ho:NL (RE el C A) h v n (J6 m C A) 5 ty lo hi)(j:Nat)(hj:j<n):(J6 m C A j).all B.kn=true:=by obtain⟨h1,h2⟩:=ho.el (λj _=>QF el C A j) hj;unfold J6;simp only[cy,di,aZ.kn h1,iH.kn h2,vK,Am,cI]
def au2{r:R3}{K:Rat}(hr:r.fits 1000000)(hK:Sm 1000 K):Sz (r.q-K):=((abI r.n r.s r.d).sub hK).mono (by have:=hr.1;have:=hr.2;unfold szK;omega)
def akF{J:St}(hW:WF J){p p1 p2:Nat->Prop}{ev dv cv iv:B}(g:fH)(hg:rW p J.h ev dv g)(hs:Hg 1000000 g)(hl:acp 1000 g)(K:Nat->Rat)(F:Nat->Bool)(hC:aZ p1 J.h 3 cv g.e.length λj=>dP (K j))(hI:aZ p2 J.h 1 iv g.e.length λj=>[.bool (F j)])(hK:∀j,Sm 1000 (K j)):
  aC EN 28 [.agg [ev,dv],.c cv,.c iv] J λr J'=>(∃ov zy,r=.agg [ov,zy]/\CpG g (ZM (xU g.e) K F g.e.length) J.aj J'.h J'.aj ov zy)/\Fr J J':=by
 refine aN (oV.o _ _) oV.h ?_
 unfold oV
 dsimp only
 have hek:=hg.e.kn
 have hdk:=hg.d.kn
 have ay1:=hI.len
 have hne:=hl.n
 simp(disch:=try exact jz)only[go_sem,hek,hdk]
 refine aC.st (Fr J) (fr) λhF=>?_
 refine(ZL hF.wf g (hg.fr hW hF) hs hl).mono ?_
 rintro _ σ1 ⟨⟨ov,zy,rfl,C,A,mid,hN,hD,hm1,hm2⟩,hf1⟩
 have hF1:=hF.trans hf1
 have hle1:J.aj+1+1<=σ1.aj:=hf1.le
 have hm1:J.aj+1+1<=mid:=hm1
 have q1:σ1.h (J.aj+1)=some ⟨[.aO,.aO],none⟩:=hf1.get hF.wf (ay _ _ _)
 have hok:=hN.own.kn
 have ag6:=hD.kn
 have h00:ZM (xU g.e) K F 0=xU g.e:=by funext j;exact ae λh=>jb
 simp(disch:=try exact jz)only[go_sem,ay1]
 refine aF (λq tm J'=>∃i,q=g.e.length-i/\i<=g.e.length/\r8 tm 1=.c cv/\r8 tm 6=.c (.ptr (J.aj+1) 0)/\r8 tm 7=.c (.ptr σ1.aj 0)/\r8 tm 13=.c iv/\r8 tm 14=jN g.e.length/\r8 tm 15=jN i
  /\J'.h (J.aj+1)=some ⟨[.aO,.aO],none⟩/\J'.h σ1.aj=some ⟨[ov,zy],none⟩/\NL (RE g.e C A) J'.h ov g.e.length (J6 (ZM (xU g.e) K F i) C A) 5 49 (J.aj+1+1) mid/\jY (λb=>mid<=b/\b<σ1.aj) J'.h zy (g.d.map acr)/\Fr J J'/\σ1.aj+1<=J'.aj) g.e.length ?_ ?_
 .refine⟨0,jb,jb,?_⟩
  refine WN ?_
  refine⟨q1,?_,?_,fr,jb⟩
  .rw[h00]
   refine NL.mono hN (λj _=>QF g.e C A j) ?_ jp
   intro b h1 h2
   rw[ak _ _ _ _ jb,ak _ _ _ _ jb]
  .refine hD.keep ?_ λb hb=>hb
   intro b hb
   have:=hb.2
   rw[ak _ _ _ _ jb,ak _ _ _ _ jb]
 .rintro q tm J' ⟨i,rfl,hi,t1,t6,t7,t13,t14,t15,q1,q7,hN,hD,hf,hnx⟩
  have hle:=hf.le
  simp(disch:=try exact jz)only[go_sem,t14,t15,aA]
  refine aH (λhlt=>?_) (λhlt=>?_)
  .obtain⟨b5,o5,c5,rfl,-,bC⟩:=hI.pos jb
   have bC:=hf.ld hW (tH (bC i hlt)).1
   obtain⟨b6,o6,c6,rfl,-,bJ⟩:=hC.pos jb
   have bJ:=hf.ld hW (bJ i hlt)
   unfold dP at bJ
   cases hFi:F i with
   |false=>
    rw[hFi]at bC
    simp(disch:=try exact jz)only[go_sem,W3,bC]
    refine⟨g.e.length-(i+1),jb,i+1,rfl,jb,rfl,q1,q7,by rw[akD _ _ _ _ hFi];exact hN,hD,hf,hnx⟩
   |true=>
    rw[hFi]at bC
    rcases hN with⟨h0,-⟩|⟨h0,ob,rfl,k1,k2,k3,k4⟩
    .omega
    have hN:NL (RE g.e C A) J'.h (.sl ob 0 g.e.length .opn) g.e.length (J6 (ZM (xU g.e) K F i) C A) 5 49 (J.aj+1+1) mid:=.inr ⟨h0,ob,rfl,k1,k2,k3,k4⟩
    have aBy:=WI (e:=5) (i:=i) k1 (by rw[Bd _ _ jb]) (λ_=>rfl) jj hN.ekn hlt
    have ZN:=wL aBy 0 3 true jj jj
    rw[ck,bO]at ZN
    unfold J6 yZ at ZN
    rw[akE]at ZN
    simp only[gg,fq,cH,bL,List.length_nil,cy,di,vK,Am,cI,Nat.reduceAdd,Nat.beq_refl,ce]at ZN
    have hsM:Sz (xU g.e i):=auV (hs.e i hlt).m jj
    have hsK:Sz (K i):=(hK i).mono (by unfold szK;omega)
    have hsS:Sz (xU g.e i-K i):=au2 (hs.e i hlt).m (hK i)
    have hz:=Sz.zero
    have hwr:=au0 (m:=ZM (xU g.e) K F i) (C:=C) (A:=A) hlt (sH (xU g.e i-K i) 0)
    simp(disch:=try exact jz)only[go_sem,W3,bC,au q7,hok,bJ,ZN,aG k1,hwr]
    refine⟨g.e.length-(i+1),jb,i+1,rfl,jb,rfl,q1,q7,?_,?_,fr,hnx⟩
    .rw[akC _ _ _ _ hFi,akE]
     exact hN.au1 (ay _ _ _) λx hx=>ak _ _ _ _ jb
    .refine hD.keep ?_ λb hb=>hb
     intro b hb
     have:=hb.1
     exact ak _ _ _ _ jb
  .have:i=g.e.length:=jb
   subst this
   simp(disch:=try exact jz)only[go_sem,t6,t7,au q7,hok,ag6,aG q1]
   refine⟨⟨_,_,rfl,C,A,mid,?_,?_,jb,jb⟩,fr⟩
   .refine NL.down (NL.mono hN (λj _=>QF g.e C A j) ?_ jp) (λj _=>QF g.e C A j) jb
    intro b h1 h2
    exact ak _ _ _ _ jb
   .refine hD.keep ?_ λb hb=>⟨hb.1,jb⟩
    intro b hb
    have:=hb.1
    exact ak _ _ _ _ jb
def CpG.kn{g:fH}{m:Nat->Rat}{lo hi:Nat}{h:Tr Bk}{ov dv:B}(hc:CpG g m lo h hi ov dv):ov.kn=true/\dv.kn=true:=by obtain⟨C,A,mid,h1,h2,-⟩:=hc;exact⟨h1.own.kn,h2.kn⟩
def qJ(M:Nat->Nat)(n:Nat)(j:Nat):Rat:=if j<n/\M j%3≠0 then amt (M j/3)else 0
def apC{J:St}(hW:WF J){p:Nat->Prop}{ev dv:B}(g:fH)(hg:rW p J.h ev dv g)(hn:g.e.length<=1000){n:Nat}{v:B}(M:Nat->Nat)(hv:HL J.h 1 v n λi=>[.int .u16 (.ofNat (M i))])(hM:∀i,i<n->M i<=65535):
  aC EN 5 [.agg [ev,dv],.c v] J λr J'=>∃rv,r=.c rv/\iZ J'.h rv g.e.length (λk=>dP (qJ M n k)) 3 44 J.aj J'.aj/\Fr J J':=by
 refine aN (Hl.o _ _) Hl.h ?_
 unfold Hl
 dsimp only
 have hek:=hg.e.kn
 have hdk:=hg.d.kn
 have hlenE:=hg.e.len
 have hlen:=hv.len
 generalize g.e.length=m at*
 simp(disch:=try exact jz)only[go_sem,hek,hlenE]
 refine aF (λq tm J'=>∃i rv,q=m-i/\i<=m/\r8 tm 1=.c v/\r8 tm 5=.c rv/\r8 tm 10=jN m/\r8 tm 11=jN i/\iZ J'.h rv i (λk=>dP (qJ M n k)) 3 44 J.aj J'.aj/\Fr J J') m ?_ ?_
 .refine⟨0,.aO,jb,jb,?_⟩
  refine WN ?_
  exact⟨.nil,fr⟩
 .rintro q tm J' ⟨i,rv,rfl,hi,t1,t5,t10,t11,hO,hf⟩
  have hle:=hf.le
  simp(disch:=try exact jz)only[go_sem,t10,t11,aA]
  refine aH (λhlt=>?_) (λhlt=>?_)
  .simp(disch:=try exact jz)only[go_sem,t1,t11,hlen,aA]
   refine Jf (λh1=>?_) (λh1=>?_)
   .obtain⟨b,o,c,rfl,hld⟩:=hv.one jb
    have hld:=hf.ld hW (hld i h1)
    have hb:=hf.wf.dh hld
    have hMi:=hM i h1
    simp(disch:=try exact jz)only[go_sem,t1,h1,hld]
    refine aH (λhm=>?_) (λhm=>?_)
    .have hq:qJ M n i=0:=ae λh=>h.2 (by simpa using hm)
     rcases hO.cases with⟨rfl,rfl⟩|⟨h0,bo,rfl,k1,k2,k3⟩
     .refine WP ?_
      refine⟨m-1,jb,1,_,rfl,jb,rfl,rfl,iZ.of (n:=0) (by rw[ay];show _=some (Bk.mk (aY 0 _++dP (qJ M n 0)) _);rw[hq];rfl) jb jb,fr⟩
     .have hrl:=tK (n:=i) (G:=λk=>dP (qJ M n k)) (e:=3) λ_=>rfl
      have hrt:=jO (n:=i) (G:=λk=>dP (qJ M n k)) (e:=3) λ_=>rfl
      simp(disch:=try exact jz)only[go_sem,W3,k1]
      refine⟨m-(i+1),jb,i+1,_,rfl,jb,rfl,rfl,iZ.of (by rw[ay,hrt];show _=some (Bk.mk (aY i _++dP (qJ M n i)) _);rw[hq];rfl) jb jb,fr⟩
    .have hq:qJ M n i=amt (M i/3):=ab ⟨h1,by simpa using hm⟩
     have h3:M i/3<=65535:=jb
     rcases hO.cases with⟨rfl,rfl⟩|⟨h0,bo,rfl,k1,k2,k3⟩
     .simp(disch:=try exact jz)only[go_sem,W3,hld]
      refine⟨m-1,jb,1,_,rfl,jb,rfl,rfl,iZ.of (n:=0) (by rw[ay];show _=some (Bk.mk (aY 0 _++dP (qJ M n 0)) _);rw[hq];rfl) jb jb,fr⟩
     .have hrl:=tK (n:=i) (G:=λk=>dP (qJ M n k)) (e:=3) λ_=>rfl
      have hrt:=jO (n:=i) (G:=λk=>dP (qJ M n k)) (e:=3) λ_=>rfl
      simp(disch:=try exact jz)only[go_sem,W3,hld,k1]
      refine⟨m-(i+1),jb,i+1,_,rfl,jb,rfl,rfl,iZ.of (by rw[ay,hrt];show _=some (Bk.mk (aY i _++dP (qJ M n i)) _);rw[hq];rfl) jb jb,fr⟩
   .have hq:qJ M n i=0:=ae λh=>h1 h.1
    rcases hO.cases with⟨rfl,rfl⟩|⟨h0,bo,rfl,k1,k2,k3⟩
    .simp(disch:=try exact jz)only[go_sem,W3,h1]
     refine⟨m-1,jb,1,_,rfl,jb,rfl,rfl,iZ.of (n:=0) (by rw[ay];show _=some (Bk.mk (aY 0 _++dP (qJ M n 0)) _);rw[hq];rfl) jb jb,fr⟩
    .have hrl:=tK (n:=i) (G:=λk=>dP (qJ M n k)) (e:=3) λ_=>rfl
     have hrt:=jO (n:=i) (G:=λk=>dP (qJ M n k)) (e:=3) λ_=>rfl
     simp(disch:=try exact jz)only[go_sem,W3,h1,k1]
     refine⟨m-(i+1),jb,i+1,_,rfl,jb,rfl,rfl,iZ.of (by rw[ay,hrt];show _=some (Bk.mk (aY i _++dP (qJ M n i)) _);rw[hq];rfl) jb jb,fr⟩
  .have:i=m:=jb
   subst this
   simp(disch:=try exact jz)only[go_sem,t5]
   exact⟨rv,rfl,hO,hf⟩
def cpG(g:fH)(m:Nat->Rat):fH:=⟨(List.range g.e.length).map λi=>⟨mV (m i),(ix g.e i).c.map Nv,(ix g.e i).a.map Ht⟩,g.d.map acr⟩
def CpG.grp{g:fH}{m:Nat->Rat}{lo hi:Nat}{h:Tr Bk}{ov dv:B}(hc:CpG g m lo h hi ov dv):rW (λ_=>True) h ov dv (cpG g m):=by
 obtain⟨C,A,mid,h1,h2,-⟩:=hc;have hl:(cpG g m).e.length=g.e.length:=by unfold cpG;simp
 have hix:∀i,i<g.e.length->ix (cpG g m).e i=⟨mV (m i),(ix g.e i).c.map Nv,(ix g.e i).a.map Ht⟩:=λi hi=>tJ _ hi;refine⟨⟨C,A,?_,λi hi=>?_⟩,h2.keep (λ_ _=>rfl) λ_ _=>trivial⟩
 .rw[hl];refine(iZ.hlp (p:=λ_=>True) h1.own (λ_=>rfl) jj (λj hj=>h1.ekn j hj) λ_ _ _=>trivial).congr λj hj=>?_;rw[hix j hj];rfl
 .rw[hl]at hi;rw[hix i hi];have:=h1.el (λj _=>QF g.e C A j) hi;exact⟨aZ.keep this.1 (λ_ _=>rfl) λ_ _=>trivial,this.2.keep (λ_ _=>rfl) λ_ _=>trivial⟩
end Go.Proofs.Xe
