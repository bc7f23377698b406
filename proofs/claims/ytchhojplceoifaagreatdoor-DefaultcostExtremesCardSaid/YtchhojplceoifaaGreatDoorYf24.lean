import Derived.Test.YtchhojplceoifaaGreatDoorYf23
set_option linter.all false
set_option maxRecDepth 100000
set_option maxHeartbeats 8000000
namespace Go.Proofs.Xe
open Go.RowKit Go.Proofs.Ins
def RE(el:List vP)(C A:Nat->B)(p:Nat->Prop)(h:Tr Bk)(j:Nat):Prop:=oN p h (C j) ((ix el j).c.map LP)/\iG p h (A j) ((ix el j).a.map G7)
def Jw(m:Nat->Rat)(C A:Nat->B):Nat->List B:=λj=>[.bool (rn (m j)),.str (rs (m j)),.str (rd (m j)),C j,A j]
def RD(dl:List qx)(L:Nat->B)(p:Nat->Prop)(h:Tr Bk)(j:Nat):Prop:=AU p h (L j) (ix dl j).l
def dbF(dl:List qx)(L:Nat->B):Nat->List B:=λj=>[.bool (rn (ix dl j).w.q),.str (rs (ix dl j).w.q),.str (rd (ix dl j).w.q),L j]
def Pn(el:List vP)(C A:Nat->B)(j:Nat):QK (RE el C A) j:=λ_ _ _ _ hp hk hq=>⟨aX.keep hp.1 hk hq,hp.2.keep hk hq⟩
def atx(dl:List qx)(L:Nat->B)(j:Nat):QK (RD dl L) j:=λ_ _ _ _ hp hk hq=>aX.keep hp hk hq
def xC(el:List vP):Nat->Rat:=λj=>(ix el j).m.q
section
variable {h h' h1:Tr Bk} {v x y:B} {n ty lo hi hi1 nx n' : Nat} {m:Nat→Rat} {C A L:Nat→B} {el:List vP} {dl:List qx}
def NL.aqu(ho:NL (RE el C A) h v n (Jw m C A) 5 ty lo hi)(hx:oN (λb=>hi<=b/\b<hi1) h1 x ((ix el n).c.map LP))(hy:iG (λb=>hi<=b/\b<hi1) h1 y ((ix el n).a.map G7))(hh:∀b,lo<=b->b<hi->h1 b=h b)(h2:hi<=hi1)(h3:hi1<=nx)(h4:nx<n')(h5:lo<=hi){cells:List B}(hc:cells=bC n (Jw m C A)++[.bool (rn (m n)),.str (rs (m n)),.str (rd (m n)),x,y])
  (hb:h' nx=some ⟨cells,some (5,ty)⟩) (hk:∀b,lo<=b->b<hi1->(∀c m k,v=.sl c 0 m k->b≠c)->h' b=h1 b):NL (RE el (aN C n x) (aN A n y)) h' (.sl nx 0 (n+1) .opn) (n+1) (Jw m (aN C n x) (aN A n y)) 5 ty lo n':=by
 have hg:∀j,j<n->Jw m C A j=Jw m (aN C n x) (aN A n y) j:=λj hj=>by unfold Jw;rw[aS _ _ _ _ jb,aS _ _ _ _ jb]
 have ho':NL (RE el (aN C n x) (aN A n y)) h v n (Jw m (aN C n x) (aN A n y)) 5 ty lo hi:=NL.congr ho (λj hj p h hq=>by unfold RE;rw[aS _ _ _ _ jb,aS _ _ _ _ jb];exact hq) hg
 refine NL.push ho' (λj _=>Pn el _ _ j) (hi1:=hi1) (h1:=h1) (x:=[.bool (rn (m n)),.str (rs (m n)),.str (rd (m n)),x,y]) (by unfold RE;rw[aK,aK];exact⟨hx,hy⟩) hh h2 h3 h4 h5 ?_ hb hk (λ_ _=>rfl) (by unfold Jw;rw[aK,aK])
 rw[hc,bH hg]
def NL.aqv(ho:NL (RD dl L) h v n (dbF dl L) 4 ty lo hi)(hx:AU (λb=>hi<=b/\b<hi1) h1 x (ix dl n).l)(hh:∀b,lo<=b->b<hi->h1 b=h b)(h2:hi<=hi1)(h3:hi1<=nx)(h4:nx<n')(h5:lo<=hi){cells:List B}(hc:cells=bC n (dbF dl L)++[.bool (rn (ix dl n).w.q),.str (rs (ix dl n).w.q),.str (rd (ix dl n).w.q),x])
  (hb:h' nx=some ⟨cells,some (4,ty)⟩) (hk:∀b,lo<=b->b<hi1->(∀c m k,v=.sl c 0 m k->b≠c)->h' b=h1 b):NL (RD dl (aN L n x)) h' (.sl nx 0 (n+1) .opn) (n+1) (dbF dl (aN L n x)) 4 ty lo n':=by
 have hg:∀j,j<n->dbF dl L j=dbF dl (aN L n x) j:=λj hj=>by unfold dbF;rw[aS _ _ _ _ jb]
 have ho':NL (RD dl (aN L n x)) h v n (dbF dl (aN L n x)) 4 ty lo hi:=NL.congr ho (λj hj p h hq=>by unfold RD;rw[aS _ _ _ _ jb];exact hq) hg
 refine NL.push ho' (λj _=>atx dl _ j) (hi1:=hi1) (h1:=h1) (x:=[.bool (rn (ix dl n).w.q),.str (rs (ix dl n).w.q),.str (rd (ix dl n).w.q),x]) (by unfold RD;rw[aK];exact hx) hh h2 h3 h4 h5 ?_ hb hk (λ_ _=>rfl) (by unfold dbF;rw[aK])
 rw[hc,bH hg]
def NL.azH(ho:NL (RD dl L) h v dl.length (dbF dl L) 4 ty lo hi):jK (λb=>lo<=b/\b<hi) h v (dl.map abq):=by
 have hl:(dl.map abq).length=dl.length:=cA ..;refine⟨L,?_,λj hj=>?_⟩
 .rw[hl];refine(iU.hlp (p:=λb=>lo<=b/\b<hi) ho.own (λ_=>rfl) jj (λj hj=>?_) λb h1 h2=>⟨h1,h2⟩).congr λj hj=>by rw[J3 _ _ hj];rfl
  have hk:(L j).kn=true:=aX.kn (ho.el (λj _=>atx dl L j) hj);unfold dbF;simp only[cD,dj,hk,vk,Ac,cU]
 .rw[hl]at hj;rw[J3 _ _ hj];exact ho.el (λj _=>atx dl L j) hj
end
def CpG(g:fC)(m:Nat->Rat)(lo:Nat)(h:Tr Bk)(hi:Nat)(ov dv:B):Prop:=∃C A mid,NL (RE g.e C A) h ov g.e.length (Jw m C A) 5 60 lo mid/\jK (λb=>mid<=b/\b<hi) h dv (g.d.map abq)/\lo<=mid/\mid<=hi
def YC{σ:St}(hW:WF σ){p:Nat->Prop}{ev dv:B}(g:fC)(hg:qy p σ.h ev dv g)(hs:GH 1000000 g)(hl:abp 1000 g):
  aC EN 127 [.agg [ev,dv]] σ λr σ'=>(∃ov yT,r=.agg [ov,yT]/\CpG g (xC g.e) σ.aj σ'.h σ'.aj ov yT)/\Fr σ σ':=by
 refine aO (lY.o _ _) lY.h ?_
 unfold lY
 dsimp only
 have hek:=hg.e.kn
 have hdk:=hg.d.kn
 have hlenE:=hg.e.len
 have hlenD:=hg.d.len
 have hne:=hl.n
 have hnd:=hl.d
 simp(disch:=try exact jz) only[go_sem,hek,hdk,hlenE]
 refine bM.mono (Q:=λex tm σ'=>ex=.exit 0/\∃ov C A,Tr.ah tm 1=.c (.ptr σ.aj 0)/\Tr.ah tm 2=.c (.ptr (σ.aj+1) 0)/\Tr.ah tm 3=.c (.ptr (σ.aj+1+1) 0)/\σ'.h σ.aj=some ⟨[ev,dv],none⟩/\σ'.h (σ.aj+1)=some ⟨[.aP,.aP],none⟩/\σ'.h (σ.aj+1+1)=some ⟨[ov,.aP],none⟩
   /\NL (RE g.e C A) σ'.h ov g.e.length (Jw (xC g.e) C A) 5 60 (σ.aj+1+1+1) σ'.aj/\Fr σ σ'/\σ.aj+1+1+1<=σ'.aj)
  (aF (λq tm σ'=>∃i ov C A,q=g.e.length-i/\i<=g.e.length/\Tr.ah tm 1=.c (.ptr σ.aj 0)/\Tr.ah tm 2=.c (.ptr (σ.aj+1) 0)/\Tr.ah tm 3=.c (.ptr (σ.aj+1+1) 0)/\Tr.ah tm 9=.c ev/\Tr.ah tm 10=jN g.e.length/\Tr.ah tm 11=jN i
   /\σ'.h σ.aj=some ⟨[ev,dv],none⟩/\σ'.h (σ.aj+1)=some ⟨[.aP,.aP],none⟩/\σ'.h (σ.aj+1+1)=some ⟨[ov,.aP],none⟩/\NL (RE g.e C A) σ'.h ov i (Jw (xC g.e) C A) 5 60 (σ.aj+1+1+1) σ'.aj/\Fr σ σ'/\σ.aj+1+1+1<=σ'.aj) g.e.length ?_ ?_) ?_
 .refine⟨0,.aP,λ_=>.aP,λ_=>.aP,jb,jb,?_⟩
  simp(disch:=try exact jz) only[go_sem,am]
  exact⟨NL.nil,fr,jb⟩
 .rintro q tm σ' ⟨i,ov,C,A,rfl,hi,t1,t2,t3,t9,t10,t11,q0,q1,q2,hN,hf,hnx⟩
  have hle:=hf.le
  simp(disch:=try exact jz) only[go_sem,t1,t2,t3,t9,t10,t11,aG]
  refine aH (λhlt=>?_) (λhlt=>?_)
  .obtain⟨b5,o5,c5,rfl,C1,A1,bf,-,hC,hA⟩:=hg.e.at hlt
   have bf:=hf.ld hW bf
   have LM:=aX.kn hC
   have hAk:=hA.kn
   have hok:=hN.own.kn
   have hse:=hs.e i hlt
   have hle1:=hl.e i hlt
   have hm:xC g.e i=(ix g.e i).m.q:=rfl
   simp(disch:=try exact jz) only[go_sem,t1,t2,t3,t9,t10,t11,bf,LM,hAk,au q2,hok]
   refine aC.st (Fr σ') (by have hFr:=Fr.refl hf.wf;exact fr) λhF3=>?_
   have hf3:=hf.trans hF3
   refine(afS hF3.wf (ix g.e i) hse hle1 (aX.fr hW hf3 hC) (iG.fr hW hf3 hA)).mono ?_
   rintro _ σ4 ⟨⟨C2,A2,rfl,hC2,hA2⟩,hf4⟩
   rw[<-hm]
   have jr:=hF3.trans hf4
   have pY:σ'.aj+1<=σ4.aj:=hf4.le
   have q2':=jr.get hf.wf q2
   have axf:=aX.kn hC2
   have axg:=hA2.kn
   have q0':=jr.get hf.wf q0
   have q1':=jr.get hf.wf q1
   have hC3:oN (λb=>σ'.aj<=b/\b<σ4.aj) σ4.h C2 ((ix g.e i).c.map LP):=aX.keep hC2 (λ_ _=>rfl) λb hb=>⟨ap (eh _) hb.1,hb.2⟩
   have hA3:iG (λb=>σ'.aj<=b/\b<σ4.aj) σ4.h A2 ((ix g.e i).a.map G7):=hA2.keep (λ_ _=>rfl) λb hb=>⟨ap (eh _) hb.1,hb.2⟩
   have abr:=hf.trans jr
   rcases hN.own.cases with⟨rfl,rfl⟩|⟨hi0,b6,rfl,k1,k2,k3⟩
   .simp(disch:=try exact jz) only[go_sem,t1,t2,t3,t9,t10,t11,axf,axg,au q2',q2']
    refine⟨g.e.length-1,jb,1,_,aN C 0 C2,aN A 0 A2,rfl,jb,rfl,q0',q1',rfl,?_,fr,jb⟩
    refine hN.aqu hC3 hA3 (λb _ hb=>jr.old b hb) jb jb jb hnx (cells:=[.bool (rn (xC g.e 0)),.str (rs (xC g.e 0)),.str (rd (xC g.e 0)),C2,A2]) rfl ?_ λb h1 h2 _=>?_
    .rw[ak _ _ _ _ jb,aA]
    .rw[ak _ _ _ _ jb,ak _ _ _ _ jb,ak _ _ _ _ jb]
   .have k1':=jr.get hf.wf k1
    have hrl:=sW (n:=i) (G:=Jw (xC g.e) C A) (e:=5) λ_=>rfl
    have hrt:=jC (n:=i) (G:=Jw (xC g.e) C A) (e:=5) λ_=>rfl
    simp(disch:=try exact jz) only[go_sem,t1,t2,t3,t9,t10,t11,axf,axg,au q2',q2',k1']
    refine⟨g.e.length-(i+1),jb,i+1,_,aN C i C2,aN A i A2,rfl,jb,rfl,q0',q1',rfl,?_,fr,jb⟩
    refine hN.aqu hC3 hA3 (λb _ hb=>jr.old b hb) jb jb jb hnx rfl ?_ λb h1 h2 h3=>?_
    .rw[ak _ _ _ _ jb,aA,hrt]
    .have h3:=h3 _ _ _ rfl
     rw[ak _ _ _ _ jb,ak _ _ _ _ jb,eX _ _ _ jb,ak _ _ _ _ jb]
  .have:i=g.e.length:=jb
   subst this
   simp(disch:=try exact jz) only[go_sem,am]
   exact⟨ov,C,A,t1,t2,t3,q0,q1,q2,hN,hf,hnx⟩
 .rintro _ tm σ2 ⟨rfl,ov,C,A,t1,t2,t3,q0,q1,q2,hN,hf,hnx⟩
  have hle2:=hf.le
  have hok:=hN.own.kn
  simp(disch:=try exact jz) only[go_sem,t1,t2,t3,au q0,hek,hdk,hlenD]
  refine bM.mono (Q:=λex tm σ'=>ex=.exit 2/\∃yT L,Tr.ah tm 2=.c (.ptr (σ.aj+1) 0)/\Tr.ah tm 3=.c (.ptr (σ.aj+1+1) 0)/\σ'.h (σ.aj+1)=some ⟨[.aP,.aP],none⟩/\σ'.h (σ.aj+1+1)=some ⟨[ov,yT],none⟩
    /\NL (RE g.e C A) σ'.h ov g.e.length (Jw (xC g.e) C A) 5 60 (σ.aj+1+1+1) σ2.aj/\NL (RD g.d L) σ'.h yT g.d.length (dbF g.d L) 4 132 σ2.aj σ'.aj/\Fr σ σ'/\σ2.aj<=σ'.aj)
   (aF (λq tm σ'=>∃i yT L,q=g.d.length-i/\i<=g.d.length/\Tr.ah tm 2=.c (.ptr (σ.aj+1) 0)/\Tr.ah tm 3=.c (.ptr (σ.aj+1+1) 0)/\Tr.ah tm 24=.c dv/\Tr.ah tm 25=jN g.d.length/\Tr.ah tm 26=jN i
    /\σ'.h (σ.aj+1)=some ⟨[.aP,.aP],none⟩/\σ'.h (σ.aj+1+1)=some ⟨[ov,yT],none⟩/\NL (RE g.e C A) σ'.h ov g.e.length (Jw (xC g.e) C A) 5 60 (σ.aj+1+1+1) σ2.aj/\NL (RD g.d L) σ'.h yT i (dbF g.d L) 4 132 σ2.aj σ'.aj/\Fr σ σ'/\σ2.aj<=σ'.aj) g.d.length ?_ ?_) ?_
  .refine⟨0,.aP,λ_=>.aP,jb,jb,?_⟩
   simp(disch:=try exact jz) only[go_sem,t2,t3,am]
   exact⟨q1,q2,hN,NL.nil,hf,jb⟩
  .rintro q tm σ' ⟨i,yT,L,rfl,hi,t2,t3,t24,t25,t26,q1,q2,hN,hD,hf,hn2⟩
   have hle:=hf.le
   simp(disch:=try exact jz) only[go_sem,t2,t3,t24,t25,t26,aG]
   refine aH (λhlt=>?_) (λhlt=>?_)
   .obtain⟨b5,o5,c5,rfl,T1,bf,hT⟩:=hg.d.el hlt
    have bf:=hf.ld hW bf
    have Rl:=aX.kn hT
    have YD:=hD.own.kn
    have hsw:=hs.w i hlt
    have hll:=hl.l i hlt
    simp(disch:=try exact jz) only[go_sem,t2,t3,t24,t25,t26,bf,Rl,au q2,hok,YD]
    refine aC.st (Fr σ') (by have hFr:=Fr.refl hf.wf;exact fr) λhF3=>?_
    refine(MP hF3.wf _ hsw).mono ?_
    rintro _ σ4 ⟨rfl,hf4⟩
    unfold rV
    have jr:=hF3.trans hf4
    have pY:σ'.aj+1<=σ4.aj:=hf4.le
    have q7:σ4.h σ'.aj=some ⟨[.bool (ix g.d i).w.n,.str (ix g.d i).w.s,.str (ix g.d i).w.d,T1],none⟩:=hf4.get hF3.wf (aA _ _ _)
    have abr:=hf.trans jr
    have q2':=jr.get hf.wf q2
    simp(disch:=try exact jz) only[go_sem,t2,t3,t24,t25,t26,Rl,hok,YD,au q7,au q2']
    refine(YB hf4.wf (ix g.d i).l (aX.fr hW abr hT) hll).mono ?_
    rintro _ σ5 ⟨⟨v',rfl,hV⟩,hf5⟩
    have gy:=jr.trans hf5
    have uU:=hf5.le
    have hvk:=aX.kn hV
    have q25:=gy.get hf.wf q2
    have q15:=gy.get hf.wf q1
    have q75:=hf5.get hf4.wf q7
    have hV5:AU (λb=>σ'.aj<=b/\b<σ5.aj) σ5.h v' (ix g.d i).l:=aX.keep hV (λ_ _=>rfl) λb hb=>⟨jb,hb.2⟩
    have azI:=hf.trans gy
    rcases hD.own.cases with⟨rfl,rfl⟩|⟨hi0,b6,rfl,k1,k2,k3⟩
    .simp(disch:=try exact jz) only[go_sem,t2,t3,t24,t25,t26,Rl,hok,hvk,au q75,au q25,q25]
     refine⟨g.d.length-1,jb,1,_,aN L 0 v',rfl,jb,rfl,q15,rfl,?_,?_,fr,jb⟩
     .exact NL.mono hN (λj _=>Pn g.e C A j) (λb h1 h2=>by rw[ak _ _ _ _ jb,ak _ _ _ _ jb,ak _ _ _ _ jb,gy.old b jb]) jp
     .refine hD.aqv hV5 (λb _ hb=>gy.old b hb) jb jb jb hn2 (cells:=[.bool (rn (ix g.d 0).w.q),.str (rs (ix g.d 0).w.q),.str (rd (ix g.d 0).w.q),v']) rfl ?_ λb h1 h2 _=>?_
      .rw[ak _ _ _ _ jb,aA]
      .rw[ak _ _ _ _ jb,ak _ _ _ _ jb,ak _ _ _ _ jb]
    .have k1':=gy.get hf.wf k1
     have hrl:=sW (n:=i) (G:=dbF g.d L) (e:=4) λ_=>rfl
     have hrt:=jC (n:=i) (G:=dbF g.d L) (e:=4) λ_=>rfl
     simp(disch:=try exact jz) only[go_sem,t2,t3,t24,t25,t26,Rl,hok,hvk,au q75,au q25,q25,k1']
     refine⟨g.d.length-(i+1),jb,i+1,_,aN L i v',rfl,jb,rfl,q15,rfl,?_,?_,fr,jb⟩
     .exact NL.mono hN (λj _=>Pn g.e C A j) (λb h1 h2=>by rw[ak _ _ _ _ jb,ak _ _ _ _ jb,eX _ _ _ jb,ak _ _ _ _ jb,gy.old b jb]) jp
     .refine hD.aqv hV5 (λb _ hb=>gy.old b hb) jb jb jb hn2 rfl ?_ λb h1 h2 h3=>?_
      .rw[ak _ _ _ _ jb,aA,hrt]
      .have h3:=h3 _ _ _ rfl
       rw[ak _ _ _ _ jb,ak _ _ _ _ jb,eX _ _ _ jb,ak _ _ _ _ jb]
   .have:i=g.d.length:=jb
    subst this
    simp(disch:=try exact jz) only[go_sem,am]
    exact⟨yT,L,t2,t3,q1,q2,hN,hD,hf,hn2⟩
  .rintro _ tm σ3 ⟨rfl,yT,L,t2,t3,q1,q2,hN,hD,hf,hn2⟩
   have YD:=hD.own.kn
   have hle3:=hf.le
   simp(disch:=try exact jz) only[go_sem,t2,t3,au q2,hok,YD,aI q1]
   refine⟨⟨_,_,rfl,C,A,σ2.aj,?_,?_,jb,hn2⟩,fr⟩
   .have:=NL.mono hN (λj _=>Pn g.e C A j) (h':=hset σ3.h (σ.aj+1) ⟨[ov,yT],none⟩) (λb h1 h2=>ak _ _ _ _ jb) jp
    exact NL.down this (λj _=>Pn g.e C A j) jb
   .exact hD.azH.keep (λb hb=>ak _ _ _ _ jb) λb hb=>hb
def I8(K:Nat->Rat):Nat->Bool
 |0=>false
 |n+1=>I8 K n||decide (K n<0)
def aoi(K:Nat->Rat)(n:Nat):Int:=if I8 K n then .ofNat 7 else .ofNat 0
def TG{K:Nat->Rat}{j:Nat}(h:I8 K j=true):∀n,j<=n->I8 K n=true
 |0,h0=>by obtain rfl:j=0:=jb;exact h
 |n+1,hj=>by
  by_cases e:j=n+1
  .rw[<-e];exact h
  .show(I8 K n||decide (K n<0))=true;rw[TG h n jb];rfl
def axh(q:Rat):decide (sg q<Int.ofNat 0)=decide (q<0):=by
 by_cases h:q<0
 .rw[be h];have h0:q≠0:=by grind
  unfold sg;rw[ab h0,ae h];rfl
 .rw[az h];unfold sg;rw[ab h];split<;>rfl
def aty{σ:St}(hW:WF σ)(q:Rat)(hq:Sz q):aC EN 169 [.agg [.bool (rn q),.str (rs q),.str (rd q)]] σ λr σ'=>r=.c (.bool (decide (q<0)))/\Fr σ σ':=by refine aO (lH.o _ _) lH.h ?_;unfold lH;dsimp only;have h2:=hq.two;simp(disch:=try exact jz) only[go_sem,hq,h2,axh];exact fr
def ajt{σ:St}(hW:WF σ){p:Nat->Prop}{v:B}{n:Nat}(K:Nat->Rat)(hC:aX p σ.h 3 v n λj=>dO (K j))(hK:∀j,Sz (K j))(hn:n<=1000):
  aC EN 102 [.c v,.fn 169 []] σ λr σ'=>(∃i,r=.c (.int .i64 i)/\decide (Int.ofNat 0<=i)=I8 K n)/\Fr σ σ':=by
 refine aO (gK.o _ _) gK.h ?_
 unfold gK
 dsimp only
 have hlen:=hC.len
 have hvk:=hC.kn
 simp(disch:=try exact jz) only[go_sem,hlen]
 refine aF (λq tm σ'=>∃j,q=n-j/\j<=n/\Tr.ah tm 0=.c v/\Tr.ah tm 1=.fn 169 []/\Tr.ah tm 7=jN n/\Tr.ah tm 8=jN j/\I8 K j=false/\Fr σ σ') n ?_ ?_
 .refine⟨0,jb,jb,?_⟩
  simp(disch:=try exact jz) only[go_sem,am]
  exact⟨rfl,Fr.refl hW⟩
 .rintro q tm σ' ⟨j,rfl,hj,t0,t1,t7,t8,hb,hf⟩
  simp(disch:=try exact jz) only[go_sem,t0,t1,t7,t8,aG]
  refine aH (λhlt=>?_) (λhlt=>?_)
  .obtain⟨b,o,c,rfl,-,hld⟩:=hC.pos jb
   have hld:=hf.ld hW (hld j hlt)
   unfold dO at hld
   simp(disch:=try exact jz) only[go_sem,t0,t1,t7,t8,hld]
   refine(aty hf.wf (K j) (hK j)).mono ?_
   rintro _ σ4 ⟨rfl,hf4⟩
   have abr:=hf.trans hf4
   have hn1:I8 K (j+1)=(I8 K j||decide (K j<0)):=rfl
   simp(disch:=try exact jz) only[go_sem,t0,t1,t7,t8]
   refine aH (λhq=>?_) (λhq=>?_)
   .simp(disch:=try exact jz) only[go_sem,t0,t1,t7,t8]
    rw[hb,be hq]at hn1
    exact⟨⟨_,rfl,by rw[TG hn1 n jb];exact be kc⟩,abr⟩
   .simp(disch:=try exact jz) only[go_sem,t0,t1,t7,t8]
    rw[hb,az hq]at hn1
    exact⟨n-(j+1),jb,j+1,rfl,jb,rfl,hn1,abr⟩
  .have:j=n:=jb
   subst this
   simp(disch:=try exact jz) only[go_sem,t0]
   exact⟨⟨_,rfl,by rw[hb];rfl⟩,hf⟩
def Po{σ:St}(hW:WF σ){p:Nat->Prop}{v:B}{n:Nat}(K:Nat->Rat)(hC:aX p σ.h 3 v n λj=>dO (K j))(hK:∀j,Sz (K j))(hn:n<=1000):
  aC EN 126 [.c v] σ λr σ'=>r=.c (.int .i64 (aoi K n))/\Fr σ σ':=by
 refine aO (nC.o _ _) nC.h ?_
 unfold nC
 dsimp only
 have hc:aC EN 47 [.c v,.fn 169 []] σ λr σ'=>r=.c (.bool (I8 K n))/\Fr σ σ':=by refine aO (fH.o _ _) fH.h ?_;unfold fH;dsimp only;simp(disch:=try exact jz) only[go_sem];refine(ajt hW K hC hK hn).mono ?_;rintro _ σ2 ⟨⟨i,rfl,hi⟩,hf⟩;simp(disch:=try exact jz) only[go_sem,hi];exact hf
 simp(disch:=try exact jz) only[go_sem]
 refine hc.mono ?_
 rintro _ σ2 ⟨rfl,hf⟩
 have hE:aoi K n=if I8 K n then .ofNat 7 else .ofNat 0:=rfl
 cases hb:I8 K n with
 |true=>
  rw[hb]at hE
  simp(disch:=try exact jz) only[go_sem]
  exact⟨by rw[hE];rfl,hf⟩
 |false=>
  rw[hb]at hE
  simp(disch:=try exact jz) only[go_sem]
  exact⟨by rw[hE];rfl,hf⟩
def YE(m K:Nat->Rat)(F:Nat->Bool)(i:Nat):Nat->Rat:=λj=>if j<i/\F j=true then vY (m j-K j) 0 else m j
def aju(m K:Nat->Rat)(F:Nat->Bool)(i:Nat)(h:F i=true):YE m K F (i+1)=λj=>if j=i then vY (YE m K F i i-K i) 0 else YE m K F i j:=by
 funext j;unfold YE;by_cases e:j=i
 .subst e;rw[ae ⟨jb,h⟩,ae rfl,ab (λh=>jb)]
 .rw[ab e];by_cases h1:j<i/\F j=true
  .rw[ae h1,ae ⟨jb,h1.2⟩]
  .rw[ab h1,ab (λh2=>h1 ⟨jb,h2.2⟩)]
def ajv(m K:Nat->Rat)(F:Nat->Bool)(i:Nat)(h:F i=false):YE m K F (i+1)=YE m K F i:=by
 funext j;unfold YE;by_cases h1:j<i/\F j=true
 .rw[ae h1,ae ⟨jb,h1.2⟩]
 .rw[ab h1,ab (λh2=>h1 ⟨by
   by_cases e:j=i
   .subst e;rw[h]at h2;exact absurd h2.2 jj
   .omega,h2.2⟩)]
def ajw(m K:Nat->Rat)(F:Nat->Bool)(i:Nat):YE m K F i i=m i:=ab λh=>jb
def atz{m:Nat->Rat}{C A:Nat->B}{n i:Nat}(hi:i<n)(q:Rat):yS (bC n (Jw m C A)) (i*5) [.bool (rn q),.str (rs q),.str (rd q)]=some (bC n (Jw (λj=>if j=i then q else m j) C A)):=by
 have:=yt (e:=5) (k:=0) (vs:=[.bool (rn q),.str (rs q),.str (rd q)]) (n:=n) (i:=i) (G:=Jw m C A) (λ_=>rfl) hi kc;rw[cB]at this;rw[this];show some _=some _;congr 1;refine bH λj hj=>?_;unfold iR Jw;by_cases e:j=i
 .subst e;rw[ae rfl];simp
 .rw[ab e];simp[e]
def NL.azK{el:List vP}{C A:Nat->B}{m m':Nat->Rat}{h h':Tr Bk}{b n ty lo hi:Nat}{c:Cap}(ho:NL (RE el C A) h (.sl b 0 n c) n (Jw m C A) 5 ty lo hi)(hb:h' b=some ⟨bC n (Jw m' C A),some (5,ty)⟩)(hk:∀x,x<b->h' x=h x):NL (RE el C A) h' (.sl b 0 n c) n (Jw m' C A) 5 ty lo hi:=by
 rcases ho with⟨-,h1⟩|⟨h0,b2,h1,k1,k2,k3,k4⟩
 .cases h1
 .cases h1;exact .inr ⟨h0,b,rfl,hb,k2,k3,λj hj=>Pn el C A j _ _ _ _ (k4 j hj) (λx hx=>hk x hx.2) λx hx=>hx⟩
def NL.ekn{el:List vP}{C A:Nat->B}{m:Nat->Rat}{h:Tr Bk}{v:B}{n ty lo hi:Nat}(ho:NL (RE el C A) h v n (Jw m C A) 5 ty lo hi)(j:Nat)(hj:j<n):(Jw m C A j).all B.kn=true:=by obtain⟨h1,h2⟩:=ho.el (λj _=>Pn el C A j) hj;unfold Jw;simp only[cD,dj,aX.kn h1,iG.kn h2,vk,Ac,cU]
def atA{r:R3}{K:Rat}(hr:r.fits 1000000)(hK:Sm 1000 K):Sz (r.q-K):=((aaO r.n r.s r.d).sub hK).mono (by have:=hr.1;have:=hr.2;unfold szK;omega)
def YF{σ:St}(hW:WF σ){p p1 p2:Nat->Prop}{ev dv cv iv:B}(g:fC)(hg:qy p σ.h ev dv g)(hs:GH 1000000 g)(hl:abp 1000 g)(K:Nat->Rat)(F:Nat->Bool)(hC:aX p1 σ.h 3 cv g.e.length λj=>dO (K j))(hI:aX p2 σ.h 1 iv g.e.length λj=>[.bool (F j)])(hK:∀j,Sm 1000 (K j)):
  aC EN 74 [.agg [ev,dv],.c cv,.c iv] σ λr σ'=>(∃ov yT,r=.agg [ov,yT]/\CpG g (YE (xC g.e) K F g.e.length) σ.aj σ'.h σ'.aj ov yT)/\Fr σ σ':=by
 refine aO (oH.o _ _) oH.h ?_
 unfold oH
 dsimp only
 have hek:=hg.e.kn
 have hdk:=hg.d.kn
 have axi:=hI.len
 have hne:=hl.n
 simp(disch:=try exact jz) only[go_sem,hek,hdk]
 refine aC.st (Fr σ) (fr) λhF=>?_
 refine(YC hF.wf g (hg.fr hW hF) hs hl).mono ?_
 rintro _ σ1 ⟨⟨ov,yT,rfl,C,A,mid,hN,hD,hm1,hm2⟩,hf1⟩
 have hF1:=hF.trans hf1
 have hle1:σ.aj+1+1<=σ1.aj:=hf1.le
 have hm1:σ.aj+1+1<=mid:=hm1
 have q1:σ1.h (σ.aj+1)=some ⟨[.aP,.aP],none⟩:=hf1.get hF.wf (aA _ _ _)
 have hok:=hN.own.kn
 have YD:=hD.kn
 have h00:YE (xC g.e) K F 0=xC g.e:=by funext j;exact ab λh=>jb
 simp(disch:=try exact jz) only[go_sem,hok,YD,axi]
 refine aF (λq tm σ'=>∃i,q=g.e.length-i/\i<=g.e.length/\Tr.ah tm 1=.c cv/\Tr.ah tm 6=.c (.ptr (σ.aj+1) 0)/\Tr.ah tm 7=.c (.ptr σ1.aj 0)/\Tr.ah tm 13=.c iv/\Tr.ah tm 14=jN g.e.length/\Tr.ah tm 15=jN i
  /\σ'.h (σ.aj+1)=some ⟨[.aP,.aP],none⟩/\σ'.h σ1.aj=some ⟨[ov,yT],none⟩/\NL (RE g.e C A) σ'.h ov g.e.length (Jw (YE (xC g.e) K F i) C A) 5 60 (σ.aj+1+1) mid/\jK (λb=>mid<=b/\b<σ1.aj) σ'.h yT (g.d.map abq)/\Fr σ σ'/\σ1.aj+1<=σ'.aj) g.e.length ?_ ?_
 .refine⟨0,jb,jb,?_⟩
  simp(disch:=try exact jz) only[go_sem,am]
  refine⟨q1,?_,?_,fr,jb⟩
  .rw[h00]
   refine NL.mono hN (λj _=>Pn g.e C A j) ?_ jp
   intro b h1 h2
   rw[ak _ _ _ _ jb,ak _ _ _ _ jb]
  .refine hD.keep ?_ λb hb=>hb
   intro b hb
   have:=hb.2
   rw[ak _ _ _ _ jb,ak _ _ _ _ jb]
 .rintro q tm σ' ⟨i,rfl,hi,t1,t6,t7,t13,t14,t15,q1,q7,hN,hD,hf,hnx⟩
  have hle:=hf.le
  simp(disch:=try exact jz) only[go_sem,t1,t6,t7,t13,t14,t15,aG]
  refine aH (λhlt=>?_) (λhlt=>?_)
  .obtain⟨b5,o5,c5,rfl,-,bf⟩:=hI.pos jb
   have bf:=hf.ld hW (sU (bf i hlt)).1
   obtain⟨b6,o6,c6,rfl,-,bJ⟩:=hC.pos jb
   have bJ:=hf.ld hW (bJ i hlt)
   unfold dO at bJ
   cases hFi:F i with
   |false=>
    rw[hFi]at bf
    simp(disch:=try exact jz) only[go_sem,t1,t6,t7,t13,t14,t15,bf]
    refine⟨g.e.length-(i+1),jb,i+1,rfl,jb,rfl,q1,q7,by rw[ajv _ _ _ _ hFi];exact hN,hD,hf,hnx⟩
   |true=>
    rw[hFi]at bf
    rcases hN with⟨h0,-⟩|⟨h0,ob,rfl,k1,k2,k3,k4⟩
    .omega
    have hN:NL (RE g.e C A) σ'.h (.sl ob 0 g.e.length .opn) g.e.length (Jw (YE (xC g.e) K F i) C A) 5 60 (σ.aj+1+1) mid:=.inr ⟨h0,ob,rfl,k1,k2,k3,k4⟩
    have azL:=abo (e:=5) (i:=i) k1 (by rw[CQ _ _ jb]) (λ_=>rfl) jj hN.ekn hlt
    have ajx:=yu azL 0 3 true jj jj
    rw[cL,cB]at ajx
    unfold Jw zW at ajx
    rw[ajw]at ajx
    simp only[gp,fo,cI,bL,List.length_nil,cD,dj,vk,Ac,cU,Nat.reduceAdd,Nat.beq_refl,ck]at ajx
    have hsM:Sz (xC g.e i):=att (hs.e i hlt).m jj
    have hsK:Sz (K i):=(hK i).mono (by unfold szK;omega)
    have hsS:Sz (xC g.e i-K i):=atA (hs.e i hlt).m (hK i)
    have hz:=Sz.zero
    have hwr:=atz (m:=YE (xC g.e) K F i) (C:=C) (A:=A) hlt (vY (xC g.e i-K i) 0)
    simp(disch:=try exact jz) only[go_sem,t1,t6,t7,t13,t14,t15,bf,au q7,hok,YD,bJ,ajx,hsM,hsK,hsS,hz,aI k1,hwr]
    refine⟨g.e.length-(i+1),jb,i+1,rfl,jb,rfl,q1,q7,?_,?_,fr,hnx⟩
    .rw[aju _ _ _ _ hFi,ajw]
     exact hN.azK (aA _ _ _) λx hx=>ak _ _ _ _ jb
    .refine hD.keep ?_ λb hb=>hb
     intro b hb
     have:=hb.1
     exact ak _ _ _ _ jb
  .have:i=g.e.length:=jb
   subst this
   simp(disch:=try exact jz) only[go_sem,t6,t7,au q7,hok,YD,aI q1]
   refine⟨⟨_,_,rfl,C,A,mid,?_,?_,jb,jb⟩,fr⟩
   .refine NL.down (NL.mono hN (λj _=>Pn g.e C A j) ?_ jp) (λj _=>Pn g.e C A j) jb
    intro b h1 h2
    exact ak _ _ _ _ jb
   .refine hD.keep ?_ λb hb=>⟨hb.1,jb⟩
    intro b hb
    have:=hb.1
    exact ak _ _ _ _ jb
def CpG.kn{g:fC}{m:Nat->Rat}{lo hi:Nat}{h:Tr Bk}{ov dv:B}(hc:CpG g m lo h hi ov dv):ov.kn=true/\dv.kn=true:=by obtain⟨C,A,mid,h1,h2,-⟩:=hc;exact⟨h1.own.kn,h2.kn⟩
def oW(M:Nat->Nat)(n:Nat)(j:Nat):Rat:=if j<n/\M j%3≠0 then amt (M j/3)else 0
def aok{σ:St}(hW:WF σ){p:Nat->Prop}{ev dv:B}(g:fC)(hg:qy p σ.h ev dv g)(hn:g.e.length<=1000){n:Nat}{v:B}(M:Nat->Nat)(hv:HL σ.h 1 v n λi=>[.int .u16 (.ofNat (M i))])(hM:∀i,i<n->M i<=65535):
  aC EN 31 [.agg [ev,dv],.c v] σ λr σ'=>∃rv,r=.c rv/\iU σ'.h rv g.e.length (λk=>dO (oW M n k)) 3 50 σ.aj σ'.aj/\Fr σ σ':=by
 refine aO (GU.o _ _) GU.h ?_
 unfold GU
 dsimp only
 have hek:=hg.e.kn
 have hdk:=hg.d.kn
 have hlenE:=hg.e.len
 have hlen:=hv.len
 generalize g.e.length=m at*
 simp(disch:=try exact jz) only[go_sem,hek,hdk,hlenE]
 refine aF (λq tm σ'=>∃i rv,q=m-i/\i<=m/\Tr.ah tm 1=.c v/\Tr.ah tm 5=.c rv/\Tr.ah tm 10=jN m/\Tr.ah tm 11=jN i/\iU σ'.h rv i (λk=>dO (oW M n k)) 3 50 σ.aj σ'.aj/\Fr σ σ') m ?_ ?_
 .refine⟨0,.aP,jb,jb,?_⟩
  simp(disch:=try exact jz) only[go_sem,am]
  exact⟨.nil,fr⟩
 .rintro q tm σ' ⟨i,rv,rfl,hi,t1,t5,t10,t11,hO,hf⟩
  have hle:=hf.le
  simp(disch:=try exact jz) only[go_sem,t1,t5,t10,t11,aG]
  refine aH (λhlt=>?_) (λhlt=>?_)
  .simp(disch:=try exact jz) only[go_sem,t1,t5,t10,t11,hlen,aG]
   refine IK (λh1=>?_) (λh1=>?_)
   .obtain⟨b,o,c,rfl,hld⟩:=hv.one jb
    have hld:=hf.ld hW (hld i h1)
    have hb:=hf.wf.dA hld
    have hMi:=hM i h1
    simp(disch:=try exact jz) only[go_sem,t1,t5,t10,t11,h1,hld]
    refine aH (λhm=>?_) (λhm=>?_)
    .have hq:oW M n i=0:=ab λh=>h.2 (by simpa using hm)
     rcases hO.cases with⟨rfl,rfl⟩|⟨h0,bo,rfl,k1,k2,k3⟩
     .simp(disch:=try exact jz) only[go_sem,t1,t5,t10,t11]
      refine⟨m-1,jb,1,_,rfl,jb,rfl,rfl,iU.of (n:=0) (by rw[aA];show _=some (Bk.mk (bC 0 _++dO (oW M n 0)) _);rw[hq];rfl) jb jb,fr⟩
     .have hrl:=sW (n:=i) (G:=λk=>dO (oW M n k)) (e:=3) λ_=>rfl
      have hrt:=jC (n:=i) (G:=λk=>dO (oW M n k)) (e:=3) λ_=>rfl
      simp(disch:=try exact jz) only[go_sem,t1,t5,t10,t11,k1]
      refine⟨m-(i+1),jb,i+1,_,rfl,jb,rfl,rfl,iU.of (by rw[aA,hrt];show _=some (Bk.mk (bC i _++dO (oW M n i)) _);rw[hq];rfl) jb jb,fr⟩
    .have hq:oW M n i=amt (M i/3):=ae ⟨h1,by simpa using hm⟩
     have h3:M i/3<=65535:=jb
     rcases hO.cases with⟨rfl,rfl⟩|⟨h0,bo,rfl,k1,k2,k3⟩
     .simp(disch:=try exact jz) only[go_sem,t1,t5,t10,t11,hld,h3]
      refine⟨m-1,jb,1,_,rfl,jb,rfl,rfl,iU.of (n:=0) (by rw[aA];show _=some (Bk.mk (bC 0 _++dO (oW M n 0)) _);rw[hq];rfl) jb jb,fr⟩
     .have hrl:=sW (n:=i) (G:=λk=>dO (oW M n k)) (e:=3) λ_=>rfl
      have hrt:=jC (n:=i) (G:=λk=>dO (oW M n k)) (e:=3) λ_=>rfl
      simp(disch:=try exact jz) only[go_sem,t1,t5,t10,t11,hld,h3,k1]
      refine⟨m-(i+1),jb,i+1,_,rfl,jb,rfl,rfl,iU.of (by rw[aA,hrt];show _=some (Bk.mk (bC i _++dO (oW M n i)) _);rw[hq];rfl) jb jb,fr⟩
   .have hq:oW M n i=0:=ab λh=>h1 h.1
    rcases hO.cases with⟨rfl,rfl⟩|⟨h0,bo,rfl,k1,k2,k3⟩
    .simp(disch:=try exact jz) only[go_sem,t1,t5,t10,t11,h1]
     refine⟨m-1,jb,1,_,rfl,jb,rfl,rfl,iU.of (n:=0) (by rw[aA];show _=some (Bk.mk (bC 0 _++dO (oW M n 0)) _);rw[hq];rfl) jb jb,fr⟩
    .have hrl:=sW (n:=i) (G:=λk=>dO (oW M n k)) (e:=3) λ_=>rfl
     have hrt:=jC (n:=i) (G:=λk=>dO (oW M n k)) (e:=3) λ_=>rfl
     simp(disch:=try exact jz) only[go_sem,t1,t5,t10,t11,h1,k1]
     refine⟨m-(i+1),jb,i+1,_,rfl,jb,rfl,rfl,iU.of (by rw[aA,hrt];show _=some (Bk.mk (bC i _++dO (oW M n i)) _);rw[hq];rfl) jb jb,fr⟩
  .have:i=m:=jb
   subst this
   simp(disch:=try exact jz) only[go_sem,t5]
   exact⟨rv,rfl,hO,hf⟩
def Ba(x j:Nat):Bool:=decide (x/2^min (j%16) 16&&&1=1)
def flF(x i:Nat):Nat->B:=λj=>.bool (if j<i then Ba x j else false)
def aol(x i:Nat):aN (flF x i) i (.bool (Ba x i))=flF x (i+1):=by
 funext j;unfold aN flF;by_cases h:j=i
 .subst h;rw[ae rfl,ae jb]
 .rw[ab h];congr 1;by_cases h1:j<i
  .rw[ae h1,ae jb]
  .rw[ab h1,ab jb]
def ajy(x n:Nat):(ones n λ_=>B.bool false)=ones n (flF x 0):=cO λj _=>by unfold flF;rw[ab jb]
def aom(x n:Nat):ones n (flF x n)=ones n λj=>.bool (Ba x j):=cO λj hj=>by unfold flF;rw[ae hj]
def aon{σ:St}(hW:WF σ)(x:Nat)(hx:x<=65535)(n:Nat)(hn:n<=1000):
  aC EN 32 [.c (.int .u16 (.ofNat x)),jN n] σ λr σ'=>(∃b,r=.c (.sl b 0 n (.ex n))/\σ'.h b=some ⟨ones n (λj=>.bool (Ba x j)),none⟩/\σ.aj<=b/\b<σ'.aj)/\Fr σ σ':=by
 refine aO (GV.o _ _) GV.h ?_
 unfold GV
 dsimp only
 simp(disch:=try exact jz) only[go_sem]
 refine aF (λq tm σ'=>∃i,q=n-i/\i<=n/\Tr.ah tm 0=.c (.int .u16 (.ofNat x))/\Tr.ah tm 5=.c (.sl σ.aj 0 n (.ex n))/\Tr.ah tm 10=jN n/\Tr.ah tm 11=jN i/\σ'.h σ.aj=some ⟨ones n (flF x i),none⟩/\Fr σ σ'/\σ.aj<σ'.aj) n ?_ ?_
 .refine⟨0,jb,jb,?_⟩
  simp(disch:=try exact jz) only[go_sem,am]
  refine⟨?_,fr,jb⟩
  rw[ajy x n]
 .rintro q tm σ' ⟨i,rfl,hi,t0,t5,t10,t11,q0,hf,hnx⟩
  have hle:=hf.le
  simp(disch:=try exact jz) only[go_sem,t0,t5,t10,t11,aG]
  refine aH (λhlt=>?_) (λhlt=>?_)
  .have hp:x/2^min (i%16) 16<=65535:=ap (fm _ _) hx
   have hfl:Ba x i=decide (x/2^min (i%16) 16&&&1=1):=rfl
   have hfs:=aol x i
   rw[hfl]at hfs
   simp(disch:=try exact jz) only[go_sem,t0,t5,t10,t11,hp,aI q0]
   rw[hfs]
   exact⟨n-(i+1),jb,i+1,rfl,jb,rfl,rfl,fr,hnx⟩
  .have:i=n:=jb
   subst this
   rw[aom]at q0
   simp(disch:=try exact jz) only[go_sem,t5]
   exact⟨⟨_,rfl,q0,jb,hnx⟩,hf⟩
def cpG(g:fC)(m:Nat->Rat):fC:=⟨(List.range g.e.length).map λi=>⟨mP (m i),(ix g.e i).c.map LP,(ix g.e i).a.map G7⟩,g.d.map abq⟩
def CpG.grp{g:fC}{m:Nat->Rat}{lo hi:Nat}{h:Tr Bk}{ov dv:B}(hc:CpG g m lo h hi ov dv):qy (λ_=>True) h ov dv (cpG g m):=by
 obtain⟨C,A,mid,h1,h2,-⟩:=hc;have hl:(cpG g m).e.length=g.e.length:=by unfold cpG;simp
 have hix:∀i,i<g.e.length->ix (cpG g m).e i=⟨mP (m i),(ix g.e i).c.map LP,(ix g.e i).a.map G7⟩:=λi hi=>sV _ hi;refine⟨⟨C,A,?_,λi hi=>?_⟩,h2.keep (λ_ _=>rfl) λ_ _=>trivial⟩
 .rw[hl];refine(iU.hlp (p:=λ_=>True) h1.own (λ_=>rfl) jj (λj hj=>h1.ekn j hj) λ_ _ _=>trivial).congr λj hj=>?_;rw[hix j hj];rfl
 .rw[hl]at hi;rw[hix i hi];have:=h1.el (λj _=>Pn g.e C A j) hi;exact⟨aX.keep this.1 (λ_ _=>rfl) λ_ _=>trivial,this.2.keep (λ_ _=>rfl) λ_ _=>trivial⟩
end Go.Proofs.Xe
