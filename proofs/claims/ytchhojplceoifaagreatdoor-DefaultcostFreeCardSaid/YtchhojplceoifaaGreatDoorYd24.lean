import Derived.Test.YtchhojplceoifaaGreatDoorYd23
set_option linter.all false
set_option maxRecDepth 100000
set_option maxHeartbeats 8000000
namespace Go.Proofs.Xe
open Go.RowKit Go.Proofs.Ins
def RE(el:List vM)(C A:Nat->B)(p:Nat->Prop)(h:Tr Bk)(j:Nat):Prop:=oL p h (C j) ((ix el j).c.map LM)/\iG p h (A j) ((ix el j).a.map GH)
def Ju(m:Nat->Rat)(C A:Nat->B):Nat->List B:=λj=>[.bool (rn (m j)),.str (rs (m j)),.str (rd (m j)),C j,A j]
def RD(dl:List qj)(L:Nat->B)(p:Nat->Prop)(h:Tr Bk)(j:Nat):Prop:=AB p h (L j) (ix dl j).l
def dbF(dl:List qj)(L:Nat->B):Nat->List B:=λj=>[.bool (rn (ix dl j).w.q),.str (rs (ix dl j).w.q),.str (rd (ix dl j).w.q),L j]
def Pm(el:List vM)(C A:Nat->B)(j:Nat):QK (RE el C A) j:=λ_ _ _ _ hp hk hq=>⟨aX.keep hp.1 hk hq,hp.2.keep hk hq⟩
def atl(dl:List qj)(L:Nat->B)(j:Nat):QK (RD dl L) j:=λ_ _ _ _ hp hk hq=>aX.keep hp hk hq
def xq(el:List vM):Nat->Rat:=λj=>(ix el j).m.q
section
variable {h h' h1:Tr Bk} {v x y:B} {n ty lo hi hi1 nx n' : Nat} {m:Nat→Rat} {C A L:Nat→B} {el:List vM} {dl:List qj}
def NL.aqj(ho:NL (RE el C A) h v n (Ju m C A) 5 ty lo hi)(hx:oL (λb=>hi<=b/\b<hi1) h1 x ((ix el n).c.map LM))(hy:iG (λb=>hi<=b/\b<hi1) h1 y ((ix el n).a.map GH))(hh:∀b,lo<=b->b<hi->h1 b=h b)(h2:hi<=hi1)(h3:hi1<=nx)(h4:nx<n')(h5:lo<=hi){cells:List B}(hc:cells=bC n (Ju m C A)++[.bool (rn (m n)),.str (rs (m n)),.str (rd (m n)),x,y])
  (hb:h' nx=some ⟨cells,some (5,ty)⟩) (hk:∀b,lo<=b->b<hi1->(∀c m k,v=.sl c 0 m k->b≠c)->h' b=h1 b):NL (RE el (aN C n x) (aN A n y)) h' (.sl nx 0 (n+1) .opn) (n+1) (Ju m (aN C n x) (aN A n y)) 5 ty lo n':=by
 have hg:∀j,j<n->Ju m C A j=Ju m (aN C n x) (aN A n y) j:=λj hj=>by unfold Ju;rw[aS _ _ _ _ jb,aS _ _ _ _ jb]
 have ho':NL (RE el (aN C n x) (aN A n y)) h v n (Ju m (aN C n x) (aN A n y)) 5 ty lo hi:=NL.congr ho (λj hj p h hq=>by unfold RE;rw[aS _ _ _ _ jb,aS _ _ _ _ jb];exact hq) hg
 refine NL.push ho' (λj _=>Pm el _ _ j) (hi1:=hi1) (h1:=h1) (x:=[.bool (rn (m n)),.str (rs (m n)),.str (rd (m n)),x,y]) (by unfold RE;rw[aK,aK];exact⟨hx,hy⟩) hh h2 h3 h4 h5 ?_ hb hk (λ_ _=>rfl) (by unfold Ju;rw[aK,aK])
 rw[hc,bH hg]
def NL.aqk(ho:NL (RD dl L) h v n (dbF dl L) 4 ty lo hi)(hx:AB (λb=>hi<=b/\b<hi1) h1 x (ix dl n).l)(hh:∀b,lo<=b->b<hi->h1 b=h b)(h2:hi<=hi1)(h3:hi1<=nx)(h4:nx<n')(h5:lo<=hi){cells:List B}(hc:cells=bC n (dbF dl L)++[.bool (rn (ix dl n).w.q),.str (rs (ix dl n).w.q),.str (rd (ix dl n).w.q),x])
  (hb:h' nx=some ⟨cells,some (4,ty)⟩) (hk:∀b,lo<=b->b<hi1->(∀c m k,v=.sl c 0 m k->b≠c)->h' b=h1 b):NL (RD dl (aN L n x)) h' (.sl nx 0 (n+1) .opn) (n+1) (dbF dl (aN L n x)) 4 ty lo n':=by
 have hg:∀j,j<n->dbF dl L j=dbF dl (aN L n x) j:=λj hj=>by unfold dbF;rw[aS _ _ _ _ jb]
 have ho':NL (RD dl (aN L n x)) h v n (dbF dl (aN L n x)) 4 ty lo hi:=NL.congr ho (λj hj p h hq=>by unfold RD;rw[aS _ _ _ _ jb];exact hq) hg
 refine NL.push ho' (λj _=>atl dl _ j) (hi1:=hi1) (h1:=h1) (x:=[.bool (rn (ix dl n).w.q),.str (rs (ix dl n).w.q),.str (rd (ix dl n).w.q),x]) (by unfold RD;rw[aK];exact hx) hh h2 h3 h4 h5 ?_ hb hk (λ_ _=>rfl) (by unfold dbF;rw[aK])
 rw[hc,bH hg]
def NL.azu(ho:NL (RD dl L) h v dl.length (dbF dl L) 4 ty lo hi):jL (λb=>lo<=b/\b<hi) h v (dl.map abj):=by
 have hl:(dl.map abj).length=dl.length:=cw ..;refine⟨L,?_,λj hj=>?_⟩
 .rw[hl];refine(jH.hlp (p:=λb=>lo<=b/\b<hi) ho.own (λ_=>rfl) jj (λj hj=>?_) λb h1 h2=>⟨h1,h2⟩).congr λj hj=>by rw[JY _ _ hj];rfl
  have hk:(L j).kn=true:=aX.kn (ho.el (λj _=>atl dl L j) hj);unfold dbF;simp only[cD,df,hk,uY,zW,cR]
 .rw[hl]at hj;rw[JY _ _ hj];exact ho.el (λj _=>atl dl L j) hj
end
def CpG(g:fD)(m:Nat->Rat)(lo:Nat)(h:Tr Bk)(hi:Nat)(ov dv:B):Prop:=∃C A mid,NL (RE g.e C A) h ov g.e.length (Ju m C A) 5 60 lo mid/\jL (λb=>mid<=b/\b<hi) h dv (g.d.map abj)/\lo<=mid/\mid<=hi
def Yu{σ:St}(hW:WF σ){p:Nat->Prop}{ev dv:B}(g:fD)(hg:rW p σ.h ev dv g)(hs:Gw 1000000 g)(hl:abh 1000 g):
  aC EN 127 [.agg [ev,dv]] σ λr σ'=>(∃ov yO,r=.agg [ov,yO]/\CpG g (xq g.e) σ.aj σ'.h σ'.aj ov yO)/\Fr σ σ':=by
 refine aP (lW.o _ _) lW.h ?_
 unfold lW
 dsimp only
 have hek:=hg.e.kn
 have hdk:=hg.d.kn
 have hlenE:=hg.e.len
 have hlenD:=hg.d.len
 have hne:=hl.n
 have hnd:=hl.d
 simp(disch:=try exact jz) only[go_sem,z3,hek,hdk,hlenE]
 refine bM.mono (Q:=λex tm σ'=>ex=.exit 0/\∃ov C A,Tr.ah tm 1=.c (.ptr σ.aj 0)/\Tr.ah tm 2=.c (.ptr (σ.aj+1) 0)/\Tr.ah tm 3=.c (.ptr (σ.aj+1+1) 0)/\σ'.h σ.aj=some ⟨[ev,dv],none⟩/\σ'.h (σ.aj+1)=some ⟨[.aO,.aO],none⟩/\σ'.h (σ.aj+1+1)=some ⟨[ov,.aO],none⟩
   /\NL (RE g.e C A) σ'.h ov g.e.length (Ju (xq g.e) C A) 5 60 (σ.aj+1+1+1) σ'.aj/\Fr σ σ'/\σ.aj+1+1+1<=σ'.aj)
  (aF (λq tm σ'=>∃i ov C A,q=g.e.length-i/\i<=g.e.length/\Tr.ah tm 1=.c (.ptr σ.aj 0)/\Tr.ah tm 2=.c (.ptr (σ.aj+1) 0)/\Tr.ah tm 3=.c (.ptr (σ.aj+1+1) 0)/\Tr.ah tm 9=.c ev/\Tr.ah tm 10=.c (.int .i64 (.ofNat g.e.length))/\Tr.ah tm 11=.c (.int .i64 (.ofNat i))
   /\σ'.h σ.aj=some ⟨[ev,dv],none⟩/\σ'.h (σ.aj+1)=some ⟨[.aO,.aO],none⟩/\σ'.h (σ.aj+1+1)=some ⟨[ov,.aO],none⟩/\NL (RE g.e C A) σ'.h ov i (Ju (xq g.e) C A) 5 60 (σ.aj+1+1+1) σ'.aj/\Fr σ σ'/\σ.aj+1+1+1<=σ'.aj) g.e.length ?_ ?_) ?_
 .refine⟨0,.aO,λ_=>.aO,λ_=>.aO,jb,jb,?_⟩
  simp(disch:=try exact jz) only[go_sem,z3,am]
  exact⟨NL.nil,fr,jb⟩
 .rintro q tm σ' ⟨i,ov,C,A,rfl,hi,t1,t2,t3,t9,t10,t11,q0,q1,q2,hN,hf,hnx⟩
  have hle:=hf.le
  simp(disch:=try exact jz) only[go_sem,z3,t1,t2,t3,t9,t10,t11,aG]
  refine aH (λhlt=>?_) (λhlt=>?_)
  .obtain⟨b5,o5,c5,rfl,C1,A1,bf,-,hC,hA⟩:=hg.e.at hlt
   have bf:=hf.ld hW bf
   have LK:=aX.kn hC
   have hAk:=hA.kn
   have hok:=hN.own.kn
   have hse:=hs.e i hlt
   have hle1:=hl.e i hlt
   have hm:xq g.e i=(ix g.e i).m.q:=rfl
   simp(disch:=try exact jz) only[go_sem,z3,t1,t2,t3,t9,t10,t11,bf,LK,hAk,au q2,hok]
   refine aC.st (Fr σ') (by have hFr:=Fr.refl hf.wf;exact fr) λhF3=>?_
   have hf3:=hf.trans hF3
   refine(afJ hF3.wf (ix g.e i) hse hle1 (aX.fr hW hf3 hC) (iG.fr hW hf3 hA)).mono ?_
   rintro _ σ4 ⟨⟨C2,A2,rfl,hC2,hA2⟩,hf4⟩
   rw[<-hm]
   have jB:=hF3.trans hf4
   have oM:σ'.aj+1<=σ4.aj:=hf4.le
   have q2':=jB.get hf.wf q2
   have aw1:=aX.kn hC2
   have aw2:=hA2.kn
   have q0':=jB.get hf.wf q0
   have q1':=jB.get hf.wf q1
   have hC3:oL (λb=>σ'.aj<=b/\b<σ4.aj) σ4.h C2 ((ix g.e i).c.map LM):=aX.keep hC2 (λ_ _=>rfl) λb hb=>⟨ap (eg _) hb.1,hb.2⟩
   have hA3:iG (λb=>σ'.aj<=b/\b<σ4.aj) σ4.h A2 ((ix g.e i).a.map GH):=hA2.keep (λ_ _=>rfl) λb hb=>⟨ap (eg _) hb.1,hb.2⟩
   have abk:=hf.trans jB
   rcases hN.own.cases with⟨rfl,rfl⟩|⟨hi0,b6,rfl,k1,k2,k3⟩
   .simp(disch:=try exact jz) only[go_sem,z3,t1,t2,t3,t9,t10,t11,aw1,aw2,au q2',q2']
    refine⟨g.e.length-1,jb,1,_,aN C 0 C2,aN A 0 A2,rfl,jb,rfl,q0',q1',rfl,?_,fr,jb⟩
    refine hN.aqj hC3 hA3 (λb _ hb=>jB.old b hb) jb jb jb hnx (cells:=[.bool (rn (xq g.e 0)),.str (rs (xq g.e 0)),.str (rd (xq g.e 0)),C2,A2]) rfl ?_ λb h1 h2 _=>?_
    .rw[ak _ _ _ _ jb,aA]
    .rw[ak _ _ _ _ jb,ak _ _ _ _ jb,ak _ _ _ _ jb]
   .have k1':=jB.get hf.wf k1
    have hrl:=AV (n:=i) (G:=Ju (xq g.e) C A) (e:=5) λ_=>rfl
    have hrt:=nI (n:=i) (G:=Ju (xq g.e) C A) (e:=5) λ_=>rfl
    simp(disch:=try exact jz) only[go_sem,z3,t1,t2,t3,t9,t10,t11,aw1,aw2,au q2',q2',k1']
    refine⟨g.e.length-(i+1),jb,i+1,_,aN C i C2,aN A i A2,rfl,jb,rfl,q0',q1',rfl,?_,fr,jb⟩
    refine hN.aqj hC3 hA3 (λb _ hb=>jB.old b hb) jb jb jb hnx rfl ?_ λb h1 h2 h3=>?_
    .rw[ak _ _ _ _ jb,aA,hrt]
    .have h3:=h3 _ _ _ rfl
     rw[ak _ _ _ _ jb,ak _ _ _ _ jb,eX _ _ _ jb,ak _ _ _ _ jb]
  .have:i=g.e.length:=jb
   subst this
   simp(disch:=try exact jz) only[go_sem,z3,am]
   exact⟨ov,C,A,t1,t2,t3,q0,q1,q2,hN,hf,hnx⟩
 .rintro _ tm σ2 ⟨rfl,ov,C,A,t1,t2,t3,q0,q1,q2,hN,hf,hnx⟩
  have hle2:=hf.le
  have hok:=hN.own.kn
  simp(disch:=try exact jz) only[go_sem,z3,t1,t2,t3,au q0,hek,hdk,hlenD]
  refine bM.mono (Q:=λex tm σ'=>ex=.exit 2/\∃yO L,Tr.ah tm 2=.c (.ptr (σ.aj+1) 0)/\Tr.ah tm 3=.c (.ptr (σ.aj+1+1) 0)/\σ'.h (σ.aj+1)=some ⟨[.aO,.aO],none⟩/\σ'.h (σ.aj+1+1)=some ⟨[ov,yO],none⟩
    /\NL (RE g.e C A) σ'.h ov g.e.length (Ju (xq g.e) C A) 5 60 (σ.aj+1+1+1) σ2.aj/\NL (RD g.d L) σ'.h yO g.d.length (dbF g.d L) 4 132 σ2.aj σ'.aj/\Fr σ σ'/\σ2.aj<=σ'.aj)
   (aF (λq tm σ'=>∃i yO L,q=g.d.length-i/\i<=g.d.length/\Tr.ah tm 2=.c (.ptr (σ.aj+1) 0)/\Tr.ah tm 3=.c (.ptr (σ.aj+1+1) 0)/\Tr.ah tm 24=.c dv/\Tr.ah tm 25=.c (.int .i64 (.ofNat g.d.length))/\Tr.ah tm 26=.c (.int .i64 (.ofNat i))
    /\σ'.h (σ.aj+1)=some ⟨[.aO,.aO],none⟩/\σ'.h (σ.aj+1+1)=some ⟨[ov,yO],none⟩/\NL (RE g.e C A) σ'.h ov g.e.length (Ju (xq g.e) C A) 5 60 (σ.aj+1+1+1) σ2.aj/\NL (RD g.d L) σ'.h yO i (dbF g.d L) 4 132 σ2.aj σ'.aj/\Fr σ σ'/\σ2.aj<=σ'.aj) g.d.length ?_ ?_) ?_
  .refine⟨0,.aO,λ_=>.aO,jb,jb,?_⟩
   simp(disch:=try exact jz) only[go_sem,z3,t2,t3,am]
   exact⟨q1,q2,hN,NL.nil,hf,jb⟩
  .rintro q tm σ' ⟨i,yO,L,rfl,hi,t2,t3,t24,t25,t26,q1,q2,hN,hD,hf,hn2⟩
   have hle:=hf.le
   simp(disch:=try exact jz) only[go_sem,z3,t2,t3,t24,t25,t26,aG]
   refine aH (λhlt=>?_) (λhlt=>?_)
   .obtain⟨b5,o5,c5,rfl,T1,bf,hT⟩:=hg.d.el hlt
    have bf:=hf.ld hW bf
    have Pg:=aX.kn hT
    have Yv:=hD.own.kn
    have hsw:=hs.w i hlt
    have hll:=hl.l i hlt
    simp(disch:=try exact jz) only[go_sem,z3,t2,t3,t24,t25,t26,bf,Pg,au q2,hok,Yv]
    refine aC.st (Fr σ') (by have hFr:=Fr.refl hf.wf;exact fr) λhF3=>?_
    refine(MR hF3.wf _ hsw).mono ?_
    rintro _ σ4 ⟨rfl,hf4⟩
    unfold rV
    have jB:=hF3.trans hf4
    have oM:σ'.aj+1<=σ4.aj:=hf4.le
    have q7:σ4.h σ'.aj=some ⟨[.bool (ix g.d i).w.n,.str (ix g.d i).w.s,.str (ix g.d i).w.d,T1],none⟩:=hf4.get hF3.wf (aA _ _ _)
    have abk:=hf.trans jB
    have q2':=jB.get hf.wf q2
    simp(disch:=try exact jz) only[go_sem,z3,t2,t3,t24,t25,t26,Pg,hok,Yv,au q7,au q2']
    refine(Yt hf4.wf (ix g.d i).l (aX.fr hW abk hT) hll).mono ?_
    rintro _ σ5 ⟨⟨v',rfl,hV⟩,hf5⟩
    have fZ:=jB.trans hf5
    have vO:=hf5.le
    have hvk:=aX.kn hV
    have q25:=fZ.get hf.wf q2
    have q15:=fZ.get hf.wf q1
    have ZQ:=hf5.get hf4.wf q7
    have hV5:AB (λb=>σ'.aj<=b/\b<σ5.aj) σ5.h v' (ix g.d i).l:=aX.keep hV (λ_ _=>rfl) λb hb=>⟨jb,hb.2⟩
    have azv:=hf.trans fZ
    rcases hD.own.cases with⟨rfl,rfl⟩|⟨hi0,b6,rfl,k1,k2,k3⟩
    .simp(disch:=try exact jz) only[go_sem,z3,t2,t3,t24,t25,t26,Pg,hok,hvk,au ZQ,au q25,q25]
     refine⟨g.d.length-1,jb,1,_,aN L 0 v',rfl,jb,rfl,q15,rfl,?_,?_,fr,jb⟩
     .exact NL.mono hN (λj _=>Pm g.e C A j) (λb h1 h2=>by rw[ak _ _ _ _ jb,ak _ _ _ _ jb,ak _ _ _ _ jb,fZ.old b jb]) jp
     .refine hD.aqk hV5 (λb _ hb=>fZ.old b hb) jb jb jb hn2 (cells:=[.bool (rn (ix g.d 0).w.q),.str (rs (ix g.d 0).w.q),.str (rd (ix g.d 0).w.q),v']) rfl ?_ λb h1 h2 _=>?_
      .rw[ak _ _ _ _ jb,aA]
      .rw[ak _ _ _ _ jb,ak _ _ _ _ jb,ak _ _ _ _ jb]
    .have k1':=fZ.get hf.wf k1
     have hrl:=AV (n:=i) (G:=dbF g.d L) (e:=4) λ_=>rfl
     have hrt:=nI (n:=i) (G:=dbF g.d L) (e:=4) λ_=>rfl
     simp(disch:=try exact jz) only[go_sem,z3,t2,t3,t24,t25,t26,Pg,hok,hvk,au ZQ,au q25,q25,k1']
     refine⟨g.d.length-(i+1),jb,i+1,_,aN L i v',rfl,jb,rfl,q15,rfl,?_,?_,fr,jb⟩
     .exact NL.mono hN (λj _=>Pm g.e C A j) (λb h1 h2=>by rw[ak _ _ _ _ jb,ak _ _ _ _ jb,eX _ _ _ jb,ak _ _ _ _ jb,fZ.old b jb]) jp
     .refine hD.aqk hV5 (λb _ hb=>fZ.old b hb) jb jb jb hn2 rfl ?_ λb h1 h2 h3=>?_
      .rw[ak _ _ _ _ jb,aA,hrt]
      .have h3:=h3 _ _ _ rfl
       rw[ak _ _ _ _ jb,ak _ _ _ _ jb,eX _ _ _ jb,ak _ _ _ _ jb]
   .have:i=g.d.length:=jb
    subst this
    simp(disch:=try exact jz) only[go_sem,z3,am]
    exact⟨yO,L,t2,t3,q1,q2,hN,hD,hf,hn2⟩
  .rintro _ tm σ3 ⟨rfl,yO,L,t2,t3,q1,q2,hN,hD,hf,hn2⟩
   have Yv:=hD.own.kn
   have hle3:=hf.le
   simp(disch:=try exact jz) only[go_sem,z3,t2,t3,au q2,hok,Yv,aI q1]
   refine⟨⟨_,_,rfl,C,A,σ2.aj,?_,?_,jb,hn2⟩,fr⟩
   .have:=NL.mono hN (λj _=>Pm g.e C A j) (h':=hset σ3.h (σ.aj+1) ⟨[ov,yO],none⟩) (λb h1 h2=>ak _ _ _ _ jb) jp
    exact NL.down this (λj _=>Pm g.e C A j) jb
   .exact hD.azu.keep (λb hb=>ak _ _ _ _ jb) λb hb=>hb
def I4(K:Nat->Rat):Nat->Bool
 |0=>false
 |n+1=>I4 K n||decide (K n<0)
def aod(K:Nat->Rat)(n:Nat):Int:=if I4 K n then .ofNat 7 else .ofNat 0
def TA{K:Nat->Rat}{j:Nat}(h:I4 K j=true):∀n,j<=n->I4 K n=true
 |0,h0=>by obtain rfl:j=0:=jb;exact h
 |n+1,hj=>by
  by_cases e:j=n+1
  .rw[<-e];exact h
  .show(I4 K n||decide (K n<0))=true;rw[TA h n jb];rfl
def aw3(q:Rat):decide (sg q<Int.ofNat 0)=decide (q<0):=by
 by_cases h:q<0
 .rw[be h];have h0:q≠0:=by grind
  unfold sg;rw[ab h0,ae h];rfl
 .rw[az h];unfold sg;rw[ab h];split<;>rfl
def atm{σ:St}(hW:WF σ)(q:Rat)(hq:Sz q):aC EN 169 [.agg [.bool (rn q),.str (rs q),.str (rd q)]] σ λr σ'=>r=.c (.bool (decide (q<0)))/\Fr σ σ':=by refine aP (kY.o _ _) kY.h ?_;unfold kY;dsimp only;have h2:=hq.two;simp(disch:=try exact jz) only[go_sem,z3,hq,h2,aw3];exact fr
def ajj{σ:St}(hW:WF σ){p:Nat->Prop}{v:B}{n:Nat}(K:Nat->Rat)(hC:aX p σ.h 3 v n λj=>dY (K j))(hK:∀j,Sz (K j))(hn:n<=1000):
  aC EN 102 [.c v,.fn 169 []] σ λr σ'=>(∃i,r=.c (.int .i64 i)/\decide (Int.ofNat 0<=i)=I4 K n)/\Fr σ σ':=by
 refine aP (gK.o _ _) gK.h ?_
 unfold gK
 dsimp only
 have hlen:=hC.len
 have hvk:=hC.kn
 simp(disch:=try exact jz) only[go_sem,z3,hlen]
 refine aF (λq tm σ'=>∃j,q=n-j/\j<=n/\Tr.ah tm 0=.c v/\Tr.ah tm 1=.fn 169 []/\Tr.ah tm 7=.c (.int .i64 (.ofNat n))/\Tr.ah tm 8=.c (.int .i64 (.ofNat j))/\I4 K j=false/\Fr σ σ') n ?_ ?_
 .refine⟨0,jb,jb,?_⟩
  simp(disch:=try exact jz) only[go_sem,z3,am]
  exact⟨rfl,Fr.refl hW⟩
 .rintro q tm σ' ⟨j,rfl,hj,t0,t1,t7,t8,hb,hf⟩
  simp(disch:=try exact jz) only[go_sem,z3,t0,t1,t7,t8,aG]
  refine aH (λhlt=>?_) (λhlt=>?_)
  .obtain⟨b,o,c,rfl,-,hld⟩:=hC.pos jb
   have hld:=hf.ld hW (hld j hlt)
   unfold dY at hld
   simp(disch:=try exact jz) only[go_sem,z3,t0,t1,t7,t8,hld]
   refine(atm hf.wf (K j) (hK j)).mono ?_
   rintro _ σ4 ⟨rfl,hf4⟩
   have abk:=hf.trans hf4
   have hn1:I4 K (j+1)=(I4 K j||decide (K j<0)):=rfl
   simp(disch:=try exact jz) only[go_sem,z3,t0,t1,t7,t8]
   refine aH (λhq=>?_) (λhq=>?_)
   .simp(disch:=try exact jz) only[go_sem,z3,t0,t1,t7,t8]
    rw[hb,be hq]at hn1
    exact⟨⟨_,rfl,by rw[TA hn1 n jb];exact be kc⟩,abk⟩
   .simp(disch:=try exact jz) only[go_sem,z3,t0,t1,t7,t8]
    rw[hb,az hq]at hn1
    exact⟨n-(j+1),jb,j+1,rfl,jb,rfl,hn1,abk⟩
  .have:j=n:=jb
   subst this
   simp(disch:=try exact jz) only[go_sem,z3,t0]
   exact⟨⟨_,rfl,by rw[hb];rfl⟩,hf⟩
def abl{σ:St}(hW:WF σ){p:Nat->Prop}{v:B}{n:Nat}(K:Nat->Rat)(hC:aX p σ.h 3 v n λj=>dY (K j))(hK:∀j,Sz (K j))(hn:n<=1000):
  aC EN 126 [.c v] σ λr σ'=>r=.c (.int .i64 (aod K n))/\Fr σ σ':=by
 refine aP (mX.o _ _) mX.h ?_
 unfold mX
 dsimp only
 have hc:aC EN 47 [.c v,.fn 169 []] σ λr σ'=>r=.c (.bool (I4 K n))/\Fr σ σ':=by refine aP (fJ.o _ _) fJ.h ?_;unfold fJ;dsimp only;simp(disch:=try exact jz) only[go_sem,z3];refine(ajj hW K hC hK hn).mono ?_;rintro _ σ2 ⟨⟨i,rfl,hi⟩,hf⟩;simp(disch:=try exact jz) only[go_sem,z3,hi];exact hf
 simp(disch:=try exact jz) only[go_sem,z3]
 refine hc.mono ?_
 rintro _ σ2 ⟨rfl,hf⟩
 have hE:aod K n=if I4 K n then .ofNat 7 else .ofNat 0:=rfl
 cases hb:I4 K n with
 |true=>
  rw[hb]at hE
  simp(disch:=try exact jz) only[go_sem,z3]
  exact⟨by rw[hE];rfl,hf⟩
 |false=>
  rw[hb]at hE
  simp(disch:=try exact jz) only[go_sem,z3]
  exact⟨by rw[hE];rfl,hf⟩
def Yw(m K:Nat->Rat)(F:Nat->Bool)(i:Nat):Nat->Rat:=λj=>if j<i/\F j=true then vJ (m j-K j) 0 else m j
def ajk(m K:Nat->Rat)(F:Nat->Bool)(i:Nat)(h:F i=true):Yw m K F (i+1)=λj=>if j=i then vJ (Yw m K F i i-K i) 0 else Yw m K F i j:=by
 funext j;unfold Yw;by_cases e:j=i
 .subst e;rw[ae ⟨jb,h⟩,ae rfl,ab (λh=>jb)]
 .rw[ab e];by_cases h1:j<i/\F j=true
  .rw[ae h1,ae ⟨jb,h1.2⟩]
  .rw[ab h1,ab (λh2=>h1 ⟨jb,h2.2⟩)]
def ajl(m K:Nat->Rat)(F:Nat->Bool)(i:Nat)(h:F i=false):Yw m K F (i+1)=Yw m K F i:=by
 funext j;unfold Yw;by_cases h1:j<i/\F j=true
 .rw[ae h1,ae ⟨jb,h1.2⟩]
 .rw[ab h1,ab (λh2=>h1 ⟨by
   by_cases e:j=i
   .subst e;rw[h]at h2;exact absurd h2.2 jj
   .omega,h2.2⟩)]
def ajm(m K:Nat->Rat)(F:Nat->Bool)(i:Nat):Yw m K F i i=m i:=ab λh=>jb
def atn{m:Nat->Rat}{C A:Nat->B}{n i:Nat}(hi:i<n)(q:Rat):yN (bC n (Ju m C A)) (i*5) [.bool (rn q),.str (rs q),.str (rd q)]=some (bC n (Ju (λj=>if j=i then q else m j) C A)):=by
 have:=x9 (e:=5) (k:=0) (vs:=[.bool (rn q),.str (rs q),.str (rd q)]) (n:=n) (i:=i) (G:=Ju m C A) (λ_=>rfl) hi kc;rw[cA]at this;rw[this];show some _=some _;congr 1;refine bH λj hj=>?_;unfold iP Ju;by_cases e:j=i
 .subst e;rw[ae rfl];simp
 .rw[ab e];simp[e]
def NL.azx{el:List vM}{C A:Nat->B}{m m':Nat->Rat}{h h':Tr Bk}{b n ty lo hi:Nat}{c:Cap}(ho:NL (RE el C A) h (.sl b 0 n c) n (Ju m C A) 5 ty lo hi)(hb:h' b=some ⟨bC n (Ju m' C A),some (5,ty)⟩)(hk:∀x,x<b->h' x=h x):NL (RE el C A) h' (.sl b 0 n c) n (Ju m' C A) 5 ty lo hi:=by
 rcases ho with⟨-,h1⟩|⟨h0,b2,h1,k1,k2,k3,k4⟩
 .cases h1
 .cases h1;exact .inr ⟨h0,b,rfl,hb,k2,k3,λj hj=>Pm el C A j _ _ _ _ (k4 j hj) (λx hx=>hk x hx.2) λx hx=>hx⟩
def NL.ekn{el:List vM}{C A:Nat->B}{m:Nat->Rat}{h:Tr Bk}{v:B}{n ty lo hi:Nat}(ho:NL (RE el C A) h v n (Ju m C A) 5 ty lo hi)(j:Nat)(hj:j<n):(Ju m C A j).all B.kn=true:=by obtain⟨h1,h2⟩:=ho.el (λj _=>Pm el C A j) hj;unfold Ju;simp only[cD,df,aX.kn h1,iG.kn h2,uY,zW,cR]
def ato{r:R3}{K:Rat}(hr:r.fits 1000000)(hK:Sm 1000 K):Sz (r.q-K):=((aaH r.n r.s r.d).sub hK).mono (by have:=hr.1;have:=hr.2;unfold szK;omega)
def ajn{σ:St}(hW:WF σ){p p1 p2:Nat->Prop}{ev dv cv iv:B}(g:fD)(hg:rW p σ.h ev dv g)(hs:Gw 1000000 g)(hl:abh 1000 g)(K:Nat->Rat)(F:Nat->Bool)(hC:aX p1 σ.h 3 cv g.e.length λj=>dY (K j))(hI:aX p2 σ.h 1 iv g.e.length λj=>[.bool (F j)])(hK:∀j,Sm 1000 (K j)):
  aC EN 74 [.agg [ev,dv],.c cv,.c iv] σ λr σ'=>(∃ov yO,r=.agg [ov,yO]/\CpG g (Yw (xq g.e) K F g.e.length) σ.aj σ'.h σ'.aj ov yO)/\Fr σ σ':=by
 refine aP (oH.o _ _) oH.h ?_
 unfold oH
 dsimp only
 have hek:=hg.e.kn
 have hdk:=hg.d.kn
 have aw4:=hI.len
 have hne:=hl.n
 simp(disch:=try exact jz) only[go_sem,z3,hek,hdk]
 refine aC.st (Fr σ) (fr) λhF=>?_
 refine(Yu hF.wf g (hg.fr hW hF) hs hl).mono ?_
 rintro _ σ1 ⟨⟨ov,yO,rfl,C,A,mid,hN,hD,hm1,hm2⟩,hf1⟩
 have hF1:=hF.trans hf1
 have hle1:σ.aj+1+1<=σ1.aj:=hf1.le
 have hm1:σ.aj+1+1<=mid:=hm1
 have q1:σ1.h (σ.aj+1)=some ⟨[.aO,.aO],none⟩:=hf1.get hF.wf (aA _ _ _)
 have hok:=hN.own.kn
 have Yv:=hD.kn
 have h00:Yw (xq g.e) K F 0=xq g.e:=by funext j;exact ab λh=>jb
 simp(disch:=try exact jz) only[go_sem,z3,hok,Yv,aw4]
 refine aF (λq tm σ'=>∃i,q=g.e.length-i/\i<=g.e.length/\Tr.ah tm 1=.c cv/\Tr.ah tm 6=.c (.ptr (σ.aj+1) 0)/\Tr.ah tm 7=.c (.ptr σ1.aj 0)/\Tr.ah tm 13=.c iv/\Tr.ah tm 14=.c (.int .i64 (.ofNat g.e.length))/\Tr.ah tm 15=.c (.int .i64 (.ofNat i))
  /\σ'.h (σ.aj+1)=some ⟨[.aO,.aO],none⟩/\σ'.h σ1.aj=some ⟨[ov,yO],none⟩/\NL (RE g.e C A) σ'.h ov g.e.length (Ju (Yw (xq g.e) K F i) C A) 5 60 (σ.aj+1+1) mid/\jL (λb=>mid<=b/\b<σ1.aj) σ'.h yO (g.d.map abj)/\Fr σ σ'/\σ1.aj+1<=σ'.aj) g.e.length ?_ ?_
 .refine⟨0,jb,jb,?_⟩
  simp(disch:=try exact jz) only[go_sem,z3,am]
  refine⟨q1,?_,?_,fr,jb⟩
  .rw[h00]
   refine NL.mono hN (λj _=>Pm g.e C A j) ?_ jp
   intro b h1 h2
   rw[ak _ _ _ _ jb,ak _ _ _ _ jb]
  .refine hD.keep ?_ λb hb=>hb
   intro b hb
   have:=hb.2
   rw[ak _ _ _ _ jb,ak _ _ _ _ jb]
 .rintro q tm σ' ⟨i,rfl,hi,t1,t6,t7,t13,t14,t15,q1,q7,hN,hD,hf,hnx⟩
  have hle:=hf.le
  simp(disch:=try exact jz) only[go_sem,z3,t1,t6,t7,t13,t14,t15,aG]
  refine aH (λhlt=>?_) (λhlt=>?_)
  .obtain⟨b5,o5,c5,rfl,-,bf⟩:=hI.pos jb
   have bf:=hf.ld hW (sK (bf i hlt)).1
   obtain⟨b6,o6,c6,rfl,-,bK⟩:=hC.pos jb
   have bK:=hf.ld hW (bK i hlt)
   unfold dY at bK
   cases hFi:F i with
   |false=>
    rw[hFi]at bf
    simp(disch:=try exact jz) only[go_sem,z3,t1,t6,t7,t13,t14,t15,bf]
    refine⟨g.e.length-(i+1),jb,i+1,rfl,jb,rfl,q1,q7,by rw[ajl _ _ _ _ hFi];exact hN,hD,hf,hnx⟩
   |true=>
    rw[hFi]at bf
    rcases hN with⟨h0,-⟩|⟨h0,ob,rfl,k1,k2,k3,k4⟩
    .omega
    have hN:NL (RE g.e C A) σ'.h (.sl ob 0 g.e.length .opn) g.e.length (Ju (Yw (xq g.e) K F i) C A) 5 60 (σ.aj+1+1) mid:=.inr ⟨h0,ob,rfl,k1,k2,k3,k4⟩
    have azy:=abg (e:=5) (i:=i) k1 (by rw[CB _ _ jb]) (λ_=>rfl) jj hN.ekn hlt
    have ajo:=yc azy 0 3 true jj jj
    rw[cK,cA]at ajo
    unfold Ju zO at ajo
    rw[ajm]at ajo
    simp only[gn,fj,cH,bB,List.length_nil,cD,df,uY,zW,cR,Nat.reduceAdd,Nat.beq_refl,cj]at ajo
    have hsM:Sz (xq g.e i):=atg (hs.e i hlt).m jj
    have hsK:Sz (K i):=(hK i).mono (by unfold szK;omega)
    have hsS:Sz (xq g.e i-K i):=ato (hs.e i hlt).m (hK i)
    have hz:=Sz.zero
    have hwr:=atn (m:=Yw (xq g.e) K F i) (C:=C) (A:=A) hlt (vJ (xq g.e i-K i) 0)
    simp(disch:=try exact jz) only[go_sem,z3,t1,t6,t7,t13,t14,t15,bf,au q7,hok,Yv,bK,ajo,hsM,hsK,hsS,hz,aI k1,hwr]
    refine⟨g.e.length-(i+1),jb,i+1,rfl,jb,rfl,q1,q7,?_,?_,fr,hnx⟩
    .rw[ajk _ _ _ _ hFi,ajm]
     exact hN.azx (aA _ _ _) λx hx=>ak _ _ _ _ jb
    .refine hD.keep ?_ λb hb=>hb
     intro b hb
     have:=hb.1
     exact ak _ _ _ _ jb
  .have:i=g.e.length:=jb
   subst this
   simp(disch:=try exact jz) only[go_sem,z3,t6,t7,au q7,hok,Yv,aI q1]
   refine⟨⟨_,_,rfl,C,A,mid,?_,?_,jb,jb⟩,fr⟩
   .refine NL.down (NL.mono hN (λj _=>Pm g.e C A j) ?_ jp) (λj _=>Pm g.e C A j) jb
    intro b h1 h2
    exact ak _ _ _ _ jb
   .refine hD.keep ?_ λb hb=>⟨hb.1,jb⟩
    intro b hb
    have:=hb.1
    exact ak _ _ _ _ jb
def CpG.kn{g:fD}{m:Nat->Rat}{lo hi:Nat}{h:Tr Bk}{ov dv:B}(hc:CpG g m lo h hi ov dv):ov.kn=true/\dv.kn=true:=by obtain⟨C,A,mid,h1,h2,-⟩:=hc;exact⟨h1.own.kn,h2.kn⟩
def cpG(g:fD)(m:Nat->Rat):fD:=⟨(List.range g.e.length).map λi=>⟨mG (m i),(ix g.e i).c.map LM,(ix g.e i).a.map GH⟩,g.d.map abj⟩
def CpG.grp{g:fD}{m:Nat->Rat}{lo hi:Nat}{h:Tr Bk}{ov dv:B}(hc:CpG g m lo h hi ov dv):rW (λ_=>True) h ov dv (cpG g m):=by
 obtain⟨C,A,mid,h1,h2,-⟩:=hc;have hl:(cpG g m).e.length=g.e.length:=by unfold cpG;simp
 have hix:∀i,i<g.e.length->ix (cpG g m).e i=⟨mG (m i),(ix g.e i).c.map LM,(ix g.e i).a.map GH⟩:=λi hi=>sN _ hi;refine⟨⟨C,A,?_,λi hi=>?_⟩,h2.keep (λ_ _=>rfl) λ_ _=>trivial⟩
 .rw[hl];refine(jH.hlp (p:=λ_=>True) h1.own (λ_=>rfl) jj (λj hj=>h1.ekn j hj) λ_ _ _=>trivial).congr λj hj=>?_;rw[hix j hj];rfl
 .rw[hl]at hi;rw[hix i hi];have:=h1.el (λj _=>Pm g.e C A j) hi;exact⟨aX.keep this.1 (λ_ _=>rfl) λ_ _=>trivial,this.2.keep (λ_ _=>rfl) λ_ _=>trivial⟩
end Go.Proofs.Xe
namespace Go.Proofs.Ins
def aB:Nat->(Nat->Rat)->Rat
 |0,_=>0
 |n+1,f=>aB n f+f n
theorem aQ{n:Nat}{f g:Nat->Rat}(h:∀i,i<n->f i=g i):aB n f=aB n g:=by
 induction n with
 |zero=>rfl
 |succ n ih=>grind[aB]
theorem bJ{n:Nat}{f:Nat->Rat}(h:∀i,i<n->f i=0):aB n f=0:=by
 induction n with
 |zero=>rfl
 |succ n ih=>grind[aB]
theorem dF(n:Nat)(f g:Nat->Rat):aB n (λi=>f i+g i)=aB n f+aB n g:=by
 induction n with
 |zero=>grind[aB]
 |succ n ih=>grind[aB]
theorem iH(n:Nat)(f g:Nat->Rat):aB n (λi=>f i-g i)=aB n f-aB n g:=by
 induction n with
 |zero=>grind[aB]
 |succ n ih=>grind[aB]
theorem gQ(n:Nat)(c:Rat)(f:Nat->Rat):aB n (λi=>c*f i)=c*aB n f:=by
 induction n with
 |zero=>grind[aB]
 |succ n ih=>grind[aB]
theorem qV(n:Nat)(c:Rat)(f:Nat->Rat):aB n (λi=>f i*c)=aB n f*c:=by grind[Rat.mul_comm,gQ]
def oN{n:Nat}{f g:Nat->Rat}(h:∀i,i<n->f i<=g i):aB n f<=aB n g:=by
 induction n with
 |zero=>rfl
 |succ n ih=>
  grind[aB]
theorem BI{n:Nat}{f:Nat->Rat}(h:∀i,i<n->0<=f i):0<=aB n f:=by have:=oN (n:=n) (f:=λ_=>0) (g:=f) h;simp_all[bJ]
def MS{n:Nat}{f g:Nat->Rat}(h:∀i,i<n->f i<=g i)(e:aB n g<=aB n f):∀i,i<n->f i=g i:=by
 induction n with
 |zero=>omega
 |succ n ih=>
  rw[aB,aB]at e
  have h1:=oN (n:=n) (f:=f) (g:=g) λi hi=>h i jb
  grind
theorem Yx{n:Nat}{f:Nat->Rat}(h:∀i,i<n->0<=f i)(e:aB n f<=0):∀i,i<n->f i=0:=by intro i hi;exact(MS (f:=λ_=>0) h (by simp_all[bJ]) i hi).symm
def AY(n m:Nat)(f:Nat->Nat->Rat):aB n (λi=>aB m λj=>f i j)=aB m λj=>aB n λi=>f i j:=by
 induction n with
 |zero=>grind[bJ]
 |succ n ih=>
  simp_all[aB,dF]
theorem jC{n:Nat}{f:Nat->Rat}{k:Nat}(hk:k<n)(h:∀i,i<n->i≠k->f i=0):aB n f=f k:=by
 induction n with
 |zero=>omega
 |succ n ih=>
  grind[aB,bJ]
def D9{n:Nat}{f:Nat->Rat}{k:Nat}(hk:k<n)(h:∀i,i<n->0<=f i):f k<=aB n f:=by
 induction n with
 |zero=>omega
 |succ n ih=>
  grind[aB,BI]
def mv(n:Nat)(M:Nat->Nat->Rat)(v:Nat->Rat)(j:Nat):Rat:=aB n λi=>M j i*v i
structure LP(n:Nat)(M:Nat->Nat->Rat):Prop where
 nn:∀j i,j<n->i<n->0<=M j i
 le:∀i,i<n->aB n (λj=>M j i)<=1
def Shut(n:Nat)(M:Nat->Nat->Rat)(S:Nat->Prop):Prop:=∀i,i<n->S i->aB n (λj=>M j i)=1/\∀j,j<n->¬S j->M j i=0
def Yy{n:Nat}(M:Nat->Nat->Rat)(S:Nat->Prop)[DecidablePred S](i:Nat):aB n (λj=>M j i)=aB n (λj=>if S j then M j i else 0)+aB n (λj=>if S j then 0 else M j i):=by rw[<-dF];grind
def aof{n:Nat}{M:Nat->Nat->Rat}(hM:LP n M)(S:Nat->Prop)[DecidablePred S]{i:Nat}(hi:i<n):aB n (λj=>if S j then M j i else 0)<=1:=by
 have h1:=hM.le i hi;rw[Yy M S i]at h1;have h2:0<=aB n (λj=>if S j then 0 else M j i):=BI λj hj=>by
  split
  .rfl
  .exact hM.nn j i hj hi
 grind
def aog{n:Nat}{M:Nat->Nat->Rat}(hM:LP n M)(S:Nat->Prop)[DecidablePred S]{i:Nat}(hi:i<n)(h:1<=aB n (λj=>if S j then M j i else 0)):aB n (λj=>M j i)=1/\∀j,j<n->¬S j->M j i=0:=by
 have h1:=hM.le i hi;have h0:=Yy (n:=n) M S i;have h2:∀j,j<n->0<=(if S j then 0 else M j i):=λj hj=>by
  split
  .rfl
  .exact hM.nn j i hj hi
 grind[Go.Proofs.Ins.BI,Go.Proofs.Ins.Yx]
def Po{n:Nat}{M:Nat->Nat->Rat}(hM:LP n M){w:Nat->Rat}(h:∀j,j<n->0<w j->w j<=mv n M w j):Shut n M λi=>0<w i:=by
 have h1:aB n (λj=>if 0<w j then w j else 0)<=aB n λj=>if 0<w j then mv n M w j else 0:=oN λj hj=>by grind
 have h2:(aB n λj=>if 0<w j then mv n M w j else 0)<=aB n λj=>aB n λi=>(if 0<w j then M j i else 0)*(if 0<w i then w i else 0):=oN λj hj=>by
  by_cases hp:0<w j
  .simp only[ae hp];refine oN λi hi=>?_;by_cases hq:0<w i
   .simp_all
   .simp only[ab hq];have a:=hM.nn j i hj hi;have b:w i<=0:=by grind
    have:=cQ b a;grind
  simp_all[Go.Proofs.Ins.BI]
 rw[AY]at h2;have h3:∀i,i<n->aB n (λj=>(if 0<w j then M j i else 0)*(if 0<w i then w i else 0))<=(if 0<w i then w i else 0):=λi hi=>by
  rw[qV n (if 0<w i then w i else 0) λj=>if 0<w j then M j i else 0];have a:=aof hM (λi=>0<w i) hi;have b:0<=(if 0<w i then w i else 0):=by grind
  have:=bj a b;grind
 have h4:=MS h3 (cL h1 h2);intro i hi hp;have h5:=h4 i hi;rw[qV n (if 0<w i then w i else 0) λj=>if 0<w j then M j i else 0,ae hp]at h5;refine aog hM (λi=>0<w i) hi ?_;generalize aB n (λj=>if 0<w j then M j i else 0)=z at h5⊢;have:(z-1)*w i=0:=by grind
 rcases gP.mp this with e|e<;>grind
structure Flow(n:Nat) where
 G:(Nat->Rat)->Nat->Rat
 M:(Nat->Rat)->Nat->Nat->Rat
 mono:∀x y,(∀i,i<n->0<=x i)->(∀i,i<n->x i<=y i)->∀j,j<n->G x j<=G y j
 leak:∀x y,(∀i,i<n->0<=x i)->(∀i,i<n->x i<=y i)->aB n (λi=>x i-G x i)<=aB n (λi=>y i-G y i)
 nn:∀x,(∀i,i<n->0<=x i)->∀j i,j<n->i<n->0<=M x j i
 loc:∀x d,(∀i,i<n->0<=x i)->(∀i,i<n->0<=d i)->∃ε,0<ε/\∀s,0<=s->s<=ε->∀j,j<n->G (λi=>x i+s*d i) j=G x j+s*mv n (M x) d j
def Nn(n:Nat)(x:Nat->Rat):Prop:=∀i,i<n->0<=x i
def Le(n:Nat)(x y:Nat->Rat):Prop:=∀i,i<n->x i<=y i
def bF(x d:Nat->Rat)(s:Rat)(i:Nat):Rat:=x i+s*d i
def Nn.step{n:Nat}{x d:Nat->Rat}{s:Rat}(hx:Nn n x)(hd:Nn n d)(hs:0<=s):Nn n (bF x d s):=λi hi=>by have:=hx i hi;have:=ce hs (hd i hi);unfold Ins.bF;grind
def le_step{n:Nat}{x d:Nat->Rat}{s:Rat}(hd:Nn n d)(hs:0<=s):Le n x (bF x d s):=λi hi=>by have:=ce hs (hd i hi);unfold bF;grind
def Nn.le{n:Nat}{x y:Nat->Rat}(h:Nn n x)(hl:Le n x y):Nn n y:=λi hi=>cL (h i hi) (hl i hi)
section
variable {n:Nat} (F:Flow n)
def Lin(x d:Nat->Rat)(h:Rat):Prop:=∀s,0<=s->s<=h->∀j,j<n->F.G (bF x d s) j=F.G x j+s*mv n (F.M x) d j
def Same(x d:Nat->Rat)(h:Rat):Prop:=∀s,0<=s->s<h->∀j i,j<n->i<n->F.M (bF x d s) j i=F.M x j i
theorem cancel{s a b:Rat}(hs:0<s)(h:s*a<=s*b):a<=b:=by refine gR.mp λhlt=>?_;have:=Rat.mul_lt_mul_of_pos_left hlt hs;grind
def aoh{M:Nat->Nat->Rat}{k:Nat}(hk:k<n)(j:Nat):mv n M (λi=>if i=k then 1 else 0) j=M j k:=by grind[mv,jC]
def Flow.sub{x:Nat->Rat}(hx:Nn n x):LP n (F.M x):=by
 refine⟨F.nn x hx,λk hk=>?_⟩;have hd:Nn n (λi=>if i=k then 1 else 0):=λi _=>by grind
 obtain⟨ε,he,hl⟩:=F.loc x _ hx hd;have h1:=F.leak x (bF x _ ε) hx (le_step hd kd);have h2:aB n (λi=>bF x (λi=>if i=k then 1 else 0) ε i-F.G (bF x (λi=>if i=k then 1 else 0) ε) i)=aB n (λi=>x i-F.G x i)+(ε*1-ε*aB n (λj=>F.M x j k)):=by
  have e1:(1:Rat)=aB n (λi=>if i=k then 1 else 0):=by grind[jC]
  have e2:ε*1-ε*aB n (λj=>F.M x j k)=aB n λj=>ε*(if j=k then 1 else 0)-ε*F.M x j k:=by rw[iH,gQ,gQ,<-e1]
  rw[e2,<-dF];refine aQ λj hj=>?_;have:=hl ε kd aY j hj;rw[aoh hk]at this;unfold bF;grind
 grind[cancel]
def ada{ε:Rat}(h:0<ε):∃s,0<s/\s<=ε/\s<=1:=by
 by_cases h1:ε<=1
 .grind
 .exact⟨1,jj,by grind,aY⟩
theorem TB{x z:Nat->Rat}(hx:Nn n x)(hz:Le n x z){j:Nat}(hj:j<n)(h:F.G z j<=F.G x j):∀i,i<n->x i<z i->F.M x j i=0:=by
 have hd:Nn n (λi=>z i-x i):=λi hi=>by have:=hz i hi;grind
 obtain⟨ε,he,hl⟩:=F.loc x _ hx hd;obtain⟨s,h1,h2,h3⟩:=ada he;have h4:=hl s kd h2 j hj;have h5:Le n (bF x (λi=>z i-x i) s) z:=λi hi=>by have:=bj h3 (hd i hi);unfold bF;grind
 have h6:=F.mono _ _ (hx.step hd kd) h5 j hj;unfold bF at h6;rw[h4]at h6;have h7:s*mv n (F.M x) (λi=>z i-x i) j<=s*0:=by grind
 have h8:=cancel (a:=mv n (F.M x) (λi=>z i-x i) j) (b:=0) h1 h7;intro i hi hlt;have h9:=Yx (λi hi=>ce (F.nn x hx j i hj hi) (hd i hi)) h8 i hi;grind
def afM{x z:Nat->Rat}(hx:Nn n x)(hz:Le n x z)(hl:aB n (λi=>z i-F.G z i)<=aB n (λi=>x i-F.G x i))(h:∀j,j<n->z j<=x j->F.G z j<=F.G x j):Shut n (F.M x) λi=>x i<z i:=by
 have hd:Nn n (λi=>z i-x i):=λi hi=>by have:=hz i hi;grind
 obtain⟨ε,he,hlin⟩:=F.loc x _ hx hd;obtain⟨s,h1,h2,h3⟩:=ada he;have h5:Le n (bF x (λi=>z i-x i) s) z:=λi hi=>by have:=bj h3 (hd i hi);unfold bF;grind
 have h6:=F.leak _ _ (hx.step hd kd) h5;have h7:aB n (λi=>bF x (λi=>z i-x i) s i-F.G (bF x (λi=>z i-x i) s) i)=aB n (λi=>x i-F.G x i)+s*(aB n (λi=>z i-x i)-aB n (mv n (F.M x) λi=>z i-x i)):=by rw[<-iH,<-gQ,<-dF];refine aQ λj hj=>?_;have:=hlin s kd h2 j hj;unfold bF;grind
 rw[h7]at h6;have h8:s*(aB n (λi=>z i-x i)-aB n (mv n (F.M x) λi=>z i-x i))<=s*0:=by grind
 have h9:=cancel (b:=0) h1 h8;have hM:=F.sub hx;have h10:aB n (mv n (F.M x) λi=>z i-x i)=aB n λi=>aB n (λj=>F.M x j i)*(z i-x i):=by unfold mv;rw[AY];exact aQ λi _=>qV n _ _
 rw[h10]at h9;have h11:=MS (f:=λi=>aB n (λj=>F.M x j i)*(z i-x i)) (g:=λi=>z i-x i) (λi hi=>by have:=bj (hM.le i hi) (hd i hi);dsimp only at this;grind) kd
 intro i hi hlt;grind[Go.Proofs.Ins.TB]
def Fix(c:Nat->Rat)(t:Rat)(x:Nat->Rat):Prop:=∀j,j<n->x j=t*c j+F.G x j
def Pre(c:Nat->Rat)(t:Rat)(y:Nat->Rat):Prop:=∀j,j<n->t*c j+F.G y j<=y j
def Post(c:Nat->Rat)(t:Rat)(y:Nat->Rat):Prop:=∀j,j<n->y j<=t*c j+F.G y j
def Fix.leak{c:Nat->Rat}{t:Rat}{x:Nat->Rat}(h:Fix F c t x):aB n (λi=>x i-F.G x i)=aB n λi=>t*c i:=aQ λi hi=>by have:=h i hi;grind
def Yz{c:Nat->Rat}{t:Rat}{x y:Nat->Rat}(hx:Nn n x)(hf:Fix F c t x)(hno:∀S:Nat->Prop,(∃i,i<n/\S i)->¬Shut n (F.M x) S)(hy:Nn n y)(hp:Post F c t y):Le n y x:=by
 obtain⟨z,ez⟩:∃z:Nat->Rat,z=λi=>if x i<y i then y i else x i:=⟨_,rfl⟩
 have hxz:Le n x z:=λi _=>by grind
 have hyz:Le n y z:=λi _=>by grind
 have hz:Post F c t z:=λj hj=>by have h1:=F.mono _ _ hx hxz j hj;have h2:=F.mono _ _ hy hyz j hj;have h3:=hf j hj;have h4:=hp j hj;grind
 have h1:=F.leak _ _ hx hxz;have h2:=hf.leak;have h3:=oN hz;rw[dF]at h3;have h4:aB n (λi=>z i-F.G z i)=aB n z-aB n (F.G z):=iH n _ _;have hl:aB n (λi=>z i-F.G z i)<=aB n (λi=>x i-F.G x i):=by grind
 have h5:=MS hz (by grind[dF])
 have h6:=afM F hx hxz hl λj hj hle=>by have:=h5 j hj;have:=hf j hj;grind
 intro i hi;grind
def ajp:∀(n:Nat) (x y v:Nat->Rat) (h:Rat),0<=h->Le n x y->Nn n v->∃s,0<=s/\s<=h/\Le n (bF x v s) y/\(s=h\/∃i,i<n/\0<v i/\bF x v s i=y i)
 |0,x,y,v,h,h0,_,_=>⟨h,h0,aY,λi hi=>jb,.inl rfl⟩
 |n+1,x,y,v,h,h0,hl,hv=>by
  obtain⟨s,h1,h2,h3,h4⟩:=ajp n x y v h h0 (λi hi=>hl i jb) (λi hi=>hv i jb);by_cases hc:bF x v s n<=y n
  .refine⟨s,h1,h2,λi hi=>?_,?_⟩
   .by_cases e:i=n
    .subst e;exact hc
    .exact h3 i jb
   .rcases h4 with h4|⟨i,hi,h5⟩
    .exact .inl h4
    .exact .inr ⟨i,jb,h5⟩
  .have hxn:=hl n jb;have hvn:=hv n jb;unfold bF at hc;have hp:0<v n:=by
    rcases Rat.le_iff_lt_or_eq.mp hvn with e|e
    .exact e
    .exfalso;rw[<-e]at hc;grind
   obtain⟨r,er⟩:∃r,r*v n=y n-x n:=⟨(y n-x n)/v n,dc kd⟩
   have hr0:0<=r:=by refine gR.mp λhlt=>?_;have:=dX hlt hp;grind
   have hrs:r<=s:=by refine gR.mp λhlt=>?_;have:=dX hlt hp;grind
   refine⟨r,hr0,by grind,λi hi=>?_,.inr ⟨n,jb,hp,by unfold bF;grind⟩⟩;by_cases e:i=n
   .subst e;unfold bF;grind
   .have a:=h3 i jb;have b:=bj hrs (hv i jb);unfold bF at*;grind
def YB{c:Nat->Rat}{t:Rat}{x v:Nat->Rat}{h:Rat}(hf:Fix F c t x)(hl:Lin F x v h)(hv:∀j,j<n->v j=mv n (F.M x) v j+c j){s:Rat}(h0:0<=s)(hs:s<=h):Fix F c (t+s) (bF x v s):=λj hj=>by rw[hl s h0 hs j hj];have:=hf j hj;grind[bF]
def YC{c:Nat->Rat}{t:Rat}{x d:Nat->Rat}{h:Rat}(hf:Fix F c t x)(hl:Lin F x d h)(hd:∀j,j<n->d j=mv n (F.M x) d j){s:Rat}(h0:0<=s)(hs:s<=h):Fix F c t (bF x d s):=λj hj=>by rw[hl s h0 hs j hj];have:=hf j hj;grind[bF]
def Least(c:Nat->Rat)(t:Rat)(x:Nat->Rat):Prop:=∀t' y,Nn n y->Pre F c t' y->(t<t'\/(t=1/\t'=1))->Le n x y
theorem Least.zero(c:Nat->Rat)(t:Rat):Least F c t λ_=>0:=λ_ _ hy _ _ i hi=>hy i hi
def touch{c:Nat->Rat}{t t':Rat}{z y:Nat->Rat}(hz:Nn n z)(hzy:Le n z y)(hc:∀j,j<n->0<=c j)(hf:Fix F c t z)(hp:Pre F c t' y)(ht:t<t'){j:Nat}(hj:j<n)(he:y j<=z j):
  c j=0/\∀i,i<n->z i<y i->F.M z j i=0:=by
 have h1:=F.mono _ _ hz hzy j hj
 have h2:=hf j hj
 have h3:=hp j hj
 have h4:(t'-t)*c j<=0:=by grind
 have h5:c j<=0:=cancel (s:=t'-t) kd kd
 have h6:c j=0:=by grind
 refine⟨h6,TB F hz hzy hj (by rw[h6]at h2 h3;grind)⟩
def abm{c:Nat->Rat}{t:Rat}{x v:Nat->Rat}{h:Rat}(hx:Nn n x)(hv:Nn n v)(hc:∀j,j<n->0<=c j)(h0:0<=h)(hf:Fix F c t x)(hl:Lin F x v h)(hsm:Same F x v h)
  (hvm:∀j,j<n->v j=mv n (F.M x) v j+c j) (hno:∀S:Nat->Prop,(∃i,i<n/\S i)->(∀i,i<n->S i->0<v i)->¬Shut n (F.M x) S) (ht:t<1) (hL:Least F c t x):Least F c (t+h) (bF x v h):=by
 intro t' y hy hp ht'
 have hxy:Le n x y:=hL t' y hy hp (.inl kd)
 obtain⟨s,h1,h2,h3,h4⟩:=ajp n x y v h h0 hxy hv
 rcases h4 with h4|⟨i,hi,hvi,hti⟩
 .grind
 by_cases hsh:s<h
 .exfalso
  have hz:=hx.step hv h1
  have hfz:=YB F hf hl hvm h1 (eh hsh)
  have htz:t+s<t':=by grind
  have VD:=λj hj he=>touch F (j:=j) hz h3 hc hfz hp htz hj he
  obtain⟨w,ew⟩:∃w:Nat->Rat,w=λi=>if bF x v s i=y i then v i else 0:=⟨_,rfl⟩
  have hM:=F.sub hx
  have hws:=Po hM (w:=w) λj hj hw=>by
   have e:w j=if bF x v s j=y j then v j else 0:=by rw[ew]
   by_cases hq:bF x v s j=y j
   .rw[ae hq]at e;obtain⟨hc0,hm0⟩:=VD j hj kd;have a:mv n (F.M x) w j=mv n (F.M x) v j:=aQ λk hk=>by
     rw[ew];dsimp only;by_cases hk2:bF x v s k=y k
     .grind
     .have b:=hm0 k hk (by have:=h3 k hk;grind);rw[hsm s h1 hsh j k hj hk]at b;grind
    grind
   grind
  refine hno (λi=>0<w i) ⟨i,hi,?_⟩ (λk hk hw=>?_) hws
  .grind
  grind
 grind
def abn{c:Nat->Rat}{t:Rat}{x d:Nat->Rat}{h:Rat}(hx:Nn n x)(hd:Nn n d)(hc:∀j,j<n->0<=c j)(h0:0<=h)(hf:Fix F c t x)(hl:Lin F x d h)(hsm:Same F x d h)
  (hdm:∀j,j<n->d j=mv n (F.M x) d j) (hre:∀E:Nat->Prop,(∃i,i<n/\E i/\0<d i)->(∀j,j<n->E j->c j=0)->(∀j i,j<n->i<n->E j->F.M x j i≠0->E i)->False)
  (ht:t<1) (hL:Least F c t x):Least F c t (bF x d h):=by
 intro t' y hy hp ht'
 have hxy:Le n x y:=hL t' y hy hp ht'
 obtain⟨s,h1,h2,h3,h4⟩:=ajp n x y d h h0 hxy hd
 rcases h4 with h4|⟨i,hi,hvi,hti⟩
 .grind
 by_cases hsh:s<h
 .exfalso
  have hz:=hx.step hd h1
  have hfz:=YC F hf hl hdm h1 (eh hsh)
  have VD:=λj hj he=>touch F (j:=j) hz h3 hc hfz hp kd hj he
  refine hre (λi=>bF x d s i=y i) ⟨i,hi,hti,hvi⟩ (λj hj he=>(VD j hj kd).1) λj k hj hk he hne=>?_
  refine bw λhk2=>hne ?_
  have b:=(VD j hj kd).2 k hk (by have:=h3 k hk;grind)
  rwa[hsm s h1 hsh j k hj hk]at b
 grind
end
end Go.Proofs.Ins
