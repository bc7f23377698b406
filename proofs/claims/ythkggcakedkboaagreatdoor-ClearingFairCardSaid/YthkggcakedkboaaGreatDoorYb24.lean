import Derived.Test.YthkggcakedkboaaGreatDoorYb23
set_option linter.all false
set_option maxRecDepth 100000
set_option maxHeartbeats 8000000
namespace Go.Proofs.Xe
open Go.RowKit Go.Proofs.Ins
def vQ:Rat:=((256^uK:Nat):Rat)
def uQ:Rat:=((256^900:Nat):Rat)
def OD:0<=uQ:=by have:((0:Nat):Rat)<=((256^900:Nat):Rat):=bo.mpr (bw _);exact this
def pow_two{a b c:Nat}(h:a+b=c):256^a*256^b=256^c:=by rw[<-h,eJ]
def FV{k:Nat}(h:k<=256^100):(k:Rat)*uQ<=vQ:=by
 unfold uQ vQ;rw[<-fw];refine bo.mpr ?_;calc k*256^900<=256^100*256^900:=bp _ h
  _=256^uK:=pow_two (show 100+900=uK from rfl)
def OE{k:Nat}(h:k<=256^100):(k:Rat)<=vQ:=by unfold vQ;exact bo.mpr (av h (bB jj jj))
abbrev Iu(A:Nat)(q:Rat):Prop:=dX A q/\0<=q/\q<=uQ
section
variable {A n:Nat} {l:fP}
def UN{t:dJ}(h:zZ (Iu A) n t):aT t<=(t.length:Rat)*uQ:=by
 induction t with
 |nil=>show(0:Rat)<=_;simp
 |cons p t ih=>
  have h1:=ih λq hq=>h q (by simp[hq])
  have h2:=(h p kc).2.2.2
  rw[bO,gL]
  grind[aT]
def NQ:∀{l:fP},xI (Iu A) n l->jr l<=(dH l:Rat)*uQ
 |[],_=>by show(0:Rat)<=((0:Nat):Rat)*uQ;simp
 |t::l,h=>by have h1:=NQ (l:=l) λu hu=>h u (by simp[hu]);have h2:=UN (h t kc);show aT t+jr l<=((t.length+dH l:Nat):Rat)*uQ;grind
theorem y7:∀{l:fP},Jm l->0<=jr l
 |[],_=>aM
 |t::l,h=>by have:=y7 (l:=l) λu hu=>h u (by simp[hu]);have:=yG (h t kc);show 0<=aT t+jr l;grind
def aiC:∀{l:fP}{j:Nat},Jm l->j<l.length->aT (ix l j)<=jr l
 |t::l,0,h,_=>by have:=y7 (l:=l) λu hu=>h u (by simp[hu]);show aT t<=aT t+jr l;grind
 |t::l,j+1,h,hj=>by have:=aiC (l:=l) (j:=j) (λu hu=>h u (by simp[hu])) (by simpa using hj);have:=yG (h t kc);show aT (ix l j)<=aT t+jr l;grind
theorem aay:∀{l:fP}(k:Nat),Jm l->0<=BA l k/\BA l k<=jr l
 |[],k,h=>by unfold BA;rw[List.take_nil];exact⟨aM,aM⟩
 |t::l,0,h=>⟨aM,y7 h⟩
 |t::l,k+1,h=>by obtain⟨h1,h2⟩:=aay (l:=l) k λu hu=>h u (by simp[hu]);have:=yG (h t kc);unfold BA at h1 h2⊢;rw[gw];show 0<=aT t+jr _/\aT t+jr _<=aT t+jr l;grind
end
structure EB(n:Nat)(e:fA):Prop where
 nb:n<=1000
 r0:0<e.rk.length
 r1:e.rk.length<=1000
 rn:dH e.rk<=1000
 ps:e.ps.length<=1000
 m:∀p∈e.ps,p.1.length<=1000/\∀i∈p.1,i<n
 p:∀p∈e.ps,0<p.2.length/\p.2.length<=1000/\dH p.2<=10000
section
variable {A B R D n:Nat} {l:fP} {m x:Rat}
theorem nY(hD:Bv D)(hB:B∣D){q:Rat}(h:dX B q)(h0:0<=q)(h1:q<=vQ):Zk D 1 q:=Zk.of hD.1 (h.dvd hB hD.1) h0 h1
theorem tH:2<=256^uK:=av (by decide:2<=256^1) (bB jj jj)
def Ei:∀{l:fP}{t:dJ},t∈l->t.length<=dH l
 |u::l,t,h=>by
  unfold dH;rcases bz.mp h with rfl|h
  .omega
  .have:=Ei h;omega
def XT(hD:Bv D)(hA:A∣D)(h:xI (Iu A) n l)(hl:l.length<=1000)(hn:dH l<=10000):Ou D n l:=by
 have hU:=FV (k:=10000) jj;have hU1:=FV (k:=1) jj;have hz:∀t∈l,∀p∈t,Zk D 1 p.2:=λt ht p hp=>by have:=(h t ht p hp).2;grind[Go.Proofs.Xe.nY]
 refine⟨jb,λt ht=>by have:=Ei ht;omega,λt ht=>?_,λt ht p hp=>(h t ht p hp).1,λt ht p hp=>(hz t ht p hp).sz hD (by grind[tH]),hz⟩;have h1:=UN (h t ht);have h2:(t.length:Rat)<=((10000:Nat):Rat):=bo.mpr (by have:=Ei ht;omega);have h3:=bh h2 OD;refine(nY hD hA (Dp λp hp=>⟨(h t ht p hp).2.1,(h t ht p hp).2.2.1⟩) (yG λp hp=>(h t ht p hp).2.2.1) kd).sz hD (by grind[tH])
def Lm(hA0:0<A)(hD:Bv D)(hA:A∣D)(h:xI (Iu A) n l)(hn:dH l<=10000)(hB:B∣D)(hm:dX B m)(h0:0<=m)(h1:m<=vQ)(hR0:0<R)(hR:R*wz A l m∣D)(hx:dX R x)(hx0:0<=x)(hx1:x<=vQ):Ov D l m x:=by
 have hnn:=h.D.nn;have hR1:R∣D:=bL (aR _ _) hR;have hU:=FV (k:=10000) jj;have h2:(dH l:Rat)<=((10000:Nat):Rat):=bo.mpr hn;have h3:=bh h2 OD;have ht:=NQ h;have hu:=tH;have hzx:=nY hD hR1 hx hx0 hx1;refine⟨λk _=>?_,h0,hzx.sz hD jb,λhf=>?_,λhf p hp=>?_⟩
 .have hc:=aay k hnn;exact((nY hD hB hm h0 h1).sub (nY hD hA (aiw h.D k) hc.1 kd)).sz hD jb
 .have hs:=Aa h0 hf;have:=aiC hnn hf;exact hzx.auM (nY hD hA (Dp (h.D _ (gy hf))) (eO hs) kd) hD jb jb kd
 .have hs:=Aa h0 hf;have hpp:=h.D _ (gy hf) p hp;have hps:p.2<=aT (ix l (dP l m)):=by
   have:∀t:dJ,(∀q∈t,0<=q.2)->p∈t->p.2<=aT t:=λt=>by
    induction t with
    |nil=>simp
    |cons q t ih=>
     intro hq hp
     show p.2<=q.2+aT t
     have h4:=hq q kc
     have h5:0<=aT t:=yG λr hr=>hq r (by simp[hr])
     grind
   exact this _ (λq hq=>(h.D _ (gy hf) q hq).2) hp
  have e:p.2*(x/aT (ix l (dP l m)))=x*(p.2/aT (ix l (dP l m))):=by grind
  have h4:=xC hs hps;have h5:=aap hpp.2 hs;have h6:=cW h4 hx0;refine nY hD hR (aix hA0 h.D h0 hR0 hx hf hpp.1) ?_ ?_
  .grind[Rat.mul_nonneg]
  grind
def left_le(h0:0<=m)(h:Jm l):0<=jB l m/\jB l m<=m:=by grind[Go.Proofs.Xe.UG,Go.Proofs.Xe.Ot,Go.Proofs.Xe.aay]
def arO{l:fP}(h:Jm l)(c:Int):∀{m:Rat},0<=m->fZ l m c<=jr l:=by
 induction l with
 |nil=>intro m _;rfl
 |cons t l ih=>
  intro m hm
  have hl:=y7 (l:=l) λu hu=>h u (by simp[hu])
  have h2:=KT (h t kc) c
  have h3:=vY (h t kc) c
  unfold fZ
  show _<=aT t+jr l
  split
  .next hlt=>
   have h4:=xC (a:=m) (b:=aT t) kd (eO hlt)
   have h5:=cW h4 h3
   grind
  .have:=ih (λu hu=>h u (by simp[hu])) (m:=m-aT t) kd
   grind
def UO{l:fP}(h:Jm l)(c:Int){x:Rat}(hx:0<=x)(h0:0<=m):jO l m x c<=x:=by
 rw[Ef];split
 .next hf=>
  have hs:=Aa h0 hf;have hl:=h _ (gy hf);have e:dY (ix l (dP l m)) c*(x/aT (ix l (dP l m)))=x*(dY (ix l (dP l m)) c/aT (ix l (dP l m))):=by grind
  rw[e];have h4:=xC hs (KT hl c);have h6:=cW h4 hx;grind
 omega
end
section
variable {A B D n:Nat} {m:Rat} {e:fA}
def rJ{α:Type}{f:α->Rat}{v:Rat}(h0:0<=v):∀{l:List α}{k:Nat},(∀a∈l,f a<=v)->l.length<=k->aI l f<=(k:Rat)*v
 |[],k,_,_=>by have:((0:Nat):Rat)<=(k:Rat):=bo.mpr (bw _);exact cj this h0
 |a::l,k,h,hk=>by
  obtain⟨k,rfl⟩:∃j,k=j+1:=⟨k-1,by simp at hk;omega⟩
  have h1:=rJ h0 (l:=l) (k:=k) (λb hb=>h b (by simp[hb])) (by simpa using hk);have h2:=h a kc;show f a+aI l f<=_;rw[gL];have:((1:Nat):Rat)=1:=rfl;grind
def aiD(h:ED A uQ n e)(hb:EB n e)(h0:0<=m){p:List Nat×fP}(hp:p∈e.ps):kD e m p<=vQ:=by have ht:=NQ h.rk;have h2:(dH e.rk:Rat)<=((1000:Nat):Rat):=bo.mpr hb.rn;have h3:=bh h2 OD;have h4:=rJ (f:=xP e m) (v:=((1000:Nat):Rat)*uQ) (cj (bo.mpr (bw 1000)) OD) (l:=p.1) (k:=1000) (λc _=>cL (arO h.rk.D.nn c h0) (cL ht h3)) (hb.m p hp).1;have h5:=FV (k:=1000*1000) jj;grind[kD]
def arP(h:ED A uQ n e)(hb:EB n e)(h0:0<=m){p:List Nat×fP}(hp:p∈e.ps):rW e m p<=vQ:=by have h4:=rJ (f:=rts e m) (v:=1) jj (l:=p.1) (k:=1000) (λc _=>UO h.rk.D.nn c jj h0) (hb.m p hp).1;have h5:=OE (k:=1000) jj;grind[rW]
def aiE(hD:Bv D)(hA:A∣D)(h:ED A uQ n e)(hb:EB n e):EOk D n e:=by
 have hn:=hb.nb;have hps:=hb.ps;refine⟨jb,XT hD hA h.rk hb.r1 (by have:=hb.rn;omega),hb.r0,jb,λp hp=>⟨by have:=(hb.m p hp).1;omega,(hb.m p hp).2⟩,λp hp=>⟨XT hD hA (h.ps p hp) (hb.p p hp).2.1 (hb.p p hp).2.2,(hb.p p hp).1⟩,?_⟩;have h1:∀l:List (List Nat×fP),(∀p∈l,dH p.2<=10000)->Ik l<=l.length*10000:=λl=>by
  induction l with
  |nil=>intro _;exact cU 0
  |cons p l ih=>
   grind[Ik]
 have h2:=h1 e.ps λp hp=>(hb.p p hp).2.2;have h3:=hb.rn;grind[uK]
def aiF(hA0:0<A)(hB0:0<B)(hAB:A∣B)(hD:Bv D)(hBD:B*BD A e m∣D)(h:ED A uQ n e)(hb:EB n e)(hm:dX B m)(h0:0<=m)(h1:m<=vQ):MOk D e m:=by
 have hB:B∣D:=bL (aR _ _) hBD;have hA:A∣D:=bL hAB hB;have hr:B*wz A e.rk m∣D:=bL (cH _ (aR _ _)) hBD;have hr0:=cw hB0 (rH hA0 h.rk.D h0);refine⟨(nY hD hB hm h0 h1).sz hD (by grind[tH]),?_,λp hp=>?_⟩
 .have hl:=left_le h0 h.rk.D.nn;exact Lm hA0 hD hA h.rk (by have:=hb.rn;omega) hB hm h0 h1 hB0 hr (aax hA0 hB0 hAB h.rk.D hm) hl.1 (cL hl.2 h1)
 .have hg:=l7 h.nn h0 p;have hgD:=XP hA0 hB0 hAB h hm h0 p;have hgl:=aiD h hb h0 hp;have hl:=left_le hg (h.ps p hp).D.nn;have hd:B*wz A e.rk m*wz A p.2 (kD e m p)∣D:=by refine bL ?_ hBD;rw[gn];exact cH _ (cH _ (Dt A e m hp))
  exact⟨Lm hA0 hD hA (h.ps p hp) (hb.p p hp).2.2 hr hgD hg hgl hr0 hd (aax hA0 hr0 (bL hAB (aR _ _)) (h.ps p hp).D hgD) hl.1 (cL hl.2 hgl),(nY hD hr hgD hg hgl).sz hD (by grind[tH])⟩
def aiG(hA0:0<A)(hB0:0<B)(hAB:A∣B)(hD:Bv D)(hBD:B*BD A e m∣D)(h:ED A uQ n e)(hb:EB n e)(hm:dX B m)(h0:0<=m)(h1:m<=vQ):ROk D e m:=by
 have hB:B∣D:=bL (aR _ _) hBD;have hA:A∣D:=bL hAB hB;have hr:B*wz A e.rk m∣D:=bL (cH _ (aR _ _)) hBD;have hr0:=rH hA0 h.rk.D h0;have hr1:wz A e.rk m∣D:=bL (ic _ _) hr;have h1v:=OE (k:=1) jj;refine⟨?_,λp hp=>?_⟩
 .exact Lm (R:=1) hA0 hD hA h.rk (by have:=hb.rn;omega) hB hm h0 h1 jj kd ⟨1,by grind⟩ jj h1v
 .have hg:=l7 h.nn h0 p;have hgD:=XP hA0 hB0 hAB h hm h0 p;have hgl:=aiD h hb h0 hp;have hR:=Jq h.nn h0 p;have hRD:=acF hA0 h h0 p;have hRl:=arP h hb h0 hp;have hd:wz A e.rk m*wz A p.2 (kD e m p)∣D:=by refine bL ?_ (bL (ic _ _) hBD);exact cH _ (Dt A e m hp)
  exact⟨Lm hA0 hD hA (h.ps p hp) (hb.p p hp).2.2 hr hgD hg hgl hr0 hd hRD hR hRl,(nY hD hr1 hRD hR hRl).sz hD (by grind[tH])⟩
end
section
variable {E:Env} [Z7 E] {p:Nat→Prop} {σ:St} {K:V→St→Prop}
def XU{v:B}{a:ig}(ha:dZ p σ.h v a)(h1:a.length<=1000000)(h2:a.flatten.length<=1000000){v':V}{σ':St}(hm:ahE a.flatten σ=some (v',σ')):aC E 133 [.c v] σ K=K v' σ':=
 QS (by have h:=(amq ha h1 h2).trans hm;unfold Xh;rw[abS rfl];unfold ams ahH;simp only[Nat.reduceEqDiff,reduceIte,h])
def Rj{v:B}{a:ig}(ha:dZ p σ.h v a)(h1:a.length<=1000000)(h2:a.flatten.length<=1000000){v':V}{σ':St}(hm:ahD (vX a) σ=some (v',σ')):aC E 91 [.agg [v]] σ K=K v' σ':=
 QS (by have h:=(amo ha h1 h2).trans hm;unfold Xh;rw[abS rfl];unfold ams ahH;simp only[Nat.reduceEqDiff,reduceIte,h])
end
def Rk{E:Env}[Z7 E]{σ:St}(hW:WF σ){p:Nat->Prop}{v:B}{a:ig}(ha:dZ p σ.h v a)(h1:a.length<=1000000)(h2:a.flatten.length<=1000000):
  aC E 91 [.agg [v]] σ λr σ'=>(∃u,r=.c u/\zX σ'.h u (vX a).length (λi=>[.int .i64 (ix (vX a) i)]) 1 3 σ.aj σ'.aj)/\Fr σ σ':=by
 by_cases h0:(vX a).length=0
 .rw[Rj ha h1 h2 (v':=.c .aX) (σ':=σ) (ab h0)]
  exact⟨⟨_,rfl,.inl ⟨h0,rfl⟩⟩,Fr.refl hW⟩
 .rw[Rj ha h1 h2 (ae h0)]
  exact⟨⟨_,rfl,.inr ⟨jb,_,rfl,aA _ _ _,jp,cf _⟩⟩,fr⟩
def am4{a:ig}{n:Nat}(ha:∀t∈a,∀x∈t,x.k=-1\/0<=x.k/\x.k<n){i:Nat}(hi:i<(vX a).length):B.int .i64 (ix (vX a) i)=P7 (jH a) i:=by unfold P7 jH;rw[XR Int.toNat hi];have:=ug ha _ (kN hi);grind
def OG(a:ig):(jH a).length=(vX a).length:=df _
structure TS(σ:St)(tb bs:Nat)(t:dJ):Prop where
 b:σ.h tb=some ⟨jQ (aV t.length bs) (aT t),none⟩
 o:OA σ.h bs t
 lo:tb<bs
 hi:t.length=0\/bs<σ.aj
def TS.lt{σ:St}(hW:WF σ){tb bs:Nat}{t:dJ}(h:TS σ tb bs t):tb<σ.aj:=hW.lt h.b
def TS.on{σ σ':St}{tb bs:Nat}{t:dJ}(h:TS σ tb bs t)(h1:∀b,tb<=b->b<σ.aj->σ'.h b=σ.h b)(hW:WF σ)(hle:σ.aj<=σ'.aj):TS σ' tb bs t:=by have h0:=h.lt hW;have hlo:=h.lo;have hhi:=h.hi;refine⟨by rw[h1 tb jp h0];exact h.b,?_,hlo,jb⟩;refine(vW ?_).trans h.o;grind
theorem TS.fr{σ σ':St}{tb bs:Nat}{t:dJ}(h:TS σ tb bs t)(hW:WF σ)(hf:Fr σ σ'):TS σ' tb bs t:=h.on (λb _ hb=>hf.old b hb) hW hf.le
def TS.fre{σ σ':St}{ex:List Nat}{tb bs:Nat}{t:dJ}(h:TS σ tb bs t)(hW:WF σ)(hf:aU ex σ σ')(hx:∀b∈ex,b<tb):TS σ' tb bs t:=h.on (λb h1 h2=>hf.old b h2 λhm=>by grind) hW hf.le
def aaz{σ:St}(hW:WF σ){tb bs:Nat}{t:dJ}(hT:TS σ tb bs t)(hl:t.length<=1000000)(k:Int)(q:Rat)(hs:Sz (aT t))(hq:Sz q):
  aC EN 93 [.c (.ptr tb 0),.c (.int .i64 k),.agg [.bool (rn q),.str (rs q),.str (rd q)]] σ λ_ σ'=>(∃bs',TS σ' tb bs' (t++[(k,q)]))/\(∀b,b<tb->σ'.h b=σ.h b)/\WF σ'/\σ.aj<=σ'.aj:=by
 have h0:=hT.lo
 have hlt:=hT.lt hW
 have:=air (G:=λ_=>jQ (aV t.length bs) (aT t)) (n:=1) (r:=0) hW (by rw[hT.b];rfl) jj (λ_=>rfl) rfl rfl rfl hT.o (.inr jb) hT.hi hl k q hs hq
 refine this.mono ?_
 rintro _ σ' ⟨nx,h1,h2,h3,h4,h5⟩
 have hle:=h5.le
 refine⟨⟨nx,?_,?_,jb,.inr h2⟩,λb hb=>h5.old b jb kd,h5.wf,hle⟩
 .rw[h3,Ri,az];rfl
 .unfold OA
  rw[az,bX]
  show σ'.h nx=some _
  grind[Go.Proofs.Xe.mF,Go.Proofs.Xe.cO,Go.Proofs.Xe.ji,Go.Proofs.Xe.gV,Go.Proofs.Xe.gU]
def am5(U:Nat->B)(Lf:Nat->dJ)(p:Nat->Prop)(h:Tr Bk)(i:Nat):Prop:=aZ p h 4 (U i) (Lf i).length λc=>zV (ix (Lf i) c)
def XV(U:Nat->B)(Lf:Nat->dJ)(i:Nat):List B:=jQ (U i) (aT (Lf i))
abbrev aaA(U:Nat->B)(Lf:Nat->dJ)(h:Tr Bk)(b n lo hi:Nat):Prop:=NF (am5 U Lf) h b n (XV U Lf) 4 157 lo hi
def UQ(U:Nat->B)(Lf:Nat->dJ)(j:Nat):QK (am5 U Lf) j:=λ_ _ _ _ hp hk hq=>aZ.keep hp hk hq
def UR(U:Nat->B)(Lf:Nat->dJ):LG (XV U Lf) 4:=λ_=>rfl
section
variable {U:Nat→B} {Lf:Nat→dJ} {h h' : Tr Bk} {b n lo hi:Nat}
def aaA.push(ho:aaA U Lf h b n lo hi){σ1:St}(hW:WF σ1){tb bs nx n':Nat}{t:dJ}(hL:Lf n=t)(hT:TS σ1 tb bs t)(ht:hi<=tb)(h5:lo<=hi)(hh:∀b,lo<=b->b<hi->σ1.h b=h b)(h3:σ1.aj<=nx)(h4:nx<n')
  (hb:h' nx=some ⟨bP n (XV U Lf)++jQ (aV t.length bs) (aT t),some (4,157)⟩) (hk:∀c,lo<=c->c<σ1.aj->n=0\/c≠b->h' c=σ1.h c):aaA (aO U n (aV t.length bs)) Lf h' nx (n+1) lo n':=by
 have hlt:=hT.lt hW
 have hlo:=hT.lo
 have hx:aZ (λb=>hi<=b/\b<σ1.aj) σ1.h 4 (aV t.length bs) t.length λj=>zV (ix t j):=hT.o.hlp (by rcases hT.hi with h0|h0;exact .inl h0;omega)
 refine NF.push ho (λj _=>UQ _ Lf j) (λj hj p h hq=>?_) (hi1:=σ1.aj) (h1:=σ1.h) ?_ hh jb h3 h4 h5 hb ?_ hk (λi hi=>?_) (UR _ _)
 .grind[am5,aQ]
 .grind[am5,aN]
 .grind[XV,aN]
 grind[XV,aQ]
def aaA.arQ(ho:aaA U Lf h b n lo hi){l:fP}(hl:l.length=n)(hL:∀i,i<n->Lf i=ix l i):yI (λb=>lo<=b/\b<hi) h (aV n b) l:=by
 have hel:=λi (hi:i<n)=>ho.el (λj _=>UQ U Lf j) hi;refine⟨U,?_,by cases n<;>trivial,λi hi=>?_⟩
 .rw[hl];refine(ho.hlp jj (λi hi=>?_) λb h1 h2=>⟨h1,h2⟩).congr λi hi=>by grind[XV]
  unfold XV jQ;simp only[cY,fa,Ap,FI,(hel i hi).kn,eE]
 .rw[hl]at hi;rw[<-hL i hi];exact hel i hi
end
def lsS(cs:List C5)(a:ig)(j:Nat):(Nat->Rat)×fP:=(a.take j).foldl ltS ((λi:Nat=>(ix cs i).a.q),[])
def AQ(f:Nat->Rat)(t:Ht)(l:Nat):(Nat->Rat)×dJ:=(t.take l).foldl Lj (f,[])
theorem OH{cs:List C5}{a:ig}{j:Nat}(h:j<a.length):lsS cs a (j+1)=ltS (lsS cs a j) (ix a j):=by grind[lsS,bF]
def Iw(cs:List C5)(a:ig):lsS cs a a.length=lsA cs a:=by grind[lsS,lsA]
def AU(cs:List C5)(a:ig):∀j,j<=a.length->(lsS cs a j).2.length=j
 |0,_=>rfl
 |j+1,h=>by rw[OH jb];unfold ltS;rw[az,AU cs a j jb];rfl
def aaB{α:Type}[Inhabited α]{l:List α}{x:α}{n:Nat}(h:l.length=n):ix (l++[x]) n=x:=by grind[gV]
def rM(m k:Nat)(F:Nat->Rat):cZ m (aO (λi=>if i<k then F i else 0) k (F k))=cZ m λi=>if i<k+1 then F i else 0:=dQ λi _=>by grind[aO]
def yL(m:Nat)(F:Nat->Rat):cZ m (λi=>if i<m then F i else 0)=cZ m F:=dQ λi hi=>ab hi
def xJ(m:Nat)(F:Nat->Rat):cZ m (λ_=>0)=cZ m λi=>if i<0 then F i else 0:=dQ λi _=>rfl
def aiH{s:(Nat->Rat)×dJ}{x:Ai}{kk:Nat}(h1:¬x.k=-1)(hk:x.k=Int.ofNat kk):Lj s x=(aO s.1 kk (s.1 kk-if x.b=true then jP (s.1 kk) x.a.q else s.1 kk),s.2++[(Int.ofNat kk,if x.b=true then jP (s.1 kk) x.a.q else s.1 kk)]):=by unfold Lj;rw[ae h1,hk];refine Prod.ext ?_ rfl;grind[aO]
def UU{cs:List C5}{a:ig}{i:Nat}:∀{j},i<j->j<=a.length->ix (lsS cs a j).2 i=(AQ (lsS cs a i).1 (ix a i) (ix a i).length).2
 |j+1,hi,hj=>by
  rw[OH jb];unfold ltS;by_cases e:i=j
  .subst e;have:=AU cs a i jb;exact(aaB this).trans (by unfold AQ;rw[ce])
  .show ix ((lsS cs a j).2++[_]) i=_;rw[gU _ _ (by rw[AU cs a j jb];omega)];exact UU jb jb
def XW{f:Nat->Rat}{t:Ht}{l:Nat}(h:l<t.length):AQ f t (l+1)=Lj (AQ f t l) (ix t l):=by grind[AQ,bF]
def Lp(f:Nat->Rat)(t:Ht):∀l,l<=t.length->(AQ f t l).2.length=l
 |0,_=>rfl
 |l+1,h=>by rw[XW jb];unfold Lj;split<;>simp[Lp f t l jb]
def aiI{cs:List C5}{a:ig}{j:Nat}(h:j<a.length):(lsS cs a (j+1)).1=(AQ (lsS cs a j).1 (ix a j) (ix a j).length).1:=by grind[OH,ltS,AQ]
def aeW(ms:List Nat)(f:Nat->Rat){i:Nat}(h:i<ms.length):vG (ms.take (i+1)) f=vG (ms.take i) f++[(((ix ms i:Nat):Int),f (ix ms i))]:=by grind[vG,bF]
def aiJ:∀{l:List Int}{lo hi:Int},l.Pairwise (· < ·)->(∀x∈l,lo<=x/\x<hi)->l.length<=(hi-lo).toNat
 |[],_,_,_,_=>bw _
 |a::l,lo,hi,hp,h=>by
  rw[List.pairwise_cons]at hp;have h1:=h a kc;have:=aiJ (lo:=a+1) (hi:=hi) hp.2 λx hx=>by grind
  grind
def FW{a:ig}{n:Nat}(ha:∀t∈a,∀x∈t,x.k=-1\/0<=x.k/\x.k<n):(jH a).length<=n:=by have:=aiJ (abO a) (ug ha);rw[OG];omega
theorem Lr(cs:List C5)(r:Nat):∀k,(zD cs r k).length<=k
 |0=>cU 0
 |k+1=>by have:=Lr cs r k;unfold zD;rw[az];split<;>simp<;>omega
section
variable {A n:Nat}
def arR(hA:0<A):P9 (Iu A) where
 min:=λa b ha hb=>by grind[jP]
 sub:=λa b ha hb=>by
  have h1:=ha.2;have h2:=hb.2;unfold jP;split
  .grind[dX.zero]
  .exact⟨ha.1.sub hb.1,by grind,by grind⟩
 zero:=⟨dX.zero A,aM,OD⟩
def OI(hA:Bv A){q:Rat}(h:Iu A q):Sz q:=by have hU:=FV (k:=1) jj;have:((1:Nat):Rat)=1:=rfl;exact(nY hA (iN A) h.1 h.2.1 kd).sz hA (by grind[tH])
def UW(hA:Bv A){t:dJ}(h:zZ (Iu A) n t)(hl:t.length<=10000):Sz (aT t):=by have hU:=FV (k:=10000) jj;have h1:=UN h;have h2:(t.length:Rat)<=((10000:Nat):Rat):=bo.mpr hl;have h3:=bh h2 OD;exact(nY hA (iN A) (Dp λp hp=>⟨(h p hp).2.1,(h p hp).2.2.1⟩) (yG λp hp=>(h p hp).2.2.1) kd).sz hA (by grind[tH])
def arS{P:Rat->Prop}(hP:P9 P){f:Nat->Rat}(hf:∀i,P (f i)){t:Ht}(ht:∀x∈t,Qa P n x)(l:Nat):(∀i,P ((AQ f t l).1 i))/\zZ P n (AQ f t l).2:=
 aau hP (t.take l) hf (λ_ h=>by cases h) λx hx=>ht x (eQ hx)
def arT{P:Rat->Prop}(hP:P9 P){cs:List C5}(hc:∀i,P (ix cs i).a.q){a:ig}(ha:∀t∈a,∀x∈t,Qa P n x)(j:Nat)(i:Nat):P ((lsS cs a j).1 i):=
 (aav hP (a.take j) hc (λ_ h=>by cases h) λt ht=>ha t (eQ ht)).1 i
end
def arU(p q:Rat):Je p q=jP p q:=by
 unfold Je jP;by_cases h:p<=q
 .rw[ab h,ab (lN.mpr h)]
 .rw[ae h,ae λe=>h (lN.mp e)]
structure aiK(A:Nat)(cs:List C5)(a:ig):Prop where
 nc:cs.length<=1000
 na:a.length<=1000
 nt:∀t,t<a.length->(ix a t).length<=1000
 nf:a.flatten.length<=1000000
 fc:∀i,i<cs.length->(ix cs i).a.fits 1000000
 fp:∀t,t<a.length->∀l,l<(ix a t).length->(ix (ix a t) l).a.fits 1000000
 c:∀i,Iu A (ix cs i).a.q
 p:∀t∈a,∀x∈t,Qa (Iu A) cs.length x
abbrev kF(p:Nat->Prop)(h:Tr Bk)(v:B)(k:Nat)(f:Nat->Rat):Prop:=aZ p h 3 v k λc=>gK (f c)
def dR(p:Nat->Prop)(h:Tr Bk)(v:B)(n:Nat)(k:Nat->Nat)(f:Nat->Nat->Rat):Prop:=∃T:Nat->B,aZ p h 1 v n (λi=>[T i])/\∀i,i<n->kF p h (T i) (k i) (f i)
section
variable {p q:Nat→Prop} {h h' : Tr Bk} {v:B} {n:Nat} {k:Nat→Nat} {f f' : Nat→Nat→Rat}
def aZ.at3{m:Nat}{f:Nat->Rat}(hl:kF p h v m f){c:Nat}(hc:c<m):∃b o cc,v=.sl b o m cc/\p b/\ld h b (o+c*3) 3 true=some (.agg [.bool (rn (f c)),.str (rs (f c)),.str (rd (f c))]):=by obtain⟨b,o,cc,e,hp,hld⟩:=aZ.pos hl jb;exact⟨b,o,cc,e,hp,hld c hc⟩
def dR.at(hr:dR p h v n k f){i:Nat}(hi:i<n):∃b o c T,v=.sl b o n c/\p b/\ld h b (o+i*1) 1 false=some (.c T)/\kF p h T (k i) (f i):=by obtain⟨T,h1,h2⟩:=hr;obtain⟨b,o,c,e,hp,hld⟩:=h1.pos jb;grind[vF]
def dR.keep(hr:dR p h v n k f)(hk:∀b,p b->h' b=h b)(hp:∀b,p b->q b):dR q h' v n k f:=by obtain⟨T,h1,h2⟩:=hr;exact⟨T,h1.keep hk hp,λi hi=>aZ.keep (h2 i hi) hk hp⟩
def dR.len(hr:dR p h v n k f):lenV (.c v)=some (.c (.int .i64 (.ofNat n))):=hr.choose_spec.1.len
def dR.kn(hr:dR p h v n k f):v.kn=true:=hr.choose_spec.1.kn
end
theorem dR.fr{σ σ':St}(hW:WF σ)(hf:Fr σ σ'){p:Nat->Prop}{v:B}{n:Nat}{k:Nat->Nat}{f:Nat->Nat->Rat}(hr:dR p σ.h v n k f):dR (Lt σ.aj) σ'.h v n k f:=by obtain⟨T,h1,h2⟩:=hr;exact⟨T,h1.fr hW hf,λi hi=>aZ.fr hW hf (h2 i hi)⟩
def Qb(T:Nat->B)(k:Nat->Nat)(f:Nat->Nat->Rat)(p:Nat->Prop)(h:Tr Bk)(i:Nat):Prop:=kF p h (T i) (k i) (f i)
abbrev aaC(T:Nat->B)(k:Nat->Nat)(f:Nat->Nat->Rat)(ty:Nat)(h:Tr Bk)(b n lo hi:Nat):Prop:=NF (Qb T k f) h b n (λi=>[T i]) 1 ty lo hi
def Du(T:Nat->B)(k:Nat->Nat)(f:Nat->Nat->Rat)(j:Nat):QK (Qb T k f) j:=λ_ _ _ _ hp hk hq=>aZ.keep hp hk hq
def aiL(T:Nat->B):LG (λi=>[T i]) 1:=λ_=>rfl
section
variable {T:Nat→B} {k:Nat→Nat} {f:Nat→Nat→Rat} {h h' : Tr Bk} {b n ty lo hi:Nat}
def aaC.push(ho:aaC T k f ty h b n lo hi){hi1 nx n':Nat}{h1:Tr Bk}{v:B}(hx:kF (λb=>hi<=b/\b<hi1) h1 v (k n) (f n))(hh:∀b,lo<=b->b<hi->h1 b=h b)(h2:hi<=hi1)(h3:hi1<=nx)(h4:nx<n')(h5:lo<=hi)
  (hb:h' nx=some ⟨bP n (λi=>[T i])++[v],some (1,ty)⟩) (hk:∀c,lo<=c->c<hi1->n=0\/c≠b->h' c=h1 c):aaC (aO T n v) k f ty h' nx (n+1) lo n':=by
 refine NF.push ho (λj _=>Du _ k f j) (λj hj p h hq=>?_) (hi1:=hi1) (h1:=h1) ?_ hh h2 h3 h4 h5 hb ?_ hk (λi hi=>?_) (aiL _)
 .grind[Qb,aQ]
 .grind[Qb,aN]
 .rw[aN]
 grind[aQ]
def aaC.hrows(ho:aaC T k f ty h b n lo hi){p:Nat->Prop}(hp:∀b,lo<=b->b<hi->p b):dR p h (aV n b) n k f:=by have hel:=λi (hi:i<n)=>ho.el (λj _=>Du T k f j) hi;refine⟨T,ho.hlp jj (λi hi=>?_) hp,λi hi=>aZ.keep (hel i hi) (λ_ _=>rfl) λb hb=>hp b hb.1 hb.2⟩;simp only[cY,fa,aZ.kn (hel i hi),eE]
end
def kJ{E:Env}{f:Nat}{args:List V}{σ:St}{F:AF}{K:V->St->Prop}(ho:E.VW f args σ=none)(hF:E.fns f=some F):aC E f args σ K=bJ E F.body (ini args) σ (ZG F.res K):=by
 refine propext ⟨?_,aP ho hF⟩;rintro⟨n,v,σ',h1,h2⟩;cases n with
 |zero=>grind[iR]
 |succ n=>
  rw[iR]at h1
  unfold GU at h1
  rw[ho,hF]at h1
  dsimp only at h1
  rw[ZF]at h1
  dsimp only at h1
  unfold adF at h1
  split at h1
  .next tm τ e=>
   split at h1
   .next u hu=>cases h1;exact⟨n,_,tm,_,e,_,hu,h2⟩
   grind
  .next tm τ e=>
   split at h1
   .next u hu=>cases h1;exact⟨n,_,tm,_,e,_,hu,h2⟩
   grind
  grind
section
variable (dI bU tm:Tr V) (σ:St) (res:List Rs) (pd:List iM)
def aiM(i:Nat)(us os:List Nat)(d:Option Nat)(g:Option (Nat×Bool))(bytes:Nat)(z:List B)(a c:O)(l:List DO)(K:St->List Rs->List iM->Prop):
  uP dI bU (⟨i,us,os,⟨d,g,.J8 bytes z a c⟩⟩::l) σ res pd K=match MQ dI bU res us os with
   |some tm=>Bo g tm (match JV (a.ev tm),JV (c.ev tm)with
    |some n,some m=>(bif Nat.ble n m&&(Nat.ble (bytes*m) 281474976710656&&Nat.ble m 1073741824)then uP dI bU l ⟨hset σ.h σ.aj ⟨rep z m,none⟩,σ.aj+1⟩ (⟨i,d,.c (.sl σ.aj 0 n (.ex m))⟩::res) (⟨i,⟨d,g,.J8 bytes z a c⟩,tm,.c (.sl σ.aj 0 n (.ex m)),true,some σ.aj⟩::pd) K else False)
    |_,_=>False) (uP dI bU l σ (⟨i,d,.tnil⟩::res) (⟨i,⟨d,g,.J8 bytes z a c⟩,tm,.tnil,false,none⟩::pd) K)
   |none=>False:=by
 unfold uP Bo
 rw[xQ]
 dsimp only
 cases MQ dI bU res us os with
 |none=>rfl
 |some tm=>
  grind[vJ.kind,ng,jM]
def aaD(i:Nat)(d:Option Nat)(g9:Option (Nat×Bool))(bytes:Nat)(z:List B)(a c:O)(v:V)(b:Nat):again σ ⟨i,⟨d,g9,.J8 bytes z a c⟩,tm,v,true,some b⟩=match JV (a.ev tm),JV (c.ev tm)with
  |some n,some m=>(bif Nat.ble n m&&(Nat.ble (bytes*m) 281474976710656&&Nat.ble m 1073741824)then(match σ.h b with|some ⟨c,none⟩=>MP c (rep z m)|_=>false)else false)
  |_,_=>false:=by
 grind[again,vJ.kind,ng]
end
def aiN(n:Nat)(f:Nat->Bool):(ones n λi=>.bool (f i)).all B.kn=true:=ZV λ_=>rfl
attribute [go_sem] aiM aaD aiN
def wB{E:Env}{a b:AC}{tm:Tr V}{σ:St}{Q:AX->Tr V->St->Prop}(P:Tr V->St->Prop)(h:bJ E a tm σ λe tm' σ'=>e=.normal/\P tm' σ')(h2:∀tm' σ',P tm' σ'->bJ E b tm' σ' Q):bJ E (.seq a b) tm σ Q:=
 run_seq (h.mono (by rintro _ tm' σ' ⟨rfl,hp⟩;exact h2 _ _ hp))
def OJ{E:Env}{a b c:AC}{tm:Tr V}{σ:St}{Q:AX->Tr V->St->Prop}(P:Tr V->St->Prop)(h:bJ E a tm σ (TM E b λe tm' σ'=>e=.normal/\P tm' σ'))(h2:∀tm' σ',P tm' σ'->bJ E c tm' σ' Q):bJ E (.seq a (.seq b c)) tm σ Q:=
 run_seq (h.mono λe tm' σ' he=>by
  cases e with
  |normal=>exact wB P he h2
  |exit i=>cases he.1
  |ret=>cases he.1)
def Iy{E:Env}{b:AC}{tm:Tr V}{σ:St}{Q:AX->Tr V->St->Prop}(h:bJ E b tm σ Q):bJ E .skip tm σ (TM E b Q):=Wx h
def aeX{n:Nat}{tk:Int->Bool}{x:Ai}(h:ZW n tk x=0):(x.k=Int.negSucc 0/\x.b=true\/∃c:Nat,c<n/\x.k=Int.ofNat c/\tk x.k=false)/\(x.b=true->¬sg x.a.q<0):=by
 unfold ZW at h;split at h
 .cases h
 .split at h
  .cases h
  .split at h
   .cases h
   .split at h
    .cases h
    .next h1 h2 h3 h4=>
     refine⟨?_,λhb hs=>h3 ⟨hb,hs⟩⟩;by_cases e:x.k=-1
     .refine .inl ⟨e,?_⟩;cases hb:x.b with
      |true=>rfl
      |false=>exact absurd ⟨e,hb⟩ h2
     .obtain⟨c,hc⟩:=ck (show 0<=x.k by omega);refine .inr ⟨c,jb,hc,?_⟩;cases ht:tk x.k with
      |false=>rfl
      |true=>exact absurd ⟨e,ht⟩ h4
def aeY{n:Nat}{tk:Int->Bool}{a:ig}(h:WX n tk a=0):(a.length<=24/\∀i,i<a.length->(ix a i).length<=24)/\∀k,k<a.flatten.length->ZW n tk (ix a.flatten k)=0:=by
 unfold WX at h;split at h
 .cases h
 .next h1=>
  refine⟨CJ.mp (by simpa using h1),λk hk=>?_⟩;obtain⟨t,ht,hx⟩:=List.mem_flatten.mp (kN hk);obtain⟨i,hi,rfl⟩:=aL ht;obtain⟨j,hj,e⟩:=aL hx;have:=fU (fU h i hi) j (by rw[fD hi];exact hj);rw[fD hi,fD hj,e]at this;exact this
def aeZ{σ:St}(hW:WF σ){p:Nat->Prop}{v:B}{n:Nat}{T:Nat->B}(hv:aZ p σ.h 1 v n λi=>[T i])(hT:∀i,i<n->∃k:Nat,lenV (.c (T i))=some (.c (.int .i64 (.ofNat k)))/\k<=24)(hn:n<=1000):
  aC EN 171 [.c v,.fn 132 []] σ λr σ'=>r=.c (.int .i64 (.negSucc 0))/\Fr σ σ':=by
 refine aP (fO.o _ _) fO.h ?_
 unfold fO
 dsimp only
 have hlen:=aZ.len hv
 have hc:=λ(args:List V) (σ:St) (K:V->St->Prop)=>kJ (E:=EN) (K:=K) (iW.o args σ) iW.h
 unfold iW at hc
 dsimp only at hc
 simp(disch:=try exact jz) only[go_sem,z3,hlen]
 refine aF (λq tm σ'=>∃j,q=n-j/\j<=n/\Tr.ah tm 0=.c v/\Tr.ah tm 1=.fn 132 []/\Tr.ah tm 7=.c (.int .i64 (.ofNat n))/\Tr.ah tm 8=.c (.int .i64 (.ofNat j))/\Fr σ σ') n ?_ ?_
 .refine⟨0,jb,jb,?_⟩
  simp(disch:=try exact jz) only[go_sem,z3,am]
  exact Fr.refl hW
 .rintro q tm σ' ⟨j,rfl,hj,t0,t1,t7,t8,hf⟩
  simp(disch:=try exact jz) only[go_sem,z3,t0,t1,t7,t8,aG]
  refine aH (λhlt=>?_) (λhlt=>?_)
  .obtain⟨b,o,c,rfl,hld⟩:=HL.one (aZ.hl hv) jb
   have hld:=hf.ld hW (hld j hlt)
   obtain⟨k,hk,hk2⟩:=hT j hlt
   have hd:decide ((Int.ofNat 24:Int)<Int.ofNat k)=false:=aw (by show¬((24:Int)<(k:Int));omega)
   simp(disch:=try exact jz) only[go_sem,z3,t0,t1,t7,t8,hld,hc,hk,hd]
   exact⟨n-(j+1),jb,j+1,rfl,jb,rfl,hf⟩
  .have:j=n:=jb
   subst this
   simp(disch:=try exact jz) only[go_sem,z3,t0]
   exact hf
def aiP{E:Env}[Z7 E]{σ:St}(hW:WF σ){p:Nat->Prop}{v:B}{a:ig}(ha:dZ p σ.h v a)(h1:a.length<=1000000)(h2:a.flatten.length<=1000000):
  aC E 133 [.c v] σ λr σ'=>(∃u,r=.c u/\CO (Lt σ'.aj) σ'.h u a.flatten)/\Fr σ σ':=by
 by_cases h0:a.flatten.length=0
 .rw[XU ha h1 h2 (v':=.c .aX) (σ':=σ) (ab h0)]
  exact⟨⟨_,rfl,.inl ⟨h0,rfl⟩⟩,Fr.refl hW⟩
 .rw[XU ha h1 h2 (ae h0)]
  exact⟨⟨_,rfl,bf _ (aA _ _ _) (Cm _ _ jj) (cf _) (λ_=>rfl) jj λ_ _=>rfl⟩,fr⟩
def avs{σ:St}(hW:WF σ){p:Nat->Prop}{v tv:B}{a:ig}{nc:Nat}{tk:Int->Bool}(ha:dZ p σ.h v a)(ht:HL σ.h 1 tv nc λi=>[.bool (tk (Int.ofNat i))])(hn:nc<=1000)(hz:WX nc tk a=0)(hnf:a.flatten.length<=1000000)(hfp:∀k,k<a.flatten.length->(ix a.flatten k).a.fits 1000000):
  aC EN 90 [.agg [v],.c tv] σ λr σ'=>r=.c (.int .i64 (.ofNat 0))/\Fr σ σ':=by
 refine aP (jm.o _ _) jm.h ?_
 unfold jm
 dsimp only
 obtain⟨⟨hl,hlt⟩,hc0⟩:=aeY hz
 have ha':=ha
 obtain⟨T,hT,hP⟩:=ha'
 have hvk:=hT.kn
 have hvl:=aZ.len hT
 have htk:=ht.kn
 have htl:=ht.len
 have hFr:=Fr.refl hW
 have hd:decide ((Int.ofNat 24:Int)<Int.ofNat a.length)=false:=aw (by show¬((24:Int)<(a.length:Int));omega)
 have hcf:=λ(args:List V) (σ:St) (K:V->St->Prop)=>kJ (E:=EN) (K:=K) (eH.o args σ) eH.h
 unfold eH at hcf
 dsimp only at hcf
 simp(disch:=try exact jz) only[go_sem,z3,hvk,hvl,htk,hd,hcf]
 refine aC.st (Fr σ) (fr) λhF=>?_
 refine(aeZ hF.wf (aZ.fr hW hF hT) (λi hi=>⟨_,aZ.len (hP i hi),hlt i hi⟩) jb).mono ?_
 rintro _ σ2 ⟨rfl,hf2⟩
 have hF2:=hF.trans hf2
 have q2:=hf2.get hF.wf (aA _ _ _)
 simp(disch:=try exact jz) only[go_sem,z3,show(Int.ofNat 0<=Int.negSucc 0)=False from propext ⟨λh=>absurd h jj,False.elim⟩,ak q2,hvk]
 refine(aiP hf2.wf (ha.fr hW hF2) jb hnf).mono ?_
 rintro _ σ3 ⟨⟨u,rfl,hu⟩,hf3⟩
 have hF3:=hF2.trans hf3
 have hul:=aZ.len hu
 have huk:=aZ.kn hu
 generalize a.flatten=l at*
 simp(disch:=try exact jz) only[go_sem,z3,hul,huk]
 refine aF (λq tm σ'=>∃j,q=l.length-j/\j<=l.length/\Tr.ah tm 1=.c tv/\Tr.ah tm 19=.c u/\Tr.ah tm 20=.c (.int .i64 (.ofNat l.length))/\Tr.ah tm 21=.c (.int .i64 (.ofNat j))/\Fr σ3 σ') l.length ?_ ?_
 .refine⟨0,jb,jb,?_⟩
  simp(disch:=try exact jz) only[go_sem,z3,am]
  exact Fr.refl hf3.wf
 .rintro q tm σ' ⟨j,rfl,hj,t1,t19,t20,t21,hf⟩
  simp(disch:=try exact jz) only[go_sem,z3,t1,t19,t20,t21,aG]
  refine aH (λhlt=>?_) (λhlt=>?_)
  .obtain⟨b,o,c,rfl,-,hld⟩:=aZ.pos hu jb
   have hld:=hf.ld hf3.wf (hld j hlt)
   unfold Bz at hld
   obtain⟨h1,h2⟩:=aeX (hc0 j hlt)
   have hfit:=ru (hfp j hlt) jj
   have hraw:rq (ix l j).a.n (ix l j).a.s (ix l j).a.d=(ix l j).a.q:=rfl
   have hle:=hf.le
   have lI:=Fr.refl hf.wf
   rcases h1 with⟨e1,e2⟩|⟨k,hk,e1,e2⟩
   .rw[e1,e2]at hld
    have hsg:decide (sg (ix l j).a.q<Int.ofNat 0)=false:=aw (h2 e2)
    simp(disch:=try exact jz) only[go_sem,z3,t1,t19,t20,t21,hld,hsg,hraw]
    exact⟨l.length-(j+1),jb,j+1,rfl,jb,rfl,fr⟩
   .rw[e1]at hld e2
    obtain⟨b2,o2,c2,rfl,Ez⟩:=HL.one ht jb
    have Ez:=(hF3.trans hf).ld hW (Ez k hk)
    have hb2:=hf.wf.bH Ez
    rw[e2]at Ez
    have d1:decide (Int.ofNat k=Int.negSucc 0)=false:=rfl
    have d2:decide (Int.ofNat k<Int.ofNat 0)=false:=aw (by show¬((k:Int)<0);omega)
    have d3:decide (Int.ofNat nc<=Int.ofNat k)=false:=aw (by show¬((nc:Int)<=(k:Int));omega)
    cases hb:(ix l j).b with
    |true=>
     rw[hb]at hld
     have hsg:decide (sg (ix l j).a.q<Int.ofNat 0)=false:=aw (h2 hb)
     simp(disch:=try exact jz) only[go_sem,z3,t1,t19,t20,t21,hld,hsg,hraw,d1,d2,d3,htl,Ez]
     exact⟨l.length-(j+1),jb,j+1,rfl,jb,rfl,fr⟩
    |false=>
     rw[hb]at hld
     simp(disch:=try exact jz) only[go_sem,z3,t1,t19,t20,t21,hld,d1,d2,d3,htl,Ez]
     exact⟨l.length-(j+1),jb,j+1,rfl,jb,rfl,fr⟩
  .simp(disch:=try exact jz) only[go_sem,z3,am]
   exact hF3.trans hf
end Go.Proofs.Xe
