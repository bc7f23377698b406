import Derived.Test.YtchhojplceoifaaGreatDoorYd28
set_option linter.all false
set_option maxHeartbeats 8000000
namespace Go.Proofs.Xe
open Go.RowKit Go.Proofs.Ins
def vQ:Rat:=((256^uK:Nat):Rat)
def uQ:Rat:=((256^900:Nat):Rat)
def PY:0<=uQ:=by have:((0:Nat):Rat)<=((256^900:Nat):Rat):=br.mpr (bp _);exact this
def pow_two{a b c:Nat}(h:a+b=c):256^a*256^b=256^c:=by rw[<-h,ec]
def GU{k:Nat}(h:k<=256^100):(k:Rat)*uQ<=vQ:=by
 unfold uQ vQ;rw[<-eQ];refine br.mpr ?_;calc k*256^900<=256^100*256^900:=bo _ h
  _=256^uK:=pow_two (show 100+900=uK from rfl)
def PZ{k:Nat}(h:k<=256^100):(k:Rat)<=vQ:=by unfold vQ;exact br.mpr (ap h (bA jj jj))
abbrev Jd(A:Nat)(q:Rat):Prop:=dV A q/\0<=q/\q<=uQ
section
variable {A n:Nat} {l:gu}
def VW{t:dJ}(h:Ba (Jd A) n t):aW t<=(t.length:Rat)*uQ:=by
 induction t with
 |nil=>show(0:Rat)<=_;simp
 |cons p t ih=>
  have h1:=ih λq hq=>h q (by simp[hq])
  have h2:=(h p kc).2.2.2
  rw[bB,gb]
  grind[aW]
def OV:∀{l:gu},yJ (Jd A) n l->jD l<=(dH l:Rat)*uQ
 |[],_=>by show(0:Rat)<=((0:Nat):Rat)*uQ;simp
 |t::l,h=>by have h1:=OV (l:=l) λu hu=>h u (by simp[hu]);have h2:=VW (h t kc);show aW t+jD l<=((t.length+dH l:Nat):Rat)*uQ;grind
theorem Ai:∀{l:gu},KZ l->0<=jD l
 |[],_=>aY
 |t::l,h=>by have:=Ai (l:=l) λu hu=>h u (by simp[hu]);have:=zD (h t kc);show 0<=aW t+jD l;grind
def ajQ:∀{l:gu}{j:Nat},KZ l->j<l.length->aW (ix l j)<=jD l
 |t::l,0,h,_=>by have:=Ai (l:=l) λu hu=>h u (by simp[hu]);show aW t<=aW t+jD l;grind
 |t::l,j+1,h,hj=>by have:=ajQ (l:=l) (j:=j) (λu hu=>h u (by simp[hu])) (by simpa using hj);have:=zD (h t kc);show aW (ix l j)<=aW t+jD l;grind
theorem abA:∀{l:gu}(k:Nat),KZ l->0<=CW l k/\CW l k<=jD l
 |[],k,h=>by unfold CW;rw[List.take_nil];exact⟨aY,aY⟩
 |t::l,0,h=>⟨aY,Ai h⟩
 |t::l,k+1,h=>by obtain⟨h1,h2⟩:=abA (l:=l) k λu hu=>h u (by simp[hu]);have:=zD (h t kc);unfold CW at h1 h2⊢;rw[fj];show 0<=aW t+jD _/\aW t+jD _<=aW t+jD l;grind
end
structure EB(n:Nat)(e:fA):Prop where
 nb:n<=1000
 r0:0<e.rk.length
 r1:e.rk.length<=1000
 rn:dH e.rk<=1000
 ps:e.ps.length<=1000
 m:∀p∈e.ps,p.1.length<=1000/\∀i∈p.1,i<n
 p:∀p∈e.ps,0<p.2.length/\p.2.length<=1000/\dH p.2<=10000
section
variable {A B R D n:Nat} {l:gu} {m x:Rat}
theorem oW(hD:CS D)(hB:B∣D){q:Rat}(h:dV B q)(h0:0<=q)(h1:q<=vQ):Zk D 1 q:=Zk.of hD.1 (h.dvd hB hD.1) h0 h1
theorem tq:2<=256^uK:=ap (by decide:2<=256^1) (bA jj jj)
def Fh:∀{l:gu}{t:dJ},t∈l->t.length<=dH l
 |u::l,t,h=>by
  unfold dH;rcases bz.mp h with rfl|h
  .omega
  .have:=Fh h;omega
def YW(hD:CS D)(hA:A∣D)(h:yJ (Jd A) n l)(hl:l.length<=1000)(hn:dH l<=10000):PL D n l:=by
 have hU:=GU (k:=10000) jj;have hU1:=GU (k:=1) jj;have hz:∀t∈l,∀p∈t,Zk D 1 p.2:=λt ht p hp=>by have:=(h t ht p hp).2;grind[Go.Proofs.Xe.oW]
 refine⟨jb,λt ht=>by have:=Fh ht;omega,λt ht=>?_,λt ht p hp=>(h t ht p hp).1,λt ht p hp=>(hz t ht p hp).sz hD (by grind[tq]),hz⟩;have h1:=VW (h t ht);have h2:(t.length:Rat)<=((10000:Nat):Rat):=br.mpr (by have:=Fh ht;omega);have h3:=bj h2 PY;refine(oW hD hA (Ei λp hp=>⟨(h t ht p hp).2.1,(h t ht p hp).2.2.1⟩) (zD λp hp=>(h t ht p hp).2.2.1) kd).sz hD (by grind[tq])
def Nk(hA0:0<A)(hD:CS D)(hA:A∣D)(h:yJ (Jd A) n l)(hn:dH l<=10000)(hB:B∣D)(hm:dV B m)(h0:0<=m)(h1:m<=vQ)(hR0:0<R)(hR:R*xA A l m∣D)(hx:dV R x)(hx0:0<=x)(hx1:x<=vQ):PN D l m x:=by
 have hnn:=h.D.nn;have hR1:R∣D:=bL (aR _ _) hR;have hU:=GU (k:=10000) jj;have h2:(dH l:Rat)<=((10000:Nat):Rat):=br.mpr hn;have h3:=bj h2 PY;have ht:=OV h;have hu:=tq;have hzx:=oW hD hR1 hx hx0 hx1;refine⟨λk _=>?_,h0,hzx.sz hD jb,λhf=>?_,λhf p hp=>?_⟩
 .have hc:=abA k hnn;exact((oW hD hB hm h0 h1).sub (oW hD hA (ajK h.D k) hc.1 kd)).sz hD jb
 .have hs:=Bc h0 hf;have:=ajQ hnn hf;exact hzx.awg (oW hD hA (Ei (h.D _ (gJ hf))) (eh hs) kd) hD jb jb kd
 .have hs:=Bc h0 hf;have hpp:=h.D _ (gJ hf) p hp;have hps:p.2<=aW (ix l (dQ l m)):=by
   have:∀t:dJ,(∀q∈t,0<=q.2)->p∈t->p.2<=aW t:=λt=>by
    induction t with
    |nil=>simp
    |cons q t ih=>
     intro hq hp
     show p.2<=q.2+aW t
     have h4:=hq q kc
     have h5:0<=aW t:=zD λr hr=>hq r (by simp[hr])
     grind
   exact this _ (λq hq=>(h.D _ (gJ hf) q hq).2) hp
  have e:p.2*(x/aW (ix l (dQ l m)))=x*(p.2/aW (ix l (dQ l m))):=by grind
  have h4:=yF hs hps;have h5:=abo hpp.2 hs;have h6:=cQ h4 hx0;refine oW hD hR (ajL hA0 h.D h0 hR0 hx hf hpp.1) ?_ ?_
  .grind[Rat.mul_nonneg]
  grind
def left_le(h0:0<=m)(h:KZ l):0<=jM l m/\jM l m<=m:=by grind[Go.Proofs.Xe.VO,Go.Proofs.Xe.PK,Go.Proofs.Xe.abA]
def atG{l:gu}(h:KZ l)(c:Int):∀{m:Rat},0<=m->iw l m c<=jD l:=by
 induction l with
 |nil=>intro m _;rfl
 |cons t l ih=>
  intro m hm
  have hl:=Ai (l:=l) λu hu=>h u (by simp[hu])
  have h2:=MV (h t kc) c
  have h3:=xu (h t kc) c
  unfold iw
  show _<=aW t+jD l
  split
  .next hlt=>
   have h4:=yF (a:=m) (b:=aW t) kd (eh hlt)
   have h5:=cQ h4 h3
   grind
  .have:=ih (λu hu=>h u (by simp[hu])) (m:=m-aW t) kd
   grind
def VX{l:gu}(h:KZ l)(c:Int){x:Rat}(hx:0<=x)(h0:0<=m):kC l m x c<=x:=by
 rw[Fb];split
 .next hf=>
  have hs:=Bc h0 hf;have hl:=h _ (gJ hf);have e:gB (ix l (dQ l m)) c*(x/aW (ix l (dQ l m)))=x*(gB (ix l (dQ l m)) c/aW (ix l (dQ l m))):=by grind
  rw[e];have h4:=yF hs (MV hl c);have h6:=cQ h4 hx;grind
 omega
end
section
variable {A B D n:Nat} {m:Rat} {e:fA}
def tu{α:Type}{f:α->Rat}{v:Rat}(h0:0<=v):∀{l:List α}{k:Nat},(∀a∈l,f a<=v)->l.length<=k->aJ l f<=(k:Rat)*v
 |[],k,_,_=>by have:((0:Nat):Rat)<=(k:Rat):=br.mpr (bp _);exact ce this h0
 |a::l,k,h,hk=>by
  obtain⟨k,rfl⟩:∃j,k=j+1:=⟨k-1,by simp at hk;omega⟩
  have h1:=tu h0 (l:=l) (k:=k) (λb hb=>h b (by simp[hb])) (by simpa using hk);have h2:=h a kc;show f a+aJ l f<=_;rw[gb];have:((1:Nat):Rat)=1:=rfl;grind
def ajR(h:ED A uQ n e)(hb:EB n e)(h0:0<=m){p:List Nat×gu}(hp:p∈e.ps):lI e m p<=vQ:=by have ht:=OV h.rk;have h2:(dH e.rk:Rat)<=((1000:Nat):Rat):=br.mpr hb.rn;have h3:=bj h2 PY;have h4:=tu (f:=Ae e m) (v:=((1000:Nat):Rat)*uQ) (ce (br.mpr (bp 1000)) PY) (l:=p.1) (k:=1000) (λc _=>cL (atG h.rk.D.nn c h0) (cL ht h3)) (hb.m p hp).1;have h5:=GU (k:=1000*1000) jj;grind[lI]
def atH(h:ED A uQ n e)(hb:EB n e)(h0:0<=m){p:List Nat×gu}(hp:p∈e.ps):uf e m p<=vQ:=by have h4:=tu (f:=rts e m) (v:=1) jj (l:=p.1) (k:=1000) (λc _=>VX h.rk.D.nn c jj h0) (hb.m p hp).1;have h5:=PZ (k:=1000) jj;grind[uf]
def ajS(hD:CS D)(hA:A∣D)(h:ED A uQ n e)(hb:EB n e):EOk D n e:=by
 have hn:=hb.nb;have hps:=hb.ps;refine⟨jb,YW hD hA h.rk hb.r1 (by have:=hb.rn;omega),hb.r0,jb,λp hp=>⟨by have:=(hb.m p hp).1;omega,(hb.m p hp).2⟩,λp hp=>⟨YW hD hA (h.ps p hp) (hb.p p hp).2.1 (hb.p p hp).2.2,(hb.p p hp).1⟩,?_⟩;have h1:∀l:List (List Nat×gu),(∀p∈l,dH p.2<=10000)->Ja l<=l.length*10000:=λl=>by
  induction l with
  |nil=>intro _;exact cM 0
  |cons p l ih=>
   grind[Ja]
 have h2:=h1 e.ps λp hp=>(hb.p p hp).2.2;have h3:=hb.rn;grind[uK]
def ajT(hA0:0<A)(hB0:0<B)(hAB:A∣B)(hD:CS D)(hBD:B*CX A e m∣D)(h:ED A uQ n e)(hb:EB n e)(hm:dV B m)(h0:0<=m)(h1:m<=vQ):MOk D e m:=by
 have hB:B∣D:=bL (aR _ _) hBD;have hA:A∣D:=bL hAB hB;have hr:B*xA A e.rk m∣D:=bL (cE _ (aR _ _)) hBD;have hr0:=cf hB0 (sZ hA0 h.rk.D h0);refine⟨(oW hD hB hm h0 h1).sz hD (by grind[tq]),?_,λp hp=>?_⟩
 .have hl:=left_le h0 h.rk.D.nn;exact Nk hA0 hD hA h.rk (by have:=hb.rn;omega) hB hm h0 h1 hB0 hr (abz hA0 hB0 hAB h.rk.D hm) hl.1 (cL hl.2 h1)
 .have hg:=nV h.nn h0 p;have hgD:=YT hA0 hB0 hAB h hm h0 p;have hgl:=ajR h hb h0 hp;have hl:=left_le hg (h.ps p hp).D.nn;have hd:B*xA A e.rk m*xA A p.2 (lI e m p)∣D:=by refine bL ?_ hBD;rw[fS];exact cE _ (cE _ (Ej A e m hp))
  exact⟨Nk hA0 hD hA (h.ps p hp) (hb.p p hp).2.2 hr hgD hg hgl hr0 hd (abz hA0 hr0 (bL hAB (aR _ _)) (h.ps p hp).D hgD) hl.1 (cL hl.2 hgl),(oW hD hr hgD hg hgl).sz hD (by grind[tq])⟩
def ajU(hA0:0<A)(hB0:0<B)(hAB:A∣B)(hD:CS D)(hBD:B*CX A e m∣D)(h:ED A uQ n e)(hb:EB n e)(hm:dV B m)(h0:0<=m)(h1:m<=vQ):ROk D e m:=by
 have hB:B∣D:=bL (aR _ _) hBD;have hA:A∣D:=bL hAB hB;have hr:B*xA A e.rk m∣D:=bL (cE _ (aR _ _)) hBD;have hr0:=sZ hA0 h.rk.D h0;have hr1:xA A e.rk m∣D:=bL (gA _ _) hr;have h1v:=PZ (k:=1) jj;refine⟨?_,λp hp=>?_⟩
 .exact Nk (R:=1) hA0 hD hA h.rk (by have:=hb.rn;omega) hB hm h0 h1 jj kd ⟨1,by grind⟩ jj h1v
 .have hg:=nV h.nn h0 p;have hgD:=YT hA0 hB0 hAB h hm h0 p;have hgl:=ajR h hb h0 hp;have hR:=J4 h.nn h0 p;have hRD:=adI hA0 h h0 p;have hRl:=atH h hb h0 hp;have hd:xA A e.rk m*xA A p.2 (lI e m p)∣D:=by refine bL ?_ (bL (gA _ _) hBD);exact cE _ (Ej A e m hp)
  exact⟨Nk hA0 hD hA (h.ps p hp) (hb.p p hp).2.2 hr hgD hg hgl hr0 hd hRD hR hRl,(oW hD hr1 hRD hR hRl).sz hD (by grind[tq])⟩
end
section
variable {E:Env} [aa0 E] {p:Nat→Prop} {σ:St} {K:V→St→Prop}
def YX{v:B}{a:fC}(ha:dP p σ.h v a)(h1:a.length<=1000000)(h2:a.flatten.length<=1000000){v':V}{σ':St}(hm:aiH a.flatten σ=some (v',σ')):aC E 181 [.c v] σ K=K v' σ':=
 Tf (by have h:=(anA ha h1 h2).trans hm;unfold Yc;rw[acY rfl];unfold anC aiK;simp only[Nat.reduceEqDiff,reduceIte,h])
def TN{v:B}{a:fC}(ha:dP p σ.h v a)(h1:a.length<=1000000)(h2:a.flatten.length<=1000000){v':V}{σ':St}(hm:aiG (xg a) σ=some (v',σ')):aC E 140 [.agg [v]] σ K=K v' σ':=
 Tf (by have h:=(anz ha h1 h2).trans hm;unfold Yc;rw[acY rfl];unfold anC aiK;simp only[Nat.reduceEqDiff,reduceIte,h])
end
def TP{E:Env}[aa0 E]{σ:St}(hW:WF σ){p:Nat->Prop}{v:B}{a:fC}(ha:dP p σ.h v a)(h1:a.length<=1000000)(h2:a.flatten.length<=1000000):
  aC E 140 [.agg [v]] σ λr σ'=>(∃u,r=.c u/\jH σ'.h u (xg a).length (λi=>[.int .i64 (ix (xg a) i)]) 1 3 σ.aj σ'.aj)/\Fr σ σ':=by
 by_cases h0:(xg a).length=0
 .rw[TN ha h1 h2 (v':=.c .aO) (σ':=σ) (ae h0)]
  exact⟨⟨_,rfl,.inl ⟨h0,rfl⟩⟩,Fr.refl hW⟩
 .rw[TN ha h1 h2 (ab h0)]
  exact⟨⟨_,rfl,.inr ⟨jb,_,rfl,aA _ _ _,jp,bO _⟩⟩,fr⟩
def aox{a:fC}{n:Nat}(ha:∀t∈a,∀x∈t,x.k=-1\/0<=x.k/\x.k<n){i:Nat}(hi:i<(xg a).length):B.int .i64 (ix (xg a) i)=Ri (kG a) i:=by unfold Ri kG;rw[YV Int.toNat hi];have:=vC ha _ (mP hi);grind
def P6(a:fC):(kG a).length=(xg a).length:=cw _
structure TS(σ:St)(tb bs:Nat)(t:dJ):Prop where
 b:σ.h tb=some ⟨kF (aV t.length bs) (aW t),none⟩
 o:PU σ.h bs t
 lo:tb<bs
 hi:t.length=0\/bs<σ.aj
def TS.lt{σ:St}(hW:WF σ){tb bs:Nat}{t:dJ}(h:TS σ tb bs t):tb<σ.aj:=hW.lt h.b
def TS.on{σ σ':St}{tb bs:Nat}{t:dJ}(h:TS σ tb bs t)(h1:∀b,tb<=b->b<σ.aj->σ'.h b=σ.h b)(hW:WF σ)(hle:σ.aj<=σ'.aj):TS σ' tb bs t:=by have h0:=h.lt hW;have hlo:=h.lo;have hhi:=h.hi;refine⟨by rw[h1 tb jp h0];exact h.b,?_,hlo,jb⟩;refine(wY ?_).trans h.o;grind
theorem TS.fr{σ σ':St}{tb bs:Nat}{t:dJ}(h:TS σ tb bs t)(hW:WF σ)(hf:Fr σ σ'):TS σ' tb bs t:=h.on (λb _ hb=>hf.old b hb) hW hf.le
def TS.fre{σ σ':St}{ex:List Nat}{tb bs:Nat}{t:dJ}(h:TS σ tb bs t)(hW:WF σ)(hf:aU ex σ σ')(hx:∀b∈ex,b<tb):TS σ' tb bs t:=h.on (λb h1 h2=>hf.old b h2 λhm=>by grind) hW hf.le
def abB{σ:St}(hW:WF σ){tb bs:Nat}{t:dJ}(hT:TS σ tb bs t)(hl:t.length<=1000000)(k:Int)(q:Rat)(hs:Sz (aW t))(hq:Sz q):
  aC EN 142 [.c (.ptr tb 0),.c (.int .i64 k),.agg [.bool (rn q),.str (rs q),.str (rd q)]] σ λ_ σ'=>(∃bs',TS σ' tb bs' (t++[(k,q)]))/\(∀b,b<tb->σ'.h b=σ.h b)/\WF σ'/\σ.aj<=σ'.aj:=by
 have h0:=hT.lo
 have hlt:=hT.lt hW
 have:=ajF (G:=λ_=>kF (aV t.length bs) (aW t)) (n:=1) (r:=0) hW (by rw[hT.b];rfl) jj (λ_=>rfl) rfl rfl rfl hT.o (.inr jb) hT.hi hl k q hs hq
 refine this.mono ?_
 rintro _ σ' ⟨nx,h1,h2,h3,h4,h5⟩
 have hle:=h5.le
 refine⟨⟨nx,?_,?_,jb,.inr h2⟩,λb hb=>h5.old b jb kd,h5.wf,hle⟩
 .rw[h3,TL,aD];rfl
 .unfold PU
  rw[aD,bX]
  show σ'.h nx=some _
  grind[Go.Proofs.Xe.jr,Go.Proofs.Xe.bH,Go.Proofs.Xe.iP,Go.Proofs.Xe.gW,Go.Proofs.Xe.gV]
def aoy(U:Nat->B)(Lf:Nat->dJ)(p:Nat->Prop)(h:Tr Bk)(i:Nat):Prop:=aX p h 4 (U i) (Lf i).length λc=>AZ (ix (Lf i) c)
def YZ(U:Nat->B)(Lf:Nat->dJ)(i:Nat):List B:=kF (U i) (aW (Lf i))
abbrev abC(U:Nat->B)(Lf:Nat->dJ)(h:Tr Bk)(b n lo hi:Nat):Prop:=NF (aoy U Lf) h b n (YZ U Lf) 4 199 lo hi
def VY(U:Nat->B)(Lf:Nat->dJ)(j:Nat):QK (aoy U Lf) j:=λ_ _ _ _ hp hk hq=>aX.keep hp hk hq
def VZ(U:Nat->B)(Lf:Nat->dJ):LG (YZ U Lf) 4:=λ_=>rfl
section
variable {U:Nat→B} {Lf:Nat→dJ} {h h' : Tr Bk} {b n lo hi:Nat}
def abC.push(ho:abC U Lf h b n lo hi){σ1:St}(hW:WF σ1){tb bs nx n':Nat}{t:dJ}(hL:Lf n=t)(hT:TS σ1 tb bs t)(ht:hi<=tb)(h5:lo<=hi)(hh:∀b,lo<=b->b<hi->σ1.h b=h b)(h3:σ1.aj<=nx)(h4:nx<n')
  (hb:h' nx=some ⟨bC n (YZ U Lf)++kF (aV t.length bs) (aW t),some (4,199)⟩) (hk:∀c,lo<=c->c<σ1.aj->n=0\/c≠b->h' c=σ1.h c):abC (aN U n (aV t.length bs)) Lf h' nx (n+1) lo n':=by
 have hlt:=hT.lt hW
 have hlo:=hT.lo
 have hx:aX (λb=>hi<=b/\b<σ1.aj) σ1.h 4 (aV t.length bs) t.length λj=>AZ (ix t j):=hT.o.hlp (by rcases hT.hi with h0|h0;exact .inl h0;omega)
 refine NF.push ho (λj _=>VY _ Lf j) (λj hj p h hq=>?_) (hi1:=σ1.aj) (h1:=σ1.h) ?_ hh jb h3 h4 h5 hb ?_ hk (λi hi=>?_) (VZ _ _)
 .grind[aoy,aS]
 .grind[aoy,aK]
 .grind[YZ,aK]
 grind[YZ,aS]
def abC.atI(ho:abC U Lf h b n lo hi){l:gu}(hl:l.length=n)(hL:∀i,i<n->Lf i=ix l i):zH (λb=>lo<=b/\b<hi) h (aV n b) l:=by
 have hel:=λi (hi:i<n)=>ho.el (λj _=>VY U Lf j) hi;refine⟨U,?_,by cases n<;>trivial,λi hi=>?_⟩
 .rw[hl];refine(ho.hlp jj (λi hi=>?_) λb h1 h2=>⟨h1,h2⟩).congr λi hi=>by grind[YZ]
  unfold YZ kF;simp only[cD,df,uY,zW,(hel i hi).kn,cR]
 .rw[hl]at hi;rw[<-hL i hi];exact hel i hi
end
def lsS(cs:List C5)(a:fC)(j:Nat):(Nat->Rat)×gu:=(a.take j).foldl ltS ((λi:Nat=>(ix cs i).a.q),[])
def BP(f:Nat->Rat)(t:IG)(l:Nat):(Nat->Rat)×dJ:=(t.take l).foldl Nh (f,[])
theorem P7{cs:List C5}{a:fC}{j:Nat}(h:j<a.length):lsS cs a (j+1)=ltS (lsS cs a j) (ix a j):=by grind[lsS,bU]
def Je(cs:List C5)(a:fC):lsS cs a a.length=lsA cs a:=by grind[lsS,lsA]
def BQ(cs:List C5)(a:fC):∀j,j<=a.length->(lsS cs a j).2.length=j
 |0,_=>rfl
 |j+1,h=>by rw[P7 jb];unfold ltS;rw[aD,BQ cs a j jb];rfl
def abD{α:Type}[Inhabited α]{l:List α}{x:α}{n:Nat}(h:l.length=n):ix (l++[x]) n=x:=by grind[gW]
def tH(m k:Nat)(F:Nat->Rat):cO m (aN (λi=>if i<k then F i else 0) k (F k))=cO m λi=>if i<k+1 then F i else 0:=dR λi _=>by grind[aN]
def zJ(m:Nat)(F:Nat->Rat):cO m (λi=>if i<m then F i else 0)=cO m F:=dR λi hi=>ae hi
def yK(m:Nat)(F:Nat->Rat):cO m (λ_=>0)=cO m λi=>if i<0 then F i else 0:=dR λi _=>rfl
def ajV{s:(Nat->Rat)×dJ}{x:yg}{kk:Nat}(h1:¬x.k=-1)(hk:x.k=Int.ofNat kk):Nh s x=(aN s.1 kk (s.1 kk-if x.b=true then kD (s.1 kk) x.a.q else s.1 kk),s.2++[(Int.ofNat kk,if x.b=true then kD (s.1 kk) x.a.q else s.1 kk)]):=by unfold Nh;rw[ab h1,hk];refine Prod.ext ?_ rfl;grind[aN]
def V3{cs:List C5}{a:fC}{i:Nat}:∀{j},i<j->j<=a.length->ix (lsS cs a j).2 i=(BP (lsS cs a i).1 (ix a i) (ix a i).length).2
 |j+1,hi,hj=>by
  rw[P7 jb];unfold ltS;by_cases e:i=j
  .subst e;have:=BQ cs a i jb;exact(abD this).trans (by unfold BP;rw[cB])
  .show ix ((lsS cs a j).2++[_]) i=_;rw[gV _ _ (by rw[BQ cs a j jb];omega)];exact V3 jb jb
def Y0{f:Nat->Rat}{t:IG}{l:Nat}(h:l<t.length):BP f t (l+1)=Nh (BP f t l) (ix t l):=by grind[BP,bU]
def Nl(f:Nat->Rat)(t:IG):∀l,l<=t.length->(BP f t l).2.length=l
 |0,_=>rfl
 |l+1,h=>by rw[Y0 jb];unfold Nh;split<;>simp[Nl f t l jb]
def ajW{cs:List C5}{a:fC}{j:Nat}(h:j<a.length):(lsS cs a (j+1)).1=(BP (lsS cs a j).1 (ix a j) (ix a j).length).1:=by grind[P7,ltS,BP]
def afX(ms:List Nat)(f:Nat->Rat){i:Nat}(h:i<ms.length):wJ (ms.take (i+1)) f=wJ (ms.take i) f++[(((ix ms i:Nat):Int),f (ix ms i))]:=by grind[wJ,bU]
def ajX:∀{l:List Int}{lo hi:Int},l.Pairwise (· < ·)->(∀x∈l,lo<=x/\x<hi)->l.length<=(hi-lo).toNat
 |[],_,_,_,_=>bp _
 |a::l,lo,hi,hp,h=>by
  rw[List.pairwise_cons]at hp;have h1:=h a kc;have:=ajX (lo:=a+1) (hi:=hi) hp.2 λx hx=>by grind
  grind
def GV{a:fC}{n:Nat}(ha:∀t∈a,∀x∈t,x.k=-1\/0<=x.k/\x.k<n):(kG a).length<=n:=by have:=ajX (acT a) (vC ha);rw[P6];omega
theorem Np(cs:List C5)(r:Nat):∀k,(BO cs r k).length<=k
 |0=>cM 0
 |k+1=>by have:=Np cs r k;unfold BO;rw[aD];split<;>simp<;>omega
section
variable {A n:Nat}
def atJ(hA:0<A):Rk (Jd A) where
 min:=λa b ha hb=>by grind[kD]
 sub:=λa b ha hb=>by
  have h1:=ha.2;have h2:=hb.2;unfold kD;split
  .grind[dV.zero]
  .exact⟨ha.1.sub hb.1,by grind,by grind⟩
 zero:=⟨dV.zero A,aY,PY⟩
def P8(hA:CS A){q:Rat}(h:Jd A q):Sz q:=by have hU:=GU (k:=1) jj;have:((1:Nat):Rat)=1:=rfl;exact(oW hA (im A) h.1 h.2.1 kd).sz hA (by grind[tq])
def V4(hA:CS A){t:dJ}(h:Ba (Jd A) n t)(hl:t.length<=10000):Sz (aW t):=by have hU:=GU (k:=10000) jj;have h1:=VW h;have h2:(t.length:Rat)<=((10000:Nat):Rat):=br.mpr hl;have h3:=bj h2 PY;exact(oW hA (im A) (Ei λp hp=>⟨(h p hp).2.1,(h p hp).2.2.1⟩) (zD λp hp=>(h p hp).2.2.1) kd).sz hA (by grind[tq])
def atK{P:Rat->Prop}(hP:Rk P){f:Nat->Rat}(hf:∀i,P (f i)){t:IG}(ht:∀x∈t,Rl P n x)(l:Nat):(∀i,P ((BP f t l).1 i))/\Ba P n (BP f t l).2:=
 abw hP (t.take l) hf (λ_ h=>by cases h) λx hx=>ht x (eo hx)
def atL{P:Rat->Prop}(hP:Rk P){cs:List C5}(hc:∀i,P (ix cs i).a.q){a:fC}(ha:∀t∈a,∀x∈t,Rl P n x)(j:Nat)(i:Nat):P ((lsS cs a j).1 i):=
 (abx hP (a.take j) hc (λ_ h=>by cases h) λt ht=>ha t (eo ht)).1 i
end
def atM(p q:Rat):JJ p q=kD p q:=by
 unfold JJ kD;by_cases h:p<=q
 .rw[ae h,ae (wW.mpr h)]
 .rw[ab h,ab λe=>h (wW.mp e)]
structure ajY(A:Nat)(cs:List C5)(a:fC):Prop where
 nc:cs.length<=1000
 na:a.length<=1000
 nt:∀t,t<a.length->(ix a t).length<=1000
 nf:a.flatten.length<=1000000
 fc:∀i,i<cs.length->(ix cs i).a.fits 1000000
 fp:∀t,t<a.length->∀l,l<(ix a t).length->(ix (ix a t) l).a.fits 1000000
 c:∀i,Jd A (ix cs i).a.q
 p:∀t∈a,∀x∈t,Rl (Jd A) cs.length x
def ql(a:Nat):(Int.ofNat a=Int.negSucc 0)=False:=by simp
set_option maxRecDepth 10000 in
def axk{σ:St}(hW:WF σ){p p':Nat->Prop}{x1 x2 x3 C Av tv:B}{cs:List C5}{a:fC}(hC:oL p σ.h C cs)(hT:dP p' σ.h tv a)(h1:x1.kn=true)(h2:x2.kn=true)(h3:x3.kn=true)(h4:Av.kn=true){A:Nat}(hA:CS A)(hO:ajY A cs a):
  aC EN 143 [.agg [x1,x2,x3,C,Av],.agg [tv]] σ λr σ'=>(∃mv lv,r=.agg [mv,lv]/\abu (λb=>σ.aj<=b/\b<σ'.aj) σ'.h mv (kG a)/\zH (λb=>σ.aj<=b/\b<σ'.aj) σ'.h lv (pV cs a).2)/\Fr σ σ':=by
 refine aP (wE.o _ _) wE.h ?_
 unfold wE
 dsimp only
 have LK:=aX.kn hC
 have Pg:=hT.kn
 have IY:=aX.len hC
 have aji:=hT.len
 have hnc:=hO.nc
 have hna:=hO.na
 have hFr:=Fr.refl hW
 have hPc:=atJ hA.1
 simp(disch:=try exact jz) only[go_sem,z3,h1,h2,h3,LK,h4,Pg]
 refine aC.st (Fr σ) (fr) λhF1=>?_
 refine(TP hF1.wf (hT.fr hW hF1) jb hO.nf).mono ?_
 rintro _ σ1 ⟨⟨mv,rfl,hM⟩,hf1⟩
 have hF:=hF1.trans hf1
 have hle1:σ.aj+1+1<=σ1.aj:=ap (by show _<=σ.aj+1+1+1;omega) hf1.le
 have hle2:σ.aj+1+1+1<=σ1.aj:=hf1.le
 have hM:jH σ1.h mv (xg a).length (λi=>[.int .i64 (ix (xg a) i)]) 1 3 (σ.aj+1+1+1) σ1.aj:=hM
 have q0:σ1.h σ.aj=some ⟨[x1,x2,x3,C,Av],none⟩:=hf1.get hF1.wf ((ak _ _ _ _ jb).trans ((ak _ _ _ _ jb).trans (aA _ _ _)))
 have q1:σ1.h (σ.aj+1)=some ⟨[tv],none⟩:=hf1.get hF1.wf ((ak _ _ _ _ jb).trans (aA _ _ _))
 have q2:σ1.h (σ.aj+1+1)=some ⟨[.aO,.aO],none⟩:=hf1.get hF1.wf (aA _ _ _)
 have hMk:=hM.kn
 have abE:=Fr.refl hF.wf
 simp(disch:=try exact jz) only[go_sem,z3,hMk,au q0,h1,h2,h3,LK,h4,IY]
 refine bM.mono (Q:=λex tm σ'=>ex=.exit 0/\Tr.ah tm 3=.c (.ptr (σ.aj+1) 0)/\Tr.ah tm 4=.c (.ptr (σ.aj+1+1) 0)/\Tr.ah tm 5=.c (.ptr σ1.aj 0)/\Tr.ah tm 6=.c (.sl (σ1.aj+1) 0 cs.length (.ex cs.length))/\σ'.h σ1.aj=some ⟨[mv,.aO],none⟩/\σ'.h (σ1.aj+1)=some ⟨cO cs.length (lsS cs a 0).1,none⟩/\Fr σ1 σ'/\σ1.aj+1+1<=σ'.aj)
  (aF (λq tm σ'=>∃k,q=cs.length-k/\k<=cs.length/\Tr.ah tm 3=.c (.ptr (σ.aj+1) 0)/\Tr.ah tm 4=.c (.ptr (σ.aj+1+1) 0)/\Tr.ah tm 5=.c (.ptr σ1.aj 0)/\Tr.ah tm 6=.c (.sl (σ1.aj+1) 0 cs.length (.ex cs.length))/\Tr.ah tm 26=.c C/\Tr.ah tm 27=.c (.int .i64 (.ofNat cs.length))/\Tr.ah tm 28=.c (.int .i64 (.ofNat k))
   /\σ'.h σ1.aj=some ⟨[mv,.aO],none⟩/\σ'.h (σ1.aj+1)=some ⟨cO cs.length (λi=>if i<k then(ix cs i).a.q else 0),none⟩/\Fr σ1 σ'/\σ1.aj+1+1<=σ'.aj) cs.length ?_ ?_) ?_
 .refine⟨0,jb,jb,?_⟩
  simp(disch:=try exact jz) only[go_sem,z3,am]
  refine⟨?_,fr,jb⟩
  congr 2
 .rintro q tm σ' ⟨k,rfl,hk,t3,t4,t5,t6,t26,t27,t28,p5,p6,hf,hnx⟩
  have hle:=hf.le
  simp(disch:=try exact jz) only[go_sem,z3,t3,t4,t5,t6,t26,t27,t28,aG]
  refine aH (λhlt=>?_) (λhlt=>?_)
  .obtain⟨b5,o5,c5,rfl,-,bf⟩:=aX.pos hC jb
   have bf:=(hF.trans hf).ld hW (bf k hlt)
   unfold WW at bf
   have hfit:=qy (hO.fc k hlt) jj
   have hz:=Sz.zero.two
   have hraw:rq (ix cs k).a.n (ix cs k).a.s (ix cs k).a.d=(ix cs k).a.q:=rfl
   simp(disch:=try exact jz) only[go_sem,z3,t3,t4,t5,t6,t26,t27,t28,bf,hfit,hz,hraw,cV,aI p6,p6]
   refine⟨cs.length-(k+1),jb,k+1,rfl,jb,rfl,p5,?_,fr,jb⟩
   exact bN (λl=>some (Bk.mk l none)) (tH cs.length k λi=>(ix cs i).a.q)
  .have:k=cs.length:=jb
   subst this
   simp(disch:=try exact jz) only[go_sem,z3,am]
   refine⟨t3,t4,t5,t6,p5,?_,hf,hnx⟩
   rw[p6]
   congr 2
   exact dR λi hi=>ae hi
 rintro _ tm σ2 ⟨rfl,t3,t4,t5,t6,p5,p6,hf2,hnx2⟩
 have hF2:=hF.trans hf2
 have q1:=hf2.get hF.wf q1
 have q2:=hf2.get hF.wf q2
 have hle3:=hf2.le
 simp(disch:=try exact jz) only[go_sem,z3,t3,t4,t5,t6,au q1,Pg,aji]
 refine bM.mono (Q:=λex tm σ'=>ex=.exit 2/\∃lb U,Tr.ah tm 4=.c (.ptr (σ.aj+1+1) 0)/\Tr.ah tm 5=.c (.ptr σ1.aj 0)/\Tr.ah tm 6=.c (.sl (σ1.aj+1) 0 cs.length (.ex cs.length))/\σ'.h σ1.aj=some ⟨[mv,aV a.length lb],none⟩/\σ'.h (σ1.aj+1)=some ⟨cO cs.length (lsA cs a).1,none⟩/\abC U (λi=>ix (pV cs a).2 i) σ'.h lb a.length σ2.aj σ'.aj/\aU [σ1.aj,σ1.aj+1] σ2 σ')
  (aF (λq tm σ'=>∃j lb U,q=a.length-j/\j<=a.length/\Tr.ah tm 4=.c (.ptr (σ.aj+1+1) 0)/\Tr.ah tm 5=.c (.ptr σ1.aj 0)/\Tr.ah tm 6=.c (.sl (σ1.aj+1) 0 cs.length (.ex cs.length))/\Tr.ah tm 42=.c tv/\Tr.ah tm 43=.c (.int .i64 (.ofNat a.length))/\Tr.ah tm 44=.c (.int .i64 (.ofNat j))
   /\σ'.h σ1.aj=some ⟨[mv,aV j lb],none⟩/\σ'.h (σ1.aj+1)=some ⟨cO cs.length (lsS cs a j).1,none⟩/\abC U (λi=>ix (pV cs a).2 i) σ'.h lb j σ2.aj σ'.aj/\aU [σ1.aj,σ1.aj+1] σ2 σ') a.length ?_ ?_) ?_
 .refine⟨0,σ2.aj,λ_=>.aO,jb,jb,?_⟩
  simp(disch:=try exact jz) only[go_sem,z3,t4,t5,t6,am]
  exact⟨p5,p6,NF.nil (VZ _ _),aU.refl hf2.wf⟩
 .rintro q tm σ' ⟨j,lb,U,rfl,hj,t4,t5,t6,t42,t43,t44,p5,p6,hN,hf⟩
  have hle:=hf.le
  simp(disch:=try exact jz) only[go_sem,z3,t4,t5,t6,t42,t43,t44,aG]
  refine aH (λhlt=>?_) (λhlt=>?_)
  .obtain⟨b6,o6,c6,rfl,P1,bK,hP1⟩:=hT.at hlt
   have hb6:=hW.dw bK
   have bK:=hf.ld hf2.wf (by simp;omega) (hF2.ld hW bK)
   have atj:=aX.kn hP1
   have IX:=aX.len hP1
   have hnt:=hO.nt j hlt
   have hfp:=hO.fp j hlt
   have hpp:=hO.p _ (mP hlt)
   have hS:=ajW (cs:=cs) hlt
   have hS2:=V3 (cs:=cs) (a:=a) (i:=j) (bO j) hlt
   have hL:ix (pV cs a).2 j=(BP (lsS cs a j).1 (ix a j) (ix a j).length).2:=by unfold pV;rw[<-Je];have h9:=BQ cs a a.length jp;show ix ((lsS cs a a.length).2++[_]) j=_;rw[gV _ _ jb];exact V3 hlt jp
   have hSP:=atL hPc hO.c hO.p j
   clear hS2
   generalize (lsS cs a j).1=f at*
   generalize ix a j=r at*
   simp(disch:=try exact jz) only[go_sem,z3,t4,t5,t6,t42,t43,t44,bK,atj,IX]
   refine bM.mono (Q:=λex tm σ4=>ex=.exit 4/\∃bs,Tr.ah tm 4=.c (.ptr (σ.aj+1+1) 0)/\Tr.ah tm 5=.c (.ptr σ1.aj 0)/\Tr.ah tm 6=.c (.sl (σ1.aj+1) 0 cs.length (.ex cs.length))/\Tr.ah tm 11=.c (.ptr σ'.aj 0)/\Tr.ah tm 42=.c (.sl b6 o6 a.length c6)/\Tr.ah tm 43=.c (.int .i64 (.ofNat a.length))/\Tr.ah tm 44=.c (.int .i64 (.ofNat j))
     /\σ4.h (σ1.aj+1)=some ⟨cO cs.length (BP f r r.length).1,none⟩/\TS σ4 σ'.aj bs (BP f r r.length).2/\aU [σ1.aj+1] σ' σ4)
    (aF (λq tm σ4=>∃l bs,q=r.length-l/\l<=r.length/\Tr.ah tm 4=.c (.ptr (σ.aj+1+1) 0)/\Tr.ah tm 5=.c (.ptr σ1.aj 0)/\Tr.ah tm 6=.c (.sl (σ1.aj+1) 0 cs.length (.ex cs.length))/\Tr.ah tm 11=.c (.ptr σ'.aj 0)/\Tr.ah tm 42=.c (.sl b6 o6 a.length c6)/\Tr.ah tm 43=.c (.int .i64 (.ofNat a.length))/\Tr.ah tm 44=.c (.int .i64 (.ofNat j))/\Tr.ah tm 48=.c P1/\Tr.ah tm 49=.c (.int .i64 (.ofNat r.length))/\Tr.ah tm 50=.c (.int .i64 (.ofNat l))
     /\σ4.h (σ1.aj+1)=some ⟨cO cs.length (BP f r l).1,none⟩/\TS σ4 σ'.aj bs (BP f r l).2/\aU [σ1.aj+1] σ' σ4) r.length ?_ ?_) ?_
   .refine⟨0,σ'.aj+1,jb,jb,?_⟩
    have lK:=Fr.refl hf.wf
    simp(disch:=try exact jz) only[go_sem,z3,t4,t5,t6,t42,t43,t44,am]
    refine⟨?_,⟨?_,rfl,bO _,.inl rfl⟩,Fr.ex (fr) _⟩
    .exact p6
    .rw[aA];rfl
   .rintro q tm σ4 ⟨l,bs,rfl,hl,t4,t5,t6,t11,t42,t43,t44,t48,t49,t50,p64,ZT,hf4⟩
    have oM:=hf4.le
    have axl:=ZT.lt hf4.wf
    simp(disch:=try exact jz) only[go_sem,z3,t4,t5,t6,t11,t42,t43,t44,t48,t49,t50,aG]
    refine aH (λIZ=>?_) (λIZ=>?_)
    .obtain⟨b7,o7,c7,rfl,-,dA⟩:=aX.pos hP1 jb
     have dA:=dA l IZ
     have hb7:=hW.dw dA
     have dA:=hf4.ld hf.wf (by simp;omega) (hf.ld hf2.wf (by simp;omega) (hF2.ld hW dA))
     unfold zZ at dA
     have hfit:=qy (hfp l IZ) jj
     have hz:=Sz.zero.two
     have hx:=hpp _ (mP IZ)
     have hok:=atK hPc hSP hpp l
     have hsz:=V4 hA hok.2 (by rw[Nl f r l hl];omega)
     have hll:=Nl f r l hl
     have hsucc:=Y0 (f:=f) IZ
     have hraw:rq (ix r l).a.n (ix r l).a.s (ix r l).a.d=(ix r l).a.q:=rfl
     have hkl:∀b,b<σ'.aj->b<σ4.aj:=λb hb=>aL hb oM
     have aAy:=hf4.wf.lt p64
     by_cases hk1:(ix r l).k=Int.negSucc 0
     .have hS1:BP f r (l+1)=((BP f r l).1,(BP f r l).2++[(Int.negSucc 0,(ix r l).a.q)]):=by rw[hsucc];unfold Nh;rw[ae (show(ix r l).k=-1 from hk1)];rfl
      have hqz:=P8 hA (hx.2 (.inl hk1))
      have FH:=Fr.refl hf4.wf
      simp(disch:=try exact jz) only[go_sem,z3,t4,t5,t6,t11,t42,t43,t44,t48,t49,t50,dA,hk1,hfit,hz,hraw,cV]
      refine aC.st (Fr σ4) (fr) λfZ=>?_
      have atN:=ZT.fr hf4.wf fZ
      refine(abB fZ.wf atN jb _ _ hsz hqz).mono ?_
      rintro _ σ6 ⟨⟨bs',ajZ⟩,hlo,hW6,yS⟩
      have yS:σ4.aj+1<=σ6.aj:=yS
      simp(disch:=try exact jz) only[go_sem,z3,t4,t5,t6,t11,t42,t43,t44,t48,t49,t50]
      refine⟨r.length-(l+1),jb,l+1,bs',rfl,jb,rfl,?_,?_,?_⟩
      .rw[hS1,hlo _ jb,fZ.old _ jb];exact p64
      .rw[hS1];exact ajZ
      .exact⟨jb,hW6,λb hb hn=>by rw[hlo b hb,fZ.old b jb];exact hf4.old b hb hn⟩
     .obtain⟨kk,hkk,hkn⟩:∃kk:Nat,(ix r l).k=Int.ofNat kk/\kk<cs.length:=by
       rcases hx.1 with h|⟨ha,hb⟩
       .exact absurd h hk1
       .exact⟨(ix r l).k.toNat,(eO ha).symm,jb⟩
      have FH:=Fr.refl hf4.wf
      have hcz:=P8 hA (hok.1 kk)
      have hcz2:=hcz.two
      have hxc:=hx.2
      have fin:∀(cq:Rat){s5:St},Sz cq->(BP f r (l+1))=(aN (BP f r l).1 kk ((BP f r l).1 kk-cq),(BP f r l).2++[(Int.ofNat kk,cq)])->aU [σ1.aj+1] σ4 s5->s5.h (σ1.aj+1)=some ⟨cO cs.length (aN (BP f r l).1 kk ((BP f r l).1 kk-cq)),none⟩->∀{K:V->St->Prop},(∀v σ6 bs',σ6.h (σ1.aj+1)=some ⟨cO cs.length (BP f r (l+1)).1,none⟩->TS σ6 σ'.aj bs' (BP f r (l+1)).2->aU [σ1.aj+1] σ' σ6->K v σ6)->
        aC EN 142 [.c (.ptr σ'.aj 0),.c (.int .i64 (.ofNat kk)),.agg [.bool (rn cq),.str (rs cq),.str (rd cq)]] s5 K:=λcq s5 hcq hS1 fZ h5 K hK=>by
       have atN:=ZT.fre hf4.wf fZ (by simp;omega)
       refine(abB fZ.wf atN jb _ _ hsz hcq).mono ?_
       rintro v σ6 ⟨⟨bs',ajZ⟩,hlo,hW6,yS⟩
       have vO:=fZ.le
       refine hK v σ6 bs' ?_ (by rw[hS1];exact ajZ) ⟨jb,hW6,λb hb hn=>?_⟩
       .rw[hlo _ jb,h5,hS1]
       .rw[hlo b hb,fZ.old b jb hn];exact hf4.old b hb hn
      by_cases hb:(ix r l).b=true
      .have hS1:BP f r (l+1)=(aN (BP f r l).1 kk ((BP f r l).1 kk-kD ((BP f r l).1 kk) (ix r l).a.q),(BP f r l).2++[(Int.ofNat kk,kD ((BP f r l).1 kk) (ix r l).a.q)]):=by rw[hsucc,ajV (show¬(ix r l).k=-1 from hk1) hkk,hb];rfl
       have hmz:=P8 hA (hPc.min _ _ (hok.1 kk) (hx.2 (.inr hb)))
       simp(disch:=try exact jz) only[go_sem,z3,t4,t5,t6,t11,t42,t43,t44,t48,t49,t50,dA,hkk,ql,hb,hfit,hcz2,hraw,atM,au p64,aI p64,p64]
       refine fin _ hmz hS1 (by have hFe:=aU.refl (ex:=[σ1.aj+1]) hf4.wf;repeat(first|assumption|exact aU.refl (by assumption)|exact aU.up (by assumption) kf|exact aU.up (aU.refl (by assumption)) kf|refine aU.set1 ?_ kg kf|refine aU.lU ?_ kg|refine aU.oD ?_ kg|refine aU.pG ?_ kf)) (aA _ _ _) λv σ6 bs' h1 h2 h3=>?_
       simp(disch:=try exact jz) only[go_sem,z3,t4,t5,t6,t11,t42,t43,t44,t48,t49,t50]
       exact⟨r.length-(l+1),jb,l+1,bs',rfl,jb,rfl,h1,h2,h3⟩
      .have hb:(ix r l).b=false:=by simpa using hb
       have hS1:BP f r (l+1)=(aN (BP f r l).1 kk ((BP f r l).1 kk-(BP f r l).1 kk),(BP f r l).2++[(Int.ofNat kk,(BP f r l).1 kk)]):=by rw[hsucc,ajV (show¬(ix r l).k=-1 from hk1) hkk,hb];rfl
       simp(disch:=try exact jz) only[go_sem,z3,t4,t5,t6,t11,t42,t43,t44,t48,t49,t50,dA,hkk,ql,hb,hfit,hcz2,hraw,au p64,aI p64,p64]
       refine fin _ hcz hS1 (by have hFe:=aU.refl (ex:=[σ1.aj+1]) hf4.wf;repeat(first|assumption|exact aU.refl (by assumption)|exact aU.up (by assumption) kf|exact aU.up (aU.refl (by assumption)) kf|refine aU.set1 ?_ kg kf|refine aU.lU ?_ kg|refine aU.oD ?_ kg|refine aU.pG ?_ kf)) (aA _ _ _) λv σ6 bs' h1 h2 h3=>?_
       simp(disch:=try exact jz) only[go_sem,z3,t4,t5,t6,t11,t42,t43,t44,t48,t49,t50]
       exact⟨r.length-(l+1),jb,l+1,bs',rfl,jb,rfl,h1,h2,h3⟩
    .have:l=r.length:=jb
     subst this
     simp(disch:=try exact jz) only[go_sem,z3,am]
     exact⟨bs,t4,t5,t6,t11,t42,t43,t44,p64,ZT,hf4⟩
   .rintro _ tm σ4 ⟨rfl,bs,t4,t5,t6,t11,t42,t43,t44,p64,ZT,hf4⟩
    have oM:=hf4.le
    have hlb:=hN.l1
    have P9:=hN.l2
    have axl:=ZT.lt hf4.wf
    have abk:aU [σ1.aj,σ1.aj+1] σ2 σ4:=hf.to' hf4 kc
    have p54:=hf4.get hf.wf kc p5
    have hN4:=NF.mono hN (λj _=>VY _ _ j) (λb h1 h2=>hf4.old b h2 (by simp;omega)) jp
    have hg4:=hN4.g
    have hLG:=VZ U λi=>ix (pV cs a).2 i
    have Tv:=ZT.b
    unfold kF at Tv
    simp(disch:=try exact jz) only[go_sem,z3,t4,t5,t6,t11,t42,t43,t44,au p54,au Tv,p54,hg4,hMk]
    refine⟨a.length-(j+1),jb,j+1,σ4.aj+1,aN U j (aV (BP f r r.length).2.length bs),rfl,jb,rfl,rfl,by rw[p64,hS],?_,?_⟩
    .refine hN.push (U:=U) hf4.wf hL ZT jp jb (λb h1 h2=>hf4.old b h2 (by simp;omega)) jb jb ?_ λc h1 h2 h3=>?_
     .rw[ak _ _ _ _ jb,aA];rfl
     .rw[ak _ _ _ _ jb,ak _ _ _ _ jb,iq _ _ _ _ h3,ak _ _ _ _ jb]
    .repeat(first|assumption|exact aU.refl (by assumption)|exact aU.up (by assumption) kf|exact aU.up (aU.refl (by assumption)) kf|refine aU.set1 ?_ kg kf|refine aU.lU ?_ kg|refine aU.oD ?_ kg|refine aU.pG ?_ kf)
  .have:j=a.length:=jb
   subst this
   simp(disch:=try exact jz) only[go_sem,z3,am]
   exact⟨lb,U,t4,t5,t6,p5,by rw[<-Je];exact p6,hN,hf⟩
 rintro _ tm σ3 ⟨rfl,lb,U,t4,t5,t6,p5,p6,hN,hf3⟩
 have hF3:Fr σ σ3:=hf3.to hF2 (by simp;omega)
 have oM:=hf3.le
 have q23:=hf3.get hf2.wf (by simp;omega) q2
 have hP:∀t∈a,∀x∈t,x.k=-1\/0<=x.k/\x.k<cs.length:=λt ht x hx=>(hO.p t ht x hx).1
 have hM3:jH σ3.h mv (kG a).length (λi=>[Ri (kG a) i]) 1 3 (σ.aj+1+1+1) σ1.aj:=by
  rw[P6];refine jH.congr (jH.mono hM (λb h1 h2=>?_) jp jp) λi hi=>by rw[aox hP hi]
  rw[hf3.old b jb (by simp;omega),hf2.old b h2]
 have hMl:=hM3.len
 have hMm:abu (λb=>σ.aj+1+1+1<=b/\b<σ1.aj) σ3.h mv (kG a):=jH.hlp hM3 (λ_=>rfl) jj (λ_ _=>rfl) λb h1 h2=>⟨h1,h2⟩
 have hml:=GV hP
 have aoA:=Fr.refl hF3.wf
 have aA6:=hF3.wf.lt p6
 have hAc:=(ajJ (n:=cs.length) hPc hO.c hO.p).1
 simp(disch:=try exact jz) only[go_sem,z3,t4,t5,t6,au p5,hMk,hMl]
 refine bM.mono (Q:=λex tm σ4=>ex=.exit 6/\∃bs,Tr.ah tm 4=.c (.ptr (σ.aj+1+1) 0)/\Tr.ah tm 5=.c (.ptr σ1.aj 0)/\Tr.ah tm 15=.c (.ptr σ3.aj 0)/\TS σ4 σ3.aj bs (wJ (kG a) (lsA cs a).1)/\Fr σ3 σ4)
  (aF (λq tm σ4=>∃i bs,q=(kG a).length-i/\i<=(kG a).length/\Tr.ah tm 4=.c (.ptr (σ.aj+1+1) 0)/\Tr.ah tm 5=.c (.ptr σ1.aj 0)/\Tr.ah tm 6=.c (.sl (σ1.aj+1) 0 cs.length (.ex cs.length))/\Tr.ah tm 15=.c (.ptr σ3.aj 0)/\Tr.ah tm 97=.c mv/\Tr.ah tm 98=.c (.int .i64 (.ofNat (kG a).length))/\Tr.ah tm 99=.c (.int .i64 (.ofNat i))/\TS σ4 σ3.aj bs (wJ ((kG a).take i) (lsA cs a).1)/\Fr σ3 σ4) (kG a).length ?_ ?_) ?_
 .refine⟨0,σ3.aj+1,jb,jb,?_⟩
  simp(disch:=try exact jz) only[go_sem,z3,t4,t5,t6,am]
  exact⟨⟨aA _ _ _,rfl,bO _,.inl rfl⟩,fr⟩
 .rintro q tm σ4 ⟨i,bs,rfl,hi,t4,t5,t6,t15,t97,Hz,FI,ZT,hf4⟩
  have vO:=hf4.le
  simp(disch:=try exact jz) only[go_sem,z3,t4,t5,t6,t15,t97,Hz,FI,aG]
  refine aH (λhlt=>?_) (λhlt=>?_)
  .obtain⟨b8,o8,c8,rfl,oP⟩:=(hMm.hc).pos jb
   have oP:=hf4.ld hF3.wf (oP i hlt)
   unfold Ri at oP
   have hmi:=mP hlt
   have hin:ix (kG a) i<cs.length:=by have h1:=(vS hP).mp hmi;have:=vC hP ((ix (kG a) i:Nat):Int) (rX.mpr ⟨jb,h1⟩);omega
   have p64:=hf4.get hF3.wf p6
   have hll:(wJ ((kG a).take i) (lsA cs a).1).length=i:=by unfold wJ;rw[cw,di];omega
   have hsz:Sz (aW (wJ ((kG a).take i) (lsA cs a).1)):=V4 (n:=cs.length) hA (λp hp=>by obtain⟨k,hk,rfl⟩:=cU.mp hp;have h1:=(vS hP).mp (eo hk);exact⟨.inr (vC hP k (rX.mpr ⟨jb,h1⟩)),hAc k⟩) jb
   have hcz:=P8 hA (hAc (ix (kG a) i))
   simp(disch:=try exact jz) only[go_sem,z3,t4,t5,t6,t15,t97,Hz,FI,oP,au p64]
   refine(abB hf4.wf ZT jb _ _ hsz hcz).mono ?_
   rintro _ σ6 ⟨⟨bs',ajZ⟩,hlo,hW6,yS⟩
   simp(disch:=try exact jz) only[go_sem,z3,t4,t5,t6,t15,t97,Hz,FI]
   refine⟨(kG a).length-(i+1),jb,i+1,bs',rfl,jb,rfl,by rw[afX _ _ hlt];exact ajZ,jb,hW6,λb hb=>by rw[hlo b hb];exact hf4.old b hb⟩
  .have:i=(kG a).length:=jb
   subst this
   simp(disch:=try exact jz) only[go_sem,z3,am]
   exact⟨bs,t4,t5,t15,by rw[cB]at ZT;exact ZT,hf4⟩
 rintro _ tm σ4 ⟨rfl,bs,t4,t5,t15,ZT,hf4⟩
 have vO:=hf4.le
 have hlb:=hN.l1
 have P9:=hN.l2
 have axl:=ZT.lt hf4.wf
 have p54:=hf4.get hF3.wf p5
 have q24:=hf4.get hF3.wf q23
 have hN4:=NF.mono hN (λj _=>VY _ _ j) (λb h1 h2=>hf4.old b h2) jp
 have hg4:=hN4.g
 have hLG:=VZ U λi=>ix (pV cs a).2 i
 have Tv:=ZT.b
 have hL:ix (pV cs a).2 a.length=wJ (kG a) (lsA cs a).1:=by
  have h9:=BQ cs a a.length jp;rw[Je]at h9;unfold pV;conv=>lhs;rw[<-h9]
  exact gW _ _
 have jB:=hF3.trans hf4
 unfold kF at Tv
 simp(disch:=try exact jz) only[go_sem,z3,t4,t5,t15,au p54,au Tv,p54,hg4,hMk,aI q24,q24]
 have hN5:=hN.push (U:=U) (n':=σ4.aj+1+1) (nx:=σ4.aj+1) hf4.wf hL ZT jp jb (λb h1 h2=>hf4.old b h2) jb jb (h':=hset (hset (hset (lU a.length (hset σ4.h σ4.aj ⟨[aV (wJ (kG a) (lsA cs a).1).length bs,.bool (rn (aW (wJ (kG a) (lsA cs a).1))),.str (rs (aW (wJ (kG a) (lsA cs a).1))),.str (rd (aW (wJ (kG a) (lsA cs a).1)))],none⟩) lb) (σ4.aj+1) ⟨bC a.length (YZ U λi=>ix (pV cs a).2 i)++[aV (wJ (kG a) (lsA cs a).1).length bs,.bool (rn (aW (wJ (kG a) (lsA cs a).1))),.str (rs (aW (wJ (kG a) (lsA cs a).1))),.str (rd (aW (wJ (kG a) (lsA cs a).1)))],some (4,199)⟩) σ1.aj ⟨[mv,.sl (σ4.aj+1) 0 (a.length+1) .opn],none⟩) (σ.aj+1+1) ⟨[mv,.sl (σ4.aj+1) 0 (a.length+1) .opn],none⟩)
  (by rw[ak _ _ _ _ jb,ak _ _ _ _ jb,aA];rfl) (λc h1 h2 h3=>by rw[ak _ _ _ _ jb,ak _ _ _ _ jb,ak _ _ _ _ jb,iq _ _ _ _ h3,ak _ _ _ _ jb])
 have hll:(pV cs a).2.length=a.length+1:=by have h9:=BQ cs a a.length jp;rw[Je]at h9;unfold pV;show((lsA cs a).2++[_]).length=_;rw[aD,h9];rfl
 refine⟨⟨_,_,rfl,?_,?_⟩,fr⟩
 .refine aX.keep hMm (λb hb=>?_) λb hb=>⟨jb,by show b<σ4.aj+1+1;omega⟩
  rw[ak _ _ _ _ jb,ak _ _ _ _ jb,ak _ _ _ _ jb,iq _ _ _ _ jb,ak _ _ _ _ jb,hf4.old b jb]
 .exact(hN5.atI hll λi _=>rfl).keep (λ_ _=>rfl) λb hb=>⟨jb,hb.2⟩
end Go.Proofs.Xe
