import Derived.Test.YthkggcakedkboaaGreatDoorYd23
set_option linter.all false
namespace Go.Proofs.Ins
def lZ(a:gZ):List Nat:=(vV a).map Int.toNat
def BJ(cs:List C5)(r:Nat):Nat->dO
 |0=>[]
 |k+1=>BJ cs r k++if(ix cs k).r=(r:Int)then [((k:Int),(ix cs k).a.q)]else []
def UA(cs:List C5)(k:Nat):fU:=(List.range 8).map λr=>BJ cs r k
def lpS(s:(Nat->Rat)×dO)(x:Am):(Nat->Rat)×dO:=
 if x.k=-1 then(s.1,s.2++[((-1:Int),x.a.q)])
 else((λi=>if i=x.k.toNat then s.1 i-(if x.b=true then jX (s.1 x.k.toNat) x.a.q else s.1 x.k.toNat)else s.1 i),s.2++[(x.k,if x.b=true then jX (s.1 x.k.toNat) x.a.q else s.1 x.k.toNat)])
def ltS(s:(Nat->Rat)×fU)(t:J7):(Nat->Rat)×fU:=((t.foldl lpS (s.1,[])).1,s.2++[(t.foldl lpS (s.1,[])).2])
def lsA(cs:List C5)(a:gZ):(Nat->Rat)×fU:=a.foldl ltS ((λi:Nat=>(ix cs i).a.q),[])
def yX(ms:List Nat)(f:Nat->Rat):dO:=ms.map λi:Nat=>((i:Int),f i)
def oD(cs:List C5)(a:gZ):List Nat×fU:=(lZ a,(lsA cs a).2++[yX (lZ a) (lsA cs a).1])
def dH(e:wF):eH:=⟨UA e.c e.c.length,e.a.map (oD e.c)⟩
structure PO(P:Rat->Prop):Prop where
 min:∀a b,P a->P b->P (jX a b)
 sub:∀a b,P a->P b->P (a-jX a b)
 zero:P 0
def PS(P:Rat->Prop)(n:Nat)(x:Am):Prop:=(x.k=-1\/0<=x.k/\x.k<n)/\((x.k=-1\/x.b=true)->P x.a.q)
def zT(P:Rat->Prop)(n:Nat)(t:dO):Prop:=∀p∈t,(p.1=-1\/0<=p.1/\p.1<n)/\P p.2
section
variable {P:Rat→Prop} {n:Nat}
def zT.snoc{t:dO}(h:zT P n t){p:Int×Rat}(h1:p.1=-1\/0<=p.1/\p.1<n)(h2:P p.2):zT P n (t++[p]):=λq hq=>by
 rcases bO.mp hq with hq|hq
 .exact h q hq
 grind
def auM(hP:PO P){s:(Nat->Rat)×dO}(h1:∀i,P (s.1 i))(h2:zT P n s.2){x:Am}(hx:PS P n x):(∀i,P ((lpS s x).1 i))/\zT P n (lpS s x).2:=by
 unfold lpS;by_cases e:x.k=-1
 .rw[ab e];exact⟨h1,h2.snoc (.inl rfl) (hx.2 (.inl e))⟩
 .rw[ae e];dsimp only;have self:P (s.1 x.k.toNat-s.1 x.k.toNat):=by rw[show s.1 x.k.toNat-s.1 x.k.toNat=0 by grind];exact hP.zero
  refine⟨λi=>?_,h2.snoc hx.1 ?_⟩
  .split
   .next e2=>
    rw[e2];split
    .next hb=>exact hP.sub _ _ (h1 _) (hx.2 (.inr hb))
    omega
   grind
  .dsimp only;split
   .next hb=>exact hP.min _ _ (h1 _) (hx.2 (.inr hb))
   grind
def Z9(hP:PO P):∀(t:J7){s:(Nat->Rat)×dO},(∀i,P (s.1 i))->zT P n s.2->(∀x∈t,PS P n x)->(∀i,P ((t.foldl lpS s).1 i))/\zT P n (t.foldl lpS s).2
 |[],_,h1,h2,_=>⟨h1,h2⟩
 |x::t,s,h1,h2,h=>by obtain⟨h3,h4⟩:=auM hP h1 h2 (h x kc);exact Z9 hP t h3 h4 λy hy=>h y (by simp[hy])
def xI(P:Rat->Prop)(n:Nat)(l:fU):Prop:=∀t∈l,zT P n t
def xI.snoc{l:fU}(h:xI P n l){t:dO}(ht:zT P n t):xI P n (l++[t]):=λu hu=>by
 rcases bO.mp hu with hu|hu
 .exact h u hu
 grind
def aac(hP:PO P):∀(a:gZ){s:(Nat->Rat)×fU},(∀i,P (s.1 i))->xI P n s.2->(∀t∈a,∀x∈t,PS P n x)->(∀i,P ((a.foldl ltS s).1 i))/\xI P n (a.foldl ltS s).2
 |[],_,h1,h2,_=>⟨h1,h2⟩
 |t::a,s,h1,h2,h=>by obtain⟨h3,h4⟩:=Z9 hP t (s:=(s.1,[])) h1 (λ_ h=>by cases h) (h t kc);exact aac hP a (s:=ltS s t) h3 (h2.snoc h4) λu hu=>h u (by simp[hu])
def ah7(hP:PO P){cs:List C5}{a:gZ}(hc:∀i,P (ix cs i).a.q)(ha:∀t∈a,∀x∈t,PS P n x):(∀i,P ((lsA cs a).1 i))/\xI P n (lsA cs a).2:=aac hP a hc (λ_ h=>by cases h) ha
def tX{a:gZ}(ha:∀t∈a,∀x∈t,x.k=-1\/0<=x.k/\x.k<n):∀c∈vV a,0<=c/\c<n:=λc hc=>by obtain⟨h1,h2⟩:=qE.mp hc;obtain⟨t,ht,hm⟩:=fq.mp h2;obtain⟨x,hx,e⟩:=fq.mp hm;grind
def xJ{a:gZ}(ha:∀t∈a,∀x∈t,x.k=-1\/0<=x.k/\x.k<n){i:Nat}:i∈lZ a↔PG a (i:Int)=true:=by
 unfold lZ;rw[cH];constructor
 .rintro⟨c,hc,rfl⟩;have h1:=tX ha c hc;rw[fm h1.1];exact(qE.mp hc).2
 .intro h;exact⟨i,qE.mpr ⟨jb,h⟩,by simp⟩
def aad{a:gZ}(ha:∀t∈a,∀x∈t,x.k=-1\/0<=x.k/\x.k<n):(lZ a).Nodup:=by unfold lZ;rw[ir,List.pairwise_map];refine List.Pairwise.imp_of_mem (λ{x y} hx hy h=>?_) (abq a);have:=tX ha x hx;omega
def ab8(hP:PO P){cs:List C5}{a:gZ}(hc:∀i,P (ix cs i).a.q)(ha:∀t∈a,∀x∈t,PS P n x):xI P n (oD cs a).2:=by obtain⟨h1,h2⟩:=ah7 hP hc ha;refine h2.snoc λp hp=>?_;unfold yX at hp;obtain⟨i,hi,rfl⟩:=cH.mp hp;have:=(xJ λt ht x hx=>(ha t ht x hx).1).mp hi;have h3:=tX (a:=a) (λt ht x hx=>(ha t ht x hx).1) i (qE.mpr ⟨jb,this⟩);grind
def Ot{cs:List C5}(hc:∀i,i<cs.length->P (ix cs i).a.q)(r:Nat):∀k,k<=cs.length->∀p∈BJ cs r k,(0<=p.1/\p.1<cs.length)/\P p.2
 |0,_,p,hp=>by cases hp
 |k+1,hk,p,hp=>by
  unfold BJ at hp;rcases bO.mp hp with hp|hp
  .exact Ot hc r k jb p hp
  grind
end
end Go.Proofs.Ins
namespace Go.Proofs.Xe
open Go.RowKit Go.Proofs.Ins
def dU(D:Nat)(q:Rat):Prop:=∃a:Int,q=(a:Rat)/(D:Rat)
theorem iD{D:Nat}(h:0<D):(D:Rat)≠0:=λe=>by simp_all
section
variable {A B D:Nat} {p q x s:Rat}
theorem dU.zero(D:Nat):dU D 0:=⟨0,by grind⟩
theorem dU.add(h:dU D p)(h':dU D q):dU D (p+q):=by obtain⟨a,rfl⟩:=h;obtain⟨b,rfl⟩:=h';exact⟨a+b,by grind⟩
def dU.neg(h:dU D p):dU D (-p):=by obtain⟨a,rfl⟩:=h;exact⟨-a,by grind⟩
def dU.sub(h:dU D p)(h':dU D q):dU D (p-q):=by rw[iA];exact h.add h'.neg
def dU.up(h:dU A p){k:Nat}(hk:0<k):dU (A*k) p:=by
 obtain⟨a,rfl⟩:=h;refine⟨a*k,?_⟩;have h1:=iD hk;have e2:((a*(k:Int):Int):Rat)=(a:Rat)*(k:Rat):=by rw[cR];rfl
 grind
def dU.dvd(h:dU A p)(hd:A∣B)(hB:0<B):dU B p:=by obtain⟨k,rfl⟩:=hd;exact h.up (fg λe=>by grind)
theorem dU.sum{α:Type}{f:α->Rat}:∀{l:List α},(∀a∈l,dU D (f a))->dU D (aJ l f)
 |[],_=>dU.zero D
 |a::l,h=>(h a kc).add (dU.sum λb hb=>h b (by simp[hb]))
def nuA(A:Nat)(s:Rat):Nat:=(s*A).num.natAbs
def UC(hA:0<A)(hs:dU A s)(h0:0<s):s=(nuA A s:Rat)/(A:Rat)/\0<nuA A s:=by
 obtain⟨u,rfl⟩:=hs;have hA:=iD hA;have e:(u:Rat)/(A:Rat)*(A:Rat)=(u:Rat):=by grind
 unfold nuA;rw[e,Rat.num_intCast];have hu:0<u:=by
  have h1:(0:Rat)<=(A:Rat):=by grind
  have h2:=Rat.mul_pos h0 (show(0:Rat)<(A:Rat) by grind);rw[e]at h2;exact Rat.intCast_pos.mp h2
 have e2:((u.natAbs:Nat):Rat)=(u:Rat):=by
  have:((u.natAbs:Int):Rat)=(u:Rat):=by grind
  exact this
 grind
def dU.share(hA:0<A)(hB:0<B)(hp:dU A p)(hx:dU B x)(hs:dU A s)(h0:0<s):dU (B*nuA A s) (p*(x/s)):=by obtain⟨e,hn⟩:=UC hA hs h0;obtain⟨c,rfl⟩:=hp;obtain⟨z,rfl⟩:=hx;generalize nuA A s=n at*;refine⟨c*z,?_⟩;grind
def Zk.of(hD:0<D)(h:dU D q)(h1:0<=q)(h2:q<=((256^uK:Nat):Rat)):Zk D 1 q:=by
 obtain⟨a,rfl⟩:=h;refine⟨a,rfl,?_⟩;have hD':=iD hD;have h3:(0:Rat)<(D:Rat):=by grind
 have e:(a:Rat)/(D:Rat)*(D:Rat)=(a:Rat):=by grind
 have h4:=bh h2 (eg h3);have h5:=cg h1 (eg h3);rw[e]at h4 h5;rw[<-eQ]at h4;have h4:((a:Int):Rat)<=(((256^uK*D:Nat):Int):Rat):=h4;have h4:=fX.mp h4;have h5:=Rat.intCast_nonneg.mp h5;grind
end
def vY(A:Nat)(l:fU)(m:Rat):Nat:=if dJ l m<l.length then nuA A (aW (ix l (dJ l m)))else 1
def Kr(A:Nat)(l:fU):Prop:=∀t∈l,∀p∈t,dU A p.2/\0<=p.2
section
variable {A B:Nat} {l:fU} {m:Rat}
def Dw{t:dO}(h:∀p∈t,dU A p.2/\0<=p.2):dU A (aW t):=by
 induction t with
 |nil=>exact dU.zero A
 |cons p t ih=>exact(h p kc).1.add (ih λq hq=>h q (by simp[hq]))
def aae{t:dO}(h:∀p∈t,dU A p.2/\0<=p.2)(c:Int):dU A (l9 t c):=by
 induction t with
 |nil=>exact dU.zero A
 |cons p t ih=>
  refine dU.add ?_ (ih λq hq=>h q (by simp[hq]))
  grind[dU.zero]
def Kr.nn(h:Kr A l):NV l:=λt ht p hp=>(h t ht p hp).2
def ah8(h:Kr A l)(k:Nat):dU A (BD l k):=by
 unfold BD;have:∀l:fU,Kr A l->dU A (kX l):=λl=>by
  induction l with
  |nil=>intro _;exact dU.zero A
  |cons t l ih=>intro h;exact(Dw (h t kc)).add (ih λu hu=>h u (by simp[hu]))
 exact this _ λt ht=>h t (di ht)
def arb(h:Kr A l)(c:Int):dU A (Ic l c):=by
 induction l with
 |nil=>exact dU.zero A
 |cons t l ih=>exact(aae (h t kc) c).add (ih λu hu=>h u (by simp[hu]))
def zU(hm:0<=m)(hf:dJ l m<l.length):0<aW (ix l (dJ l m)):=by have:=Uu l m hm;grind
def qW(hA:0<A)(h:Kr A l)(hm:0<=m):0<vY A l m:=by
 unfold vY;split
 .next hf=>exact(UC hA (Dw (h _ (fO hf))) (zU hm hf)).2
 .omega
def aaf(hA:0<A)(hB:0<B)(hd:A∣B)(h:Kr A l)(hm:dU B m):dU B (jr l m):=by rw[Oe];exact hm.sub ((ah8 h _).dvd hd hB)
def ah9(hA:0<A)(h:Kr A l)(h0:0<=m){R:Nat}(hR:0<R){x:Rat}(hx:dU R x)(hf:dJ l m<l.length){q:Rat}(hq:dU A q):dU (R*vY A l m) (q*(x/aW (ix l (dJ l m)))):=by unfold vY;rw[ab hf];exact dU.share hA hR hq hx (Dw (h _ (fO hf))) (zU h0 hf)
def aoh(hA:0<A)(hB:0<B)(hd:A∣B)(h:Kr A l)(hm:dU B m)(h0:0<=m)(c:Int):dU (B*vY A l m) (iy l m c):=by
 have hc:=qW hA h h0;rw[Jl];refine dU.add ((arb (λt ht=>h t (di ht)) c).dvd (bR hd (aM _ _)) (cn hB hc)) ?_;split
 .next hf=>exact ah9 hA h h0 hB (aaf hA hB hd h hm) hf (aae (h _ (fO hf)) c)
 .exact dU.zero _
def aoi(hA:0<A)(h:Kr A l)(h0:0<=m){R:Nat}(hR:0<R){x:Rat}(hx:dU R x)(c:Int):dU (R*vY A l m) (jJ l m x c):=by
 rw[Eh];split
 .next hf=>exact ah9 hA h h0 hR hx hf (aae (h _ (fO hf)) c)
 .exact dU.zero _
end
def aev(A:Nat)(e:eH)(x:Rat):List (List Nat×fU)->Nat
 |[]=>1
 |p::l=>vY A p.2 (kY e x p)*aev A e x l
def BF(A:Nat)(e:eH)(x:Rat):Nat:=vY A e.rk x*aev A e x e.ps
structure ED(A:Nat)(U:Rat)(n:Nat)(e:eH):Prop where
 rk:xI (λq=>dU A q/\0<=q/\q<=U) n e.rk
 ps:∀p∈e.ps,xI (λq=>dU A q/\0<=q/\q<=U) n p.2
section
variable {A B n:Nat} {U m:Rat} {e:eH}
def _root_.Go.Proofs.Ins.xI.D{l:fU}(h:xI (λq=>dU A q/\0<=q/\q<=U) n l):Kr A l:=λt ht p hp=>⟨(h t ht p hp).2.1,(h t ht p hp).2.2.1⟩
def ED.nn(h:ED A U n e):BA e:=⟨h.rk.D.nn,λp hp=>(h.ps p hp).D.nn⟩
def aoj(hA:0<A)(hB:0<B)(hd:A∣B)(h:ED A U n e)(hm:dU B m)(h0:0<=m)(c:Nat):dU (B*vY A e.rk m) (zC e m c):=aoh hA hB hd h.rk.D hm h0 _
def aok(hA:0<A)(h:ED A U n e)(h0:0<=m)(c:Nat):dU (vY A e.rk m) (rts e m c):=by have:=aoi (R:=1) hA h.rk.D h0 jj (x:=1) ⟨1,by grind⟩ c;rwa[Nat.one_mul]at this
def Xv(hA:0<A)(hB:0<B)(hd:A∣B)(h:ED A U n e)(hm:dU B m)(h0:0<=m)(p:List Nat×fU):dU (B*vY A e.rk m) (kY e m p):=dU.sum λc _=>aoj hA hB hd h hm h0 c
def ab9(hA:0<A)(h:ED A U n e)(h0:0<=m)(p:List Nat×fU):dU (vY A e.rk m) (rO e m p):=dU.sum λc _=>aok hA h h0 c
def Dy(A:Nat)(e:eH)(x:Rat):∀{l:List (List Nat×fU)}{p:List Nat×fU},p∈l->vY A p.2 (kY e x p)∣aev A e x l
 |q::l,p,h=>by
  rcases bA.mp h with rfl|h
  .exact aM _ _
  .exact bR (Dy A e x h) (gC _ _)
def Xw(hA:0<A)(h:ED A U n e)(h0:0<=m):∀{l:List (List Nat×fU)},(∀p∈l,p∈e.ps)->0<aev A e m l
 |[],_=>Nat.zero_lt_one
 |p::l,hl=>cn (qW hA (h.ps p (hl p kc)).D (nI h.nn h0 p)) (Xw hA h h0 λq hq=>hl q (by simp[hq]))
def Il(hA:0<A)(h:ED A U n e)(h0:0<=m):0<BF A e m:=cn (qW hA h.rk.D h0) (Xw hA h h0 λ_ h=>h)
def aia(hA:0<A)(hB:0<B)(hd:A∣B)(h:ED A U n e)(hm:dU B m)(h0:0<=m)(c:Nat):dU (B*BF A e m) (rQ e m c):=by
 have hp:=cn hB (Il hA h h0);have hp1:=cn hB (qW hA h.rk.D h0);unfold rQ;refine dU.add ?_ (dU.sum λp hp'=>?_)
 .split
  .exact dU.zero _
  .exact(aoj hA hB hd h hm h0 c).dvd (cE _ (aM _ _)) hp
 .refine(aoh hA hp1 (bR hd (aM _ _)) (h.ps p hp').D (Xv hA hB hd h hm h0 p) (nI h.nn h0 p) c).dvd ?_ hp;rw[fR];exact cE _ (cE _ (Dy A e m hp'))
def aib(hA:0<A)(h:ED A U n e)(h0:0<=m)(c:Nat):dU (BF A e m) (xH e m c):=by
 have hp:=Il hA h h0;unfold xH;refine dU.add ?_ (dU.sum λp hp'=>?_)
 .split
  .exact dU.zero _
  .exact(aok hA h h0 c).dvd (aM _ _) hp
 .exact(aoi hA (h.ps p hp').D (nI h.nn h0 p) (qW hA h.rk.D h0) (ab9 hA h h0 p) c).dvd (cE _ (Dy A e m hp')) hp
end
end Go.Proofs.Xe
namespace Go.Proofs.Ins
def yY(l:Lg):fA:=(l.e.toNat,l.k.toNat)
def aX(g:gW):GL:=⟨λi=>dH (ix g.e i),λi=>(ix g.e i).c.length,λi c=>(ix (ix g.e i).c c).h,g.d.map λd=>(d.w.q,d.l.map yY)⟩
theorem acd{q:Rat}(h:¬sg q<0):0<=q:=by grind[sg]
def amw:PO (λq=>0<=q) where
 min:=λa b ha hb=>by grind[jX]
 sub:=λa b ha hb=>by grind[jX]
 zero:=aR
structure EZ(n:Nat)(i:Nat)(e:wF):Prop where
 nc:e.c.length<=24
 na:e.a.length<=12
 m:0<=e.m.q
 c:∀k,k<e.c.length->0<=(ix e.c k).r/\(ix e.c k).r<=7/\0<=(ix e.c k).a.q/\((ix e.c k).h=-1\/0<=(ix e.c k).h/\(ix e.c k).h<n/\(ix e.c k).h≠i)
 a:∀k,k<e.a.length->(ix e.a k).length<=24/\(∀t,t<(ix e.a k).length->(ix (ix e.a k) t).length<=24)/\∀t∈ix e.a k,∀x∈t,PS (λq=>0<=q) e.c.length x/\(x.k≠-1->yQ e.a k x.k=false)
def auN{e:wF}{n i:Nat}(h:Hr e=0)(hh:∀k,k<e.c.length->¬((n:Int)<=(ix e.c k).h\/(ix e.c k).h=(i:Int))):EZ n i e:=by
 unfold Hr at h;split at h
 .cases h
 next h0=>
 split at h
 .cases h
 next h1=>
 split at h
 .omega
 next h2=>
 have h2:Ey (λi=>J8 (ix e.c i)) e.c.length=0:=bj h2;refine⟨jb,jb,acd h1,λk hk=>?_,λk hk=>?_⟩
 .grind[gJ,J8,acd]
 .have ha:=gJ h k hk;unfold TM at ha;split at ha
  .cases ha
  next hl=>
  have hl:=CP.mp (by simpa using hl);refine⟨hl.1,hl.2,λt ht x hx=>?_⟩;obtain⟨j,hj,rfl⟩:=aL ht;obtain⟨p,hp,rfl⟩:=aL hx;have hT:=gJ ha j hj;unfold aqE at hT;rw[dV hj]at hT;have hP:=gJ hT p hp;rw[dV hp]at hP;generalize (ix e.a k)[j][p]=x at*;unfold Zw at hP;split at hP
  .cases hP
  next c1=>
  split at hP
  .cases hP
  next c2=>
  split at hP
  .cases hP
  next c3=>
  split at hP
  .cases hP
  next c4=>
  refine⟨⟨jb,λhq=>?_⟩,λhn=>by grind⟩;grind[acd]
structure GZ(g:gW):Prop where
 ne:g.e.length<=8
 nd:g.d.length<=16
 e:∀i,i<g.e.length->EZ g.e.length i (ix g.e i)
 l:∀d,d<g.d.length->(ix g.d d).l.length<=8/\0<=(ix g.d d).w.q/\∀k,k<(ix g.d d).l.length->∃e j:Nat,ix (ix g.d d).l k=⟨(e:Int),(j:Int)⟩/\e<g.e.length/\j<(ix g.e e).c.length/\CQ (jZ g.d d k) (ix (ix g.d d).l k)=false/\holdL g.e (ix (ix g.d d).l k)=holdL g.e (ix (ix g.d d).l 0)
def JW{g:gW}(h:Jb g=0):GZ g:=by
 unfold Jb at h;split at h
 .cases h
 next h0=>
 split at h
 .omega
 next h1=>
 split at h
 .omega
 next h2=>
 have h1:Ey (λi=>Hr (ix g.e i)) g.e.length=0:=bj h1;have h2:Ey (λi=>Ey (TN g i) (ix g.e i).c.length) g.e.length=0:=bj h2;refine⟨jb,jb,λi hi=>auN (gJ h1 i hi) λk hk hx=>?_,λd hd=>?_⟩
 .grind[gJ,TN]
 .have hD:=gJ h d hd;unfold PI at hD;split at hD
  .cases hD
  next d0=>
  split at hD
  .cases hD
  next d1=>
  refine⟨jb,acd d1,λk hk=>?_⟩;have hL:=gJ hD k hk;unfold Zx at hL;dsimp only at hL;split at hL
  .cases hL
  next hr=>
  split at hL
  .cases hL
  next hm=>
  split at hL
  .cases hL
  next hh=>
  have hm:CQ (jZ g.d d k) (ix (ix g.d d).l k)=false:=by simpa using hm
  have hh:holdL g.e (ix (ix g.d d).l k)=holdL g.e (ix (ix g.d d).l 0):=bj hh;revert hm hh;generalize hx:ix (ix g.d d).l k=x at*;obtain⟨e,j⟩:=x;dsimp only at hr;intro hm hh;refine⟨e.toNat,j.toNat,?_,jb,jb,hm,hh⟩;rw[fm jb,fm jb]
def Ou{α β:Type}[Inhabited α](f:α->List β):∀l:List α,(∀k,k<l.length->(f (ix l k)).Nodup/\∀j,j<k->∀x,x∈f (ix l k)->x∉f (ix l j))->(l.flatMap f).Nodup:=by
 intro l;have key:∀k,k<=l.length->(∀k,k<l.length->(f (ix l k)).Nodup/\∀j,j<k->∀x,x∈f (ix l k)->x∉f (ix l j))->((l.take k).flatMap f).Nodup:=by
  intro k;induction k with
  |zero=>simp
  |succ k ih=>
   intro hk h
   rw[bJ jb,cM,gm]
   have hs:[ix l k].flatMap f=f (ix l k):=by simp
   rw[hs]
   refine⟨ih jb h,(h k jb).1,λa ha b hb e=>?_⟩
   subst e
   obtain⟨y,hy,hay⟩:=bX.mp ha
   obtain⟨j,hj,rfl⟩:=aL hy
   grind[dV]
 grind[List.take_length]
def rZ{α β:Type}[Inhabited α][Inhabited β](f:α->β){l:List α}{i:Nat}(h:i<l.length):ix (l.map f) i=f (ix l i):=by grind[dV]
section
variable {n i:Nat} {e:wF}
theorem EZ.prt(h:EZ n i e){k:Nat}(hk:k<e.a.length):∀t∈ix e.a k,∀x∈t,x.k=-1\/0<=x.k/\x.k<e.c.length:=λt ht x hx=>(((h.a k hk).2.2 t ht x hx).1).1
def UD{α:Type}[Inhabited α]{l:List α}{k:Nat}(h:l.length<=k):ix l k=default:=by grind[ix]
def R3.auO:(default:R3).q=0:=by rfl
def EZ.amt(h:EZ n i e)(k:Nat):0<=(ix e.c k).a.q:=by
 by_cases hk:k<e.c.length
 .exact(h.c k hk).2.2.1
 .rw[UD jb];rfl
def KZ{cs:List C5}{k:Nat}{t:dO}:t∈UA cs k↔∃r,r<8/\t=BJ cs r k:=by grind[UA]
def La(h:EZ n i e):BA (dH e)/\InE e.c.length (dH e):=by
 have hA:∀k,k<e.a.length->xI (λq=>0<=q) e.c.length (oD e.c (ix e.a k)).2:=λk hk=>ab8 amw h.amt λt ht x hx=>((h.a k hk).2.2 t ht x hx).1;refine⟨⟨λt ht p hp=>?_,λp hp t ht q hq=>?_⟩,⟨λt ht p hp=>?_,λp hp t ht q hq=>?_,?_,λi hi=>?_⟩⟩
 .obtain⟨r,-,rfl⟩:=KZ.mp ht;exact(Ot (P:=λq=>0<=q) (λi _=>h.amt i) r _ jp p hp).2
 .obtain⟨a,ha,rfl⟩:=cH.mp hp;obtain⟨k,hk,rfl⟩:=aL ha;rw[<-dV hk]at ht;exact(hA k hk t ht q hq).2
 .obtain⟨r,-,rfl⟩:=KZ.mp ht;exact(Ot (P:=λq=>0<=q) (λi _=>h.amt i) r _ jp p hp).1
 .obtain⟨a,ha,rfl⟩:=cH.mp hp;obtain⟨k,hk,rfl⟩:=aL ha;rw[<-dV hk]at ht;exact(hA k hk t ht q hq).1
 .show((e.a.map (oD e.c)).flatMap (·.1)).Nodup;rw[fW];refine Ou (λa=>(oD e.c a).1) e.a λk hk=>⟨aad (h.prt hk),λj hj x hx hx2=>?_⟩
  have h1:=(xJ (h.prt hk)).mp hx;have h2:=(xJ (h.prt (by omega:j<e.a.length))).mp hx2;obtain⟨t,ht,hm⟩:=fq.mp h1;obtain⟨y,hy,ey⟩:=fq.mp hm;have ey:y.k=(x:Int):=by grind
  have:=((h.a k hk).2.2 t ht y hy).2 jb;rw[ey]at this;unfold yQ at this;rw[List.any_eq_false]at this;refine this (ix e.a j) ?_ h2;rw[<-TG (l:=e.a) hj];grind[lM]
 .obtain⟨p,hp,hi⟩:=bX.mp hi;obtain⟨a,ha,rfl⟩:=cH.mp hp;obtain⟨k,hk,rfl⟩:=aL ha;rw[<-dV hk]at hi;have h1:=(xJ (h.prt hk)).mp hi;have:=tX (h.prt hk) i (qE.mpr ⟨jb,h1⟩);omega
end
def ard{g:gW}(h:GZ g):Ik g.e.length (aX g):=by
 refine⟨λi hi=>(La (h.e i hi)).1,λi hi=>(La (h.e i hi)).2,λi c hi hc=>?_,λl hl=>?_,?_,λd hd=>?_⟩
 .have:=((h.e i hi).c c hc).2.2.2;show(ix (ix g.e i).c c).h=-1\/0<=(ix (ix g.e i).c c).h/\(ix (ix g.e i).c c).h<(g.e.length:Int);omega
 .obtain⟨d,hd,hl⟩:=bX.mp hl;obtain⟨d',hd',rfl⟩:=cH.mp hd;obtain⟨j,hj,rfl⟩:=aL hd';obtain⟨x,hx,rfl⟩:=cH.mp hl;rw[<-dV hj]at hx;obtain⟨k,hk,rfl⟩:=aL hx;obtain⟨a,b,e1,h1,h2,-⟩:=(h.l j hj).2.2 k hk;rw[<-dV hk,e1];exact⟨h1,h2⟩
 .show((g.d.map λd=>(d.w.q,d.l.map yY)).flatMap (·.2)).Nodup;rw[fW];have key:∀d,d<g.d.length->∀k,k<(ix g.d d).l.length->∀y∈jZ g.d d k,(0<=y.e/\0<=y.k)->yY y≠yY (ix (ix g.d d).l k):=λd hd k hk y hy hn e=>by obtain⟨a,b,e1,h1,h2,h3,-⟩:=(h.l d hd).2.2 k hk;grind[Go.Proofs.Ins.CQ,Go.Proofs.Ins.yY]
  have nn:∀d,d<g.d.length->∀y∈(ix g.d d).l,0<=y.e/\0<=y.k:=λd hd y hy=>by obtain⟨k,hk,rfl⟩:=aL hy;obtain⟨a,b,e1,-⟩:=(h.l d hd).2.2 k hk;grind[dV]
  refine Ou (λd:uH=>d.l.map yY) g.d λd hd=>⟨?_,λj hj x hx hx2=>?_⟩
  .have:(List.range (ix g.d d).l.length).Pairwise (· < ·):=List.pairwise_lt_range;rw[ir,List.pairwise_map,it];intro a b ha hb hab;have:=key d hd b hb (ix (ix g.d d).l a) (List.mem_append_right _ ?_) ?_
   .grind[dV]
   .rw[<-TG (l:=(ix g.d d).l) hab];grind[lM]
   grind[lM]
  .obtain⟨y,hy,rfl⟩:=cH.mp hx;obtain⟨z,hz,e⟩:=cH.mp hx2;obtain⟨k,hk,rfl⟩:=aL hy;rw[<-dV hk]at e;refine key d hd k hk z (ik _ (bX.mpr ⟨ix g.d j,?_,hz⟩)) (nn j jb z hz) e;rw[<-TG (l:=g.d) hj];grind[lM]
 .obtain⟨d',hd',rfl⟩:=cH.mp hd;obtain⟨j,hj,rfl⟩:=aL hd';rw[<-dV hj];exact(h.l j hj).2.1
end Go.Proofs.Ins
namespace Go.Proofs.Xe
open Go.RowKit Go.Proofs.Ins
def vQ:Rat:=((256^uK:Nat):Rat)
def uQ:Rat:=((256^900:Nat):Rat)
def Ov:0<=uQ:=by have:((0:Nat):Rat)<=((256^900:Nat):Rat):=br.mpr (bp _);exact this
def pow_two{a b c:Nat}(h:a+b=c):256^a*256^b=256^c:=by rw[<-h,dT]
def FQ{k:Nat}(h:k<=256^100):(k:Rat)*uQ<=vQ:=by
 unfold uQ vQ;rw[<-eQ];refine br.mpr ?_;calc k*256^900<=256^100*256^900:=bo _ h
  _=256^uK:=pow_two (show 100+900=uK from rfl)
def QW{k:Nat}(h:k<=256^100):(k:Rat)<=vQ:=by unfold vQ;exact br.mpr (av h (bB jj jj))
abbrev FT(A:Nat)(q:Rat):Prop:=dU A q/\0<=q/\q<=uQ
section
variable {A n:Nat} {l:fU}
def UE{t:dO}(h:zT (FT A) n t):aW t<=(t.length:Rat)*uQ:=by
 induction t with
 |nil=>show(0:Rat)<=_;simp
 |cons p t ih=>
  have h1:=ih λq hq=>h q (by simp[hq])
  have h2:=(h p kc).2.2.2
  rw[bV,gb]
  grind[aW]
def NC:∀{l:fU},xI (FT A) n l->kX l<=(dA l:Rat)*uQ
 |[],_=>by show(0:Rat)<=((0:Nat):Rat)*uQ;simp
 |t::l,h=>by have h1:=NC (l:=l) λu hu=>h u (by simp[hu]);have h2:=UE (h t kc);show aW t+kX l<=((t.length+dA l:Nat):Rat)*uQ;grind
theorem yZ:∀{l:fU},NV l->0<=kX l
 |[],_=>aR
 |t::l,h=>by have:=yZ (l:=l) λu hu=>h u (by simp[hu]);have:=yB (h t kc);show 0<=aW t+kX l;grind
def aic:∀{l:fU}{j:Nat},NV l->j<l.length->aW (ix l j)<=kX l
 |t::l,0,h,_=>by have:=yZ (l:=l) λu hu=>h u (by simp[hu]);show aW t<=aW t+kX l;grind
 |t::l,j+1,h,hj=>by have:=aic (l:=l) (j:=j) (λu hu=>h u (by simp[hu])) (by simpa using hj);have:=yB (h t kc);show aW (ix l j)<=aW t+kX l;grind
theorem aag:∀{l:fU}(k:Nat),NV l->0<=BD l k/\BD l k<=kX l
 |[],k,h=>by unfold BD;rw[List.take_nil];exact⟨aR,aR⟩
 |t::l,0,h=>⟨aR,yZ h⟩
 |t::l,k+1,h=>by obtain⟨h1,h2⟩:=aag (l:=l) k λu hu=>h u (by simp[hu]);have:=yB (h t kc);unfold BD at h1 h2⊢;rw[fT];show 0<=aW t+kX _/\aW t+kX _<=aW t+kX l;grind
end
structure EB(n:Nat)(e:eH):Prop where
 nb:n<=1000
 r0:0<e.rk.length
 r1:e.rk.length<=1000
 rn:dA e.rk<=1000
 ps:e.ps.length<=1000
 m:∀p∈e.ps,p.1.length<=1000/\∀i∈p.1,i<n
 p:∀p∈e.ps,0<p.2.length/\p.2.length<=1000/\dA p.2<=10000
section
variable {A B R D n:Nat} {l:fU} {m x:Rat}
theorem qX(hD:BI D)(hB:B∣D){q:Rat}(h:dU B q)(h0:0<=q)(h1:q<=vQ):Zk D 1 q:=Zk.of hD.1 (h.dvd hB hD.1) h0 h1
theorem vk:2<=256^uK:=av (by decide:2<=256^1) (bB jj jj)
def Ej:∀{l:fU}{t:dO},t∈l->t.length<=dA l
 |u::l,t,h=>by
  unfold dA;rcases bA.mp h with rfl|h
  .omega
  .have:=Ej h;omega
def Xx(hD:BI D)(hA:A∣D)(h:xI (FT A) n l)(hl:l.length<=1000)(hn:dA l<=10000):Og D n l:=by
 have hU:=FQ (k:=10000) jj;have hU1:=FQ (k:=1) jj;have hz:∀t∈l,∀p∈t,Zk D 1 p.2:=λt ht p hp=>by have:=(h t ht p hp).2;grind[Go.Proofs.Xe.qX]
 refine⟨jb,λt ht=>by have:=Ej ht;omega,λt ht=>?_,λt ht p hp=>(h t ht p hp).1,λt ht p hp=>(hz t ht p hp).sz hD (by grind[vk]),hz⟩;have h1:=UE (h t ht);have h2:(t.length:Rat)<=((10000:Nat):Rat):=br.mpr (by have:=Ej ht;omega);have h3:=bh h2 Ov;refine(qX hD hA (Dw λp hp=>⟨(h t ht p hp).2.1,(h t ht p hp).2.2.1⟩) (yB λp hp=>(h t ht p hp).2.2.1) kd).sz hD (by grind[vk])
def Lc(hA0:0<A)(hD:BI D)(hA:A∣D)(h:xI (FT A) n l)(hn:dA l<=10000)(hB:B∣D)(hm:dU B m)(h0:0<=m)(h1:m<=vQ)(hR0:0<R)(hR:R*vY A l m∣D)(hx:dU R x)(hx0:0<=x)(hx1:x<=vQ):Oh D l m x:=by
 have hnn:=h.D.nn;have hR1:R∣D:=bR (aM _ _) hR;have hU:=FQ (k:=10000) jj;have h2:(dA l:Rat)<=((10000:Nat):Rat):=br.mpr hn;have h3:=bh h2 Ov;have ht:=NC h;have hu:=vk;have hzx:=qX hD hR1 hx hx0 hx1;refine⟨λk _=>?_,h0,hzx.sz hD jb,λhf=>?_,λhf p hp=>?_⟩
 .have hc:=aag k hnn;exact((qX hD hB hm h0 h1).sub (qX hD hA (ah8 h.D k) hc.1 kd)).sz hD jb
 .have hs:=zU h0 hf;have:=aic hnn hf;exact hzx.atX (qX hD hA (Dw (h.D _ (fO hf))) (eg hs) kd) hD jb jb kd
 .have hs:=zU h0 hf;have hpp:=h.D _ (fO hf) p hp;have hps:p.2<=aW (ix l (dJ l m)):=by
   have:∀t:dO,(∀q∈t,0<=q.2)->p∈t->p.2<=aW t:=λt=>by
    induction t with
    |nil=>simp
    |cons q t ih=>
     intro hq hp
     show p.2<=q.2+aW t
     have h4:=hq q kc
     have h5:0<=aW t:=yB λr hr=>hq r (by simp[hr])
     grind
   exact this _ (λq hq=>(h.D _ (fO hf) q hq).2) hp
  have e:p.2*(x/aW (ix l (dJ l m)))=x*(p.2/aW (ix l (dJ l m))):=by grind
  have h4:=Au hs hps;have h5:=ZU hpp.2 hs;have h6:=da h4 hx0;refine qX hD hR (ah9 hA0 h.D h0 hR0 hx hf hpp.1) ?_ ?_
  .grind[Rat.mul_nonneg]
  grind
def left_le(h0:0<=m)(h:NV l):0<=jr l m/\jr l m<=m:=by grind[Go.Proofs.Xe.Uu,Go.Proofs.Xe.Oe,Go.Proofs.Xe.aag]
def arf{l:fU}(h:NV l)(c:Int):∀{m:Rat},0<=m->iy l m c<=kX l:=by
 induction l with
 |nil=>intro m _;rfl
 |cons t l ih=>
  intro m hm
  have hl:=yZ (l:=l) λu hu=>h u (by simp[hu])
  have h2:=KO (h t kc) c
  have h3:=Ea (h t kc) c
  unfold iy
  show _<=aW t+kX l
  split
  .next hlt=>
   have h4:=Au (a:=m) (b:=aW t) kd (eg hlt)
   have h5:=da h4 h3
   grind
  .have:=ih (λu hu=>h u (by simp[hu])) (m:=m-aW t) kd
   grind
def UF{l:fU}(h:NV l)(c:Int){x:Rat}(hx:0<=x)(h0:0<=m):jJ l m x c<=x:=by
 rw[Eh];split
 .next hf=>
  have hs:=zU h0 hf;have hl:=h _ (fO hf);have e:l9 (ix l (dJ l m)) c*(x/aW (ix l (dJ l m)))=x*(l9 (ix l (dJ l m)) c/aW (ix l (dJ l m))):=by grind
  rw[e];have h4:=Au hs (KO hl c);have h6:=da h4 hx;grind
 omega
end
section
variable {A B D n:Nat} {m:Rat} {e:eH}
def qY{α:Type}{f:α->Rat}{v:Rat}(h0:0<=v):∀{l:List α}{k:Nat},(∀a∈l,f a<=v)->l.length<=k->aJ l f<=(k:Rat)*v
 |[],k,_,_=>by have:((0:Nat):Rat)<=(k:Rat):=br.mpr (bp _);exact cg this h0
 |a::l,k,h,hk=>by
  obtain⟨k,rfl⟩:∃j,k=j+1:=⟨k-1,by simp at hk;omega⟩
  have h1:=qY h0 (l:=l) (k:=k) (λb hb=>h b (by simp[hb])) (by simpa using hk);have h2:=h a kc;show f a+aJ l f<=_;rw[gb];have:((1:Nat):Rat)=1:=rfl;grind
def aie(h:ED A uQ n e)(hb:EB n e)(h0:0<=m){p:List Nat×fU}(hp:p∈e.ps):kY e m p<=vQ:=by have ht:=NC h.rk;have h2:(dA e.rk:Rat)<=((1000:Nat):Rat):=br.mpr hb.rn;have h3:=bh h2 Ov;have h4:=qY (f:=zC e m) (v:=((1000:Nat):Rat)*uQ) (cg (br.mpr (bp 1000)) Ov) (l:=p.1) (k:=1000) (λc _=>cI (arf h.rk.D.nn c h0) (cI ht h3)) (hb.m p hp).1;have h5:=FQ (k:=1000*1000) jj;grind[kY]
def arh(h:ED A uQ n e)(hb:EB n e)(h0:0<=m){p:List Nat×fU}(hp:p∈e.ps):rO e m p<=vQ:=by have h4:=qY (f:=rts e m) (v:=1) jj (l:=p.1) (k:=1000) (λc _=>UF h.rk.D.nn c jj h0) (hb.m p hp).1;have h5:=QW (k:=1000) jj;grind[rO]
def aif(hD:BI D)(hA:A∣D)(h:ED A uQ n e)(hb:EB n e):EOk D n e:=by
 have hn:=hb.nb;have hps:=hb.ps;refine⟨jb,Xx hD hA h.rk hb.r1 (by have:=hb.rn;omega),hb.r0,jb,λp hp=>⟨by have:=(hb.m p hp).1;omega,(hb.m p hp).2⟩,λp hp=>⟨Xx hD hA (h.ps p hp) (hb.p p hp).2.1 (hb.p p hp).2.2,(hb.p p hp).1⟩,?_⟩;have h1:∀l:List (List Nat×fU),(∀p∈l,dA p.2<=10000)->Ig l<=l.length*10000:=λl=>by
  induction l with
  |nil=>intro _;exact cK 0
  |cons p l ih=>
   grind[Ig]
 have h2:=h1 e.ps λp hp=>(hb.p p hp).2.2;have h3:=hb.rn;grind[uK]
def aii(hA0:0<A)(hB0:0<B)(hAB:A∣B)(hD:BI D)(hBD:B*BF A e m∣D)(h:ED A uQ n e)(hb:EB n e)(hm:dU B m)(h0:0<=m)(h1:m<=vQ):MOk D e m:=by
 have hB:B∣D:=bR (aM _ _) hBD;have hA:A∣D:=bR hAB hB;have hr:B*vY A e.rk m∣D:=bR (cE _ (aM _ _)) hBD;have hr0:=cn hB0 (qW hA0 h.rk.D h0);refine⟨(qX hD hB hm h0 h1).sz hD (by grind[vk]),?_,λp hp=>?_⟩
 .have hl:=left_le h0 h.rk.D.nn;exact Lc hA0 hD hA h.rk (by have:=hb.rn;omega) hB hm h0 h1 hB0 hr (aaf hA0 hB0 hAB h.rk.D hm) hl.1 (cI hl.2 h1)
 .have hg:=nI h.nn h0 p;have hgD:=Xv hA0 hB0 hAB h hm h0 p;have hgl:=aie h hb h0 hp;have hl:=left_le hg (h.ps p hp).D.nn;have hd:B*vY A e.rk m*vY A p.2 (kY e m p)∣D:=by refine bR ?_ hBD;rw[fR];exact cE _ (cE _ (Dy A e m hp))
  exact⟨Lc hA0 hD hA (h.ps p hp) (hb.p p hp).2.2 hr hgD hg hgl hr0 hd (aaf hA0 hr0 (bR hAB (aM _ _)) (h.ps p hp).D hgD) hl.1 (cI hl.2 hgl),(qX hD hr hgD hg hgl).sz hD (by grind[vk])⟩
def aij(hA0:0<A)(hB0:0<B)(hAB:A∣B)(hD:BI D)(hBD:B*BF A e m∣D)(h:ED A uQ n e)(hb:EB n e)(hm:dU B m)(h0:0<=m)(h1:m<=vQ):ROk D e m:=by
 have hB:B∣D:=bR (aM _ _) hBD;have hA:A∣D:=bR hAB hB;have hr:B*vY A e.rk m∣D:=bR (cE _ (aM _ _)) hBD;have hr0:=qW hA0 h.rk.D h0;have hr1:vY A e.rk m∣D:=bR (gC _ _) hr;have h1v:=QW (k:=1) jj;refine⟨?_,λp hp=>?_⟩
 .exact Lc (R:=1) hA0 hD hA h.rk (by have:=hb.rn;omega) hB hm h0 h1 jj kd ⟨1,by grind⟩ jj h1v
 .have hg:=nI h.nn h0 p;have hgD:=Xv hA0 hB0 hAB h hm h0 p;have hgl:=aie h hb h0 hp;have hR:=Jj h.nn h0 p;have hRD:=ab9 hA0 h h0 p;have hRl:=arh h hb h0 hp;have hd:vY A e.rk m*vY A p.2 (kY e m p)∣D:=by refine bR ?_ (bR (gC _ _) hBD);exact cE _ (Dy A e m hp)
  exact⟨Lc hA0 hD hA (h.ps p hp) (hb.p p hp).2.2 hr hgD hg hgl hr0 hd hRD hR hRl,(qX hD hr1 hRD hR hRl).sz hD (by grind[vk])⟩
end
section
variable {E:Env} [ZC E] {p:Nat→Prop} {σ:St} {K:V→St→Prop}
def Xy{v:B}{a:gZ}(ha:dX p σ.h v a)(h1:a.length<=1000000)(h2:a.flatten.length<=1000000){v':V}{σ':St}(hm:ahg a.flatten σ=some (v',σ')):aC E 133 [.c v] σ K=K v' σ':=
 QC (by have h:=(alP ha h1 h2).trans hm;unfold WO;rw[abv rfl];unfold alR ahj;simp only[Nat.reduceEqDiff,reduceIte,h])
def QX{v:B}{a:gZ}(ha:dX p σ.h v a)(h1:a.length<=1000000)(h2:a.flatten.length<=1000000){v':V}{σ':St}(hm:ahf (vV a) σ=some (v',σ')):aC E 91 [.agg [v]] σ K=K v' σ':=
 QC (by have h:=(alO ha h1 h2).trans hm;unfold WO;rw[abv rfl];unfold alR ahj;simp only[Nat.reduceEqDiff,reduceIte,h])
end
def QY{E:Env}[ZC E]{σ:St}(hW:WF σ){p:Nat->Prop}{v:B}{a:gZ}(ha:dX p σ.h v a)(h1:a.length<=1000000)(h2:a.flatten.length<=1000000):
  aC E 91 [.agg [v]] σ λr σ'=>(∃u,r=.c u/\kZ σ'.h u (vV a).length (λi=>[.int .i64 (ix (vV a) i)]) 1 3 σ.aj σ'.aj)/\Fr σ σ':=by
 by_cases h0:(vV a).length=0
 .rw[QX ha h1 h2 (v':=.c .aV) (σ':=σ) (ab h0)]
  exact⟨⟨_,rfl,.inl ⟨h0,rfl⟩⟩,Fr.refl hW⟩
 .rw[QX ha h1 h2 (ae h0)]
  exact⟨⟨_,rfl,.inr ⟨jb,_,rfl,aA _ _ _,jp,bN _⟩⟩,fr⟩
def amx{a:gZ}{n:Nat}(ha:∀t∈a,∀x∈t,x.k=-1\/0<=x.k/\x.k<n){i:Nat}(hi:i<(vV a).length):B.int .i64 (ix (vV a) i)=PN (lZ a) i:=by unfold PN lZ;rw[rZ Int.toNat hi];have:=tX ha _ (lM hi);grind
def Ox(a:gZ):(lZ a).length=(vV a).length:=bz _
structure TS(σ:St)(tb bs:Nat)(t:dO):Prop where
 b:σ.h tb=some ⟨jK (aU t.length bs) (aW t),none⟩
 o:Oo σ.h bs t
 lo:tb<bs
 hi:t.length=0\/bs<σ.aj
def TS.lt{σ:St}(hW:WF σ){tb bs:Nat}{t:dO}(h:TS σ tb bs t):tb<σ.aj:=hW.lt h.b
def TS.on{σ σ':St}{tb bs:Nat}{t:dO}(h:TS σ tb bs t)(h1:∀b,tb<=b->b<σ.aj->σ'.h b=σ.h b)(hW:WF σ)(hle:σ.aj<=σ'.aj):TS σ' tb bs t:=by have h0:=h.lt hW;have hlo:=h.lo;have hhi:=h.hi;refine⟨by rw[h1 tb jp h0];exact h.b,?_,hlo,jb⟩;refine(vU ?_).trans h.o;grind
theorem TS.fr{σ σ':St}{tb bs:Nat}{t:dO}(h:TS σ tb bs t)(hW:WF σ)(hf:Fr σ σ'):TS σ' tb bs t:=h.on (λb _ hb=>hf.old b hb) hW hf.le
def TS.fre{σ σ':St}{ex:List Nat}{tb bs:Nat}{t:dO}(h:TS σ tb bs t)(hW:WF σ)(hf:aT ex σ σ')(hx:∀b∈ex,b<tb):TS σ' tb bs t:=h.on (λb h1 h2=>hf.old b h2 λhm=>by grind) hW hf.le
def aah{σ:St}(hW:WF σ){tb bs:Nat}{t:dO}(hT:TS σ tb bs t)(hl:t.length<=1000000)(k:Int)(q:Rat)(hs:Sz (aW t))(hq:Sz q):
  aC EN 93 [.c (.ptr tb 0),.c (.int .i64 k),.agg [.bool (rn q),.str (rs q),.str (rd q)]] σ λ_ σ'=>(∃bs',TS σ' tb bs' (t++[(k,q)]))/\(∀b,b<tb->σ'.h b=σ.h b)/\WF σ'/\σ.aj<=σ'.aj:=by
 have h0:=hT.lo
 have hlt:=hT.lt hW
 have:=ah3 (G:=λ_=>jK (aU t.length bs) (aW t)) (n:=1) (r:=0) hW (by rw[hT.b];rfl) jj (λ_=>rfl) rfl rfl rfl hT.o (.inr jb) hT.hi hl k q hs hq
 refine this.mono ?_
 rintro _ σ' ⟨nx,h1,h2,h3,h4,h5⟩
 have hle:=h5.le
 refine⟨⟨nx,?_,?_,jb,.inr h2⟩,λb hb=>h5.old b jb kd,h5.wf,hle⟩
 .rw[h3,QT,az];rfl
 .unfold Oo
  rw[az,bY]
  show σ'.h nx=some _
  grind[Go.Proofs.Xe.jI,Go.Proofs.Xe.bF,Go.Proofs.Xe.iT,Go.Proofs.Xe.gB,Go.Proofs.Xe.gy]
def amy(U:Nat->B)(Lf:Nat->dO)(p:Nat->Prop)(h:Tr Bk)(i:Nat):Prop:=bf p h 4 (U i) (Lf i).length λc=>zO (ix (Lf i) c)
def Xz(U:Nat->B)(Lf:Nat->dO)(i:Nat):List B:=jK (U i) (aW (Lf i))
abbrev aai(U:Nat->B)(Lf:Nat->dO)(h:Tr Bk)(b n lo hi:Nat):Prop:=NF (amy U Lf) h b n (Xz U Lf) 4 157 lo hi
def UG(U:Nat->B)(Lf:Nat->dO)(j:Nat):QK (amy U Lf) j:=λ_ _ _ _ hp hk hq=>bf.keep hp hk hq
def UH(U:Nat->B)(Lf:Nat->dO):LG (Xz U Lf) 4:=λ_=>rfl
section
variable {U:Nat→B} {Lf:Nat→dO} {h h' : Tr Bk} {b n lo hi:Nat}
def aai.push(ho:aai U Lf h b n lo hi){σ1:St}(hW:WF σ1){tb bs nx n':Nat}{t:dO}(hL:Lf n=t)(hT:TS σ1 tb bs t)(ht:hi<=tb)(h5:lo<=hi)(hh:∀b,lo<=b->b<hi->σ1.h b=h b)(h3:σ1.aj<=nx)(h4:nx<n')
  (hb:h' nx=some ⟨bD n (Xz U Lf)++jK (aU t.length bs) (aW t),some (4,157)⟩) (hk:∀c,lo<=c->c<σ1.aj->n=0\/c≠b->h' c=σ1.h c):aai (aO U n (aU t.length bs)) Lf h' nx (n+1) lo n':=by
 have hlt:=hT.lt hW
 have hlo:=hT.lo
 have hx:bf (λb=>hi<=b/\b<σ1.aj) σ1.h 4 (aU t.length bs) t.length λj=>zO (ix t j):=hT.o.hlp (by rcases hT.hi with h0|h0;exact .inl h0;omega)
 refine NF.push ho (λj _=>UG _ Lf j) (λj hj p h hq=>?_) (hi1:=σ1.aj) (h1:=σ1.h) ?_ hh jb h3 h4 h5 hb ?_ hk (λi hi=>?_) (UH _ _)
 .grind[amy,aP]
 .grind[amy,aN]
 .grind[Xz,aN]
 grind[Xz,aP]
def aai.ari(ho:aai U Lf h b n lo hi){l:fU}(hl:l.length=n)(hL:∀i,i<n->Lf i=ix l i):yD (λb=>lo<=b/\b<hi) h (aU n b) l:=by
 have hel:=λi (hi:i<n)=>ho.el (λj _=>UG U Lf j) hi;refine⟨U,?_,by cases n<;>trivial,λi hi=>?_⟩
 .rw[hl];refine(ho.hlp jj (λi hi=>?_) λb h1 h2=>⟨h1,h2⟩).congr λi hi=>by grind[Xz]
  unfold Xz jK;simp only[cG,dC,vT,Ai,(hel i hi).kn,cW]
 .rw[hl]at hi;rw[<-hL i hi];exact hel i hi
end
def lsS(cs:List C5)(a:gZ)(j:Nat):(Nat->Rat)×fU:=(a.take j).foldl ltS ((λi:Nat=>(ix cs i).a.q),[])
def AL(f:Nat->Rat)(t:J7)(l:Nat):(Nat->Rat)×dO:=(t.take l).foldl lpS (f,[])
theorem Oy{cs:List C5}{a:gZ}{j:Nat}(h:j<a.length):lsS cs a (j+1)=ltS (lsS cs a j) (ix a j):=by grind[lsS,bJ]
def Io(cs:List C5)(a:gZ):lsS cs a a.length=lsA cs a:=by grind[lsS,lsA]
def AP(cs:List C5)(a:gZ):∀j,j<=a.length->(lsS cs a j).2.length=j
 |0,_=>rfl
 |j+1,h=>by rw[Oy jb];unfold ltS;rw[az,AP cs a j jb];rfl
def aaj{α:Type}[Inhabited α]{l:List α}{x:α}{n:Nat}(h:l.length=n):ix (l++[x]) n=x:=by grind[gB]
def qZ(m k:Nat)(F:Nat->Rat):bZ m (aO (λi=>if i<k then F i else 0) k (F k))=bZ m λi=>if i<k+1 then F i else 0:=dN λi _=>by grind[aO]
def yF(m:Nat)(F:Nat->Rat):bZ m (λi=>if i<m then F i else 0)=bZ m F:=dN λi hi=>ab hi
def xK(m:Nat)(F:Nat->Rat):bZ m (λ_=>0)=bZ m λi=>if i<0 then F i else 0:=dN λi _=>rfl
def aik{s:(Nat->Rat)×dO}{x:Am}{kk:Nat}(h1:¬x.k=-1)(hk:x.k=Int.ofNat kk):lpS s x=(aO s.1 kk (s.1 kk-if x.b=true then jX (s.1 kk) x.a.q else s.1 kk),s.2++[(Int.ofNat kk,if x.b=true then jX (s.1 kk) x.a.q else s.1 kk)]):=by unfold lpS;rw[ae h1,hk];refine Prod.ext ?_ rfl;grind[aO]
def UJ{cs:List C5}{a:gZ}{i:Nat}:∀{j},i<j->j<=a.length->ix (lsS cs a j).2 i=(AL (lsS cs a i).1 (ix a i) (ix a i).length).2
 |j+1,hi,hj=>by
  rw[Oy jb];unfold ltS;by_cases e:i=j
  .subst e;have:=AP cs a i jb;exact(aaj this).trans (by unfold AL;rw[ck])
  .show ix ((lsS cs a j).2++[_]) i=_;rw[gy _ _ (by rw[AP cs a j jb];omega)];exact UJ jb jb
def XA{f:Nat->Rat}{t:J7}{l:Nat}(h:l<t.length):AL f t (l+1)=lpS (AL f t l) (ix t l):=by grind[AL,bJ]
def Ld(f:Nat->Rat)(t:J7):∀l,l<=t.length->(AL f t l).2.length=l
 |0,_=>rfl
 |l+1,h=>by rw[XA jb];unfold lpS;split<;>simp[Ld f t l jb]
def ail{cs:List C5}{a:gZ}{j:Nat}(h:j<a.length):(lsS cs a (j+1)).1=(AL (lsS cs a j).1 (ix a j) (ix a j).length).1:=by grind[Oy,ltS,AL]
def aew(ms:List Nat)(f:Nat->Rat){i:Nat}(h:i<ms.length):yX (ms.take (i+1)) f=yX (ms.take i) f++[(((ix ms i:Nat):Int),f (ix ms i))]:=by grind[yX,bJ]
def ain:∀{l:List Int}{lo hi:Int},l.Pairwise (· < ·)->(∀x∈l,lo<=x/\x<hi)->l.length<=(hi-lo).toNat
 |[],_,_,_,_=>bp _
 |a::l,lo,hi,hp,h=>by
  rw[List.pairwise_cons]at hp;have h1:=h a kc;have:=ain (lo:=a+1) (hi:=hi) hp.2 λx hx=>by grind
  grind
def FU{a:gZ}{n:Nat}(ha:∀t∈a,∀x∈t,x.k=-1\/0<=x.k/\x.k<n):(lZ a).length<=n:=by have:=ain (abq a) (tX ha);rw[Ox];omega
theorem Lh(cs:List C5)(r:Nat):∀k,(BJ cs r k).length<=k
 |0=>cK 0
 |k+1=>by have:=Lh cs r k;unfold BJ;rw[az];split<;>simp<;>omega
section
variable {A n:Nat}
def arj(hA:0<A):PO (FT A) where
 min:=λa b ha hb=>by grind[jX]
 sub:=λa b ha hb=>by
  have h1:=ha.2;have h2:=hb.2;unfold jX;split
  .grind[dU.zero]
  .exact⟨ha.1.sub hb.1,by grind,by grind⟩
 zero:=⟨dU.zero A,aR,Ov⟩
def Oz(hA:BI A){q:Rat}(h:FT A q):Sz q:=by have hU:=FQ (k:=1) jj;have:((1:Nat):Rat)=1:=rfl;exact(qX hA (ie A) h.1 h.2.1 kd).sz hA (by grind[vk])
def UK(hA:BI A){t:dO}(h:zT (FT A) n t)(hl:t.length<=10000):Sz (aW t):=by have hU:=FQ (k:=10000) jj;have h1:=UE h;have h2:(t.length:Rat)<=((10000:Nat):Rat):=br.mpr hl;have h3:=bh h2 Ov;exact(qX hA (ie A) (Dw λp hp=>⟨(h p hp).2.1,(h p hp).2.2.1⟩) (yB λp hp=>(h p hp).2.2.1) kd).sz hA (by grind[vk])
def ark{P:Rat->Prop}(hP:PO P){f:Nat->Rat}(hf:∀i,P (f i)){t:J7}(ht:∀x∈t,PS P n x)(l:Nat):(∀i,P ((AL f t l).1 i))/\zT P n (AL f t l).2:=
 Z9 hP (t.take l) hf (λ_ h=>by cases h) λx hx=>ht x (di hx)
def arl{P:Rat->Prop}(hP:PO P){cs:List C5}(hc:∀i,P (ix cs i).a.q){a:gZ}(ha:∀t∈a,∀x∈t,PS P n x)(j:Nat)(i:Nat):P ((lsS cs a j).1 i):=
 (aac hP (a.take j) hc (λ_ h=>by cases h) λt ht=>ha t (di ht)).1 i
end
def arn(p q:Rat):I8 p q=jX p q:=by
 unfold I8 jX;by_cases h:p<=q
 .rw[ab h,ab (vP.mpr h)]
 .rw[ae h,ae λe=>h (vP.mp e)]
structure QZ(A:Nat)(cs:List C5)(a:gZ):Prop where
 nc:cs.length<=1000
 na:a.length<=1000
 nt:∀t,t<a.length->(ix a t).length<=1000
 nf:a.flatten.length<=1000000
 fc:∀i,i<cs.length->(ix cs i).a.fits 1000000
 fp:∀t,t<a.length->∀l,l<(ix a t).length->(ix (ix a t) l).a.fits 1000000
 c:∀i,FT A (ix cs i).a.q
 p:∀t∈a,∀x∈t,PS (FT A) cs.length x
end Go.Proofs.Xe
