import Derived.Test.YtchhojplceoifaaGreatDoorYf28
set_option linter.all false
namespace Go.Proofs.Ins
def kH(a:fD):List Nat:=(xB a).map Int.toNat
def Cb(cs:List C5)(r:Nat):Nat->dJ
 |0=>[]
 |k+1=>Cb cs r k++if(ix cs k).r=(r:Int)then [((k:Int),(ix cs k).a.q)]else []
def QT(cs:List C5)(k:Nat):fU:=(List.range 8).map λr=>Cb cs r k
def Nc(s:(Nat->Rat)×dJ)(x:yw):(Nat->Rat)×dJ:=
 if x.k=-1 then(s.1,s.2++[((-1:Int),x.a.q)])
 else((λi=>if i=x.k.toNat then s.1 i-(if x.b=true then kF (s.1 x.k.toNat) x.a.q else s.1 x.k.toNat)else s.1 i),s.2++[(x.k,if x.b=true then kF (s.1 x.k.toNat) x.a.q else s.1 x.k.toNat)])
def ltS(s:(Nat->Rat)×fU)(t:IL):(Nat->Rat)×fU:=((t.foldl Nc (s.1,[])).1,s.2++[(t.foldl Nc (s.1,[])).2])
def lsA(cs:List C5)(a:fD):(Nat->Rat)×fU:=a.foldl ltS ((λi:Nat=>(ix cs i).a.q),[])
def wP(ms:List Nat)(f:Nat->Rat):dJ:=ms.map λi:Nat=>((i:Int),f i)
def qc(cs:List C5)(a:fD):List Nat×fU:=(kH a,(lsA cs a).2++[wP (kH a) (lsA cs a).1])
def bY(e:vP):fA:=⟨QT e.c e.c.length,e.a.map (qc e.c)⟩
structure Rq(P:Rat->Prop):Prop where
 min:∀a b,P a->P b->P (kF a b)
 sub:∀a b,P a->P b->P (a-kF a b)
 zero:P 0
def Rt(P:Rat->Prop)(n:Nat)(x:yw):Prop:=(x.k=-1\/0<=x.k/\x.k<n)/\((x.k=-1\/x.b=true)->P x.a.q)
def Bg(P:Rat->Prop)(n:Nat)(t:dJ):Prop:=∀p∈t,(p.1=-1\/0<=p.1/\p.1<n)/\P p.2
section
variable {P:Rat→Prop} {n:Nat}
def Bg.snoc{t:dJ}(h:Bg P n t){p:Int×Rat}(h1:p.1=-1\/0<=p.1/\p.1<n)(h2:P p.2):Bg P n (t++[p]):=λq hq=>by
 rcases ce.mp hq with hq|hq
 .exact h q hq
 grind
def axy(hP:Rq P){s:(Nat->Rat)×dJ}(h1:∀i,P (s.1 i))(h2:Bg P n s.2){x:yw}(hx:Rt P n x):(∀i,P ((Nc s x).1 i))/\Bg P n (Nc s x).2:=by
 unfold Nc;by_cases e:x.k=-1
 .rw[ae e];exact⟨h1,h2.snoc (.inl rfl) (hx.2 (.inl e))⟩
 .rw[ab e];dsimp only;have self:P (s.1 x.k.toNat-s.1 x.k.toNat):=by rw[show s.1 x.k.toNat-s.1 x.k.toNat=0 by grind];exact hP.zero
  refine⟨λi=>?_,h2.snoc hx.1 ?_⟩
  .split
   .next e2=>
    rw[e2];split
    .next hb=>exact hP.sub _ _ (h1 _) (hx.2 (.inr hb))
    omega
   grind
  .dsimp only;split
   .next hb=>exact hP.min _ _ (h1 _) (hx.2 (.inr hb))
   grind
def abC(hP:Rq P):∀(t:IL){s:(Nat->Rat)×dJ},(∀i,P (s.1 i))->Bg P n s.2->(∀x∈t,Rt P n x)->(∀i,P ((t.foldl Nc s).1 i))/\Bg P n (t.foldl Nc s).2
 |[],_,h1,h2,_=>⟨h1,h2⟩
 |x::t,s,h1,h2,h=>by obtain⟨h3,h4⟩:=axy hP h1 h2 (h x kc);exact abC hP t h3 h4 λy hy=>h y (by simp[hy])
def yO(P:Rat->Prop)(n:Nat)(l:fU):Prop:=∀t∈l,Bg P n t
def yO.snoc{l:fU}(h:yO P n l){t:dJ}(ht:Bg P n t):yO P n (l++[t]):=λu hu=>by
 rcases ce.mp hu with hu|hu
 .exact h u hu
 grind
def abD(hP:Rq P):∀(a:fD){s:(Nat->Rat)×fU},(∀i,P (s.1 i))->yO P n s.2->(∀t∈a,∀x∈t,Rt P n x)->(∀i,P ((a.foldl ltS s).1 i))/\yO P n (a.foldl ltS s).2
 |[],_,h1,h2,_=>⟨h1,h2⟩
 |t::a,s,h1,h2,h=>by obtain⟨h3,h4⟩:=abC hP t (s:=(s.1,[])) h1 (λ_ h=>by cases h) (h t kc);exact abD hP a (s:=ltS s t) h3 (h2.snoc h4) λu hu=>h u (by simp[hu])
def ajT(hP:Rq P){cs:List C5}{a:fD}(hc:∀i,P (ix cs i).a.q)(ha:∀t∈a,∀x∈t,Rt P n x):(∀i,P ((lsA cs a).1 i))/\yO P n (lsA cs a).2:=abD hP a hc (λ_ h=>by cases h) ha
def vH{a:fD}(ha:∀t∈a,∀x∈t,x.k=-1\/0<=x.k/\x.k<n):∀c∈xB a,0<=c/\c<n:=λc hc=>by obtain⟨h1,h2⟩:=sD.mp hc;obtain⟨t,ht,hm⟩:=dy.mp h2;obtain⟨x,hx,e⟩:=dy.mp hm;grind
def vU{a:fD}(ha:∀t∈a,∀x∈t,x.k=-1\/0<=x.k/\x.k<n){i:Nat}:i∈kH a↔OU a (i:Int)=true:=by
 unfold kH;rw[cW];constructor
 .rintro⟨c,hc,rfl⟩;have h1:=vH ha c hc;rw[eQ h1.1];exact(sD.mp hc).2
 .intro h;exact⟨i,sD.mpr ⟨jb,h⟩,by simp⟩
def G8{a:fD}(ha:∀t∈a,∀x∈t,x.k=-1\/0<=x.k/\x.k<n):(kH a).Nodup:=by unfold kH;rw[iN,List.pairwise_map];refine List.Pairwise.imp_of_mem (λ{x y} hx hy h=>?_) (acY a);have:=vH ha x hx;omega
def adN(hP:Rq P){cs:List C5}{a:fD}(hc:∀i,P (ix cs i).a.q)(ha:∀t∈a,∀x∈t,Rt P n x):yO P n (qc cs a).2:=by obtain⟨h1,h2⟩:=ajT hP hc ha;refine h2.snoc λp hp=>?_;unfold wP at hp;obtain⟨i,hi,rfl⟩:=cW.mp hp;have:=(vU λt ht x hx=>(ha t ht x hx).1).mp hi;have h3:=vH (a:=a) (λt ht x hx=>(ha t ht x hx).1) i (sD.mpr ⟨jb,this⟩);grind
def PX{cs:List C5}(hc:∀i,i<cs.length->P (ix cs i).a.q)(r:Nat):∀k,k<=cs.length->∀p∈Cb cs r k,(0<=p.1/\p.1<cs.length)/\P p.2
 |0,_,p,hp=>by cases hp
 |k+1,hk,p,hp=>by
  unfold Cb at hp;rcases ce.mp hp with hp|hp
  .exact PX hc r k jb p hp
  grind
end
end Go.Proofs.Ins
namespace Go.Proofs.Xe
open Go.RowKit Go.Proofs.Ins
def dX(D:Nat)(q:Rat):Prop:=∃a:Int,q=(a:Rat)/(D:Rat)
theorem iI{D:Nat}(h:0<D):(D:Rat)≠0:=λe=>by simp_all
section
variable {A B D:Nat} {p q x s:Rat}
theorem dX.zero(D:Nat):dX D 0:=⟨0,by grind⟩
theorem dX.add(h:dX D p)(h':dX D q):dX D (p+q):=by obtain⟨a,rfl⟩:=h;obtain⟨b,rfl⟩:=h';exact⟨a+b,by grind⟩
def dX.neg(h:dX D p):dX D (-p):=by obtain⟨a,rfl⟩:=h;exact⟨-a,by grind⟩
def dX.sub(h:dX D p)(h':dX D q):dX D (p-q):=by rw[gO];exact h.add h'.neg
def dX.up(h:dX A p){k:Nat}(hk:0<k):dX (A*k) p:=by
 obtain⟨a,rfl⟩:=h;refine⟨a*k,?_⟩;have h1:=iI hk;have e2:((a*(k:Int):Int):Rat)=(a:Rat)*(k:Rat):=by rw[dc];rfl
 grind
def dX.dvd(h:dX A p)(hd:A∣B)(hB:0<B):dX B p:=by obtain⟨k,rfl⟩:=hd;exact h.up (fg λe=>by grind)
theorem dX.sum{α:Type}{f:α->Rat}:∀{l:List α},(∀a∈l,dX D (f a))->dX D (aJ l f)
 |[],_=>dX.zero D
 |a::l,h=>(h a kc).add (dX.sum λb hb=>h b (by simp[hb]))
def nuA(A:Nat)(s:Rat):Nat:=(s*A).num.natAbs
def VX(hA:0<A)(hs:dX A s)(h0:0<s):s=(nuA A s:Rat)/(A:Rat)/\0<nuA A s:=by
 obtain⟨u,rfl⟩:=hs;have hA:=iI hA;have e:(u:Rat)/(A:Rat)*(A:Rat)=(u:Rat):=by grind
 unfold nuA;rw[e,Rat.num_intCast];have hu:0<u:=by
  have h1:(0:Rat)<=(A:Rat):=by grind
  have h2:=Rat.mul_pos h0 (show(0:Rat)<(A:Rat) by grind);rw[e]at h2;exact Rat.intCast_pos.mp h2
 have e2:((u.natAbs:Nat):Rat)=(u:Rat):=by
  have:((u.natAbs:Int):Rat)=(u:Rat):=by grind
  exact this
 grind
def dX.share(hA:0<A)(hB:0<B)(hp:dX A p)(hx:dX B x)(hs:dX A s)(h0:0<s):dX (B*nuA A s) (p*(x/s)):=by obtain⟨e,hn⟩:=VX hA hs h0;obtain⟨c,rfl⟩:=hp;obtain⟨z,rfl⟩:=hx;generalize nuA A s=n at*;refine⟨c*z,?_⟩;grind
def Zk.of(hD:0<D)(h:dX D q)(h1:0<=q)(h2:q<=((256^uK:Nat):Rat)):Zk D 1 q:=by
 obtain⟨a,rfl⟩:=h;refine⟨a,rfl,?_⟩;have hD':=iI hD;have h3:(0:Rat)<(D:Rat):=by grind
 have e:(a:Rat)/(D:Rat)*(D:Rat)=(a:Rat):=by grind
 have h4:=bj h2 (eo h3);have h5:=cf h1 (eo h3);rw[e]at h4 h5;rw[<-eV]at h4;have h4:((a:Int):Rat)<=(((256^uK*D:Nat):Int):Rat):=h4;have h4:=fY.mp h4;have h5:=Rat.intCast_nonneg.mp h5;grind
end
def xH(A:Nat)(l:fU)(m:Rat):Nat:=if dR l m<l.length then nuA A (aW (ix l (dR l m)))else 1
def LV(A:Nat)(l:fU):Prop:=∀t∈l,∀p∈t,dX A p.2/\0<=p.2
section
variable {A B:Nat} {l:fU} {m:Rat}
def Ep{t:dJ}(h:∀p∈t,dX A p.2/\0<=p.2):dX A (aW t):=by
 induction t with
 |nil=>exact dX.zero A
 |cons p t ih=>exact(h p kc).1.add (ih λq hq=>h q (by simp[hq]))
def abE{t:dJ}(h:∀p∈t,dX A p.2/\0<=p.2)(c:Int):dX A (gB t c):=by
 induction t with
 |nil=>exact dX.zero A
 |cons p t ih=>
  refine dX.add ?_ (ih λq hq=>h q (by simp[hq]))
  grind[dX.zero]
def LV.nn(h:LV A l):La l:=λt ht p hp=>(h t ht p hp).2
def ajU(h:LV A l)(k:Nat):dX A (Dc l k):=by
 unfold Dc;have:∀l:fU,LV A l->dX A (jF l):=λl=>by
  induction l with
  |nil=>intro _;exact dX.zero A
  |cons t l ih=>intro h;exact(Ep (h t kc)).add (ih λu hu=>h u (by simp[hu]))
 exact this _ λt ht=>h t (et ht)
def atP(h:LV A l)(c:Int):dX A (jM l c):=by
 induction l with
 |nil=>exact dX.zero A
 |cons t l ih=>exact(abE (h t kc) c).add (ih λu hu=>h u (by simp[hu]))
def Bh(hm:0<=m)(hf:dR l m<l.length):0<aW (ix l (dR l m)):=by have:=VQ l m hm;grind
def tJ(hA:0<A)(h:LV A l)(hm:0<=m):0<xH A l m:=by
 unfold xH;split
 .next hf=>exact(VX hA (Ep (h _ (gJ hf))) (Bh hm hf)).2
 .omega
def abG(hA:0<A)(hB:0<B)(hd:A∣B)(h:LV A l)(hm:dX B m):dX B (jL l m):=by rw[PN];exact hm.sub ((ajU h _).dvd hd hB)
def ajV(hA:0<A)(h:LV A l)(h0:0<=m){R:Nat}(hR:0<R){x:Rat}(hx:dX R x)(hf:dR l m<l.length){q:Rat}(hq:dX A q):dX (R*xH A l m) (q*(x/aW (ix l (dR l m)))):=by unfold xH;rw[ae hf];exact dX.share hA hR hq hx (Ep (h _ (gJ hf))) (Bh h0 hf)
def aqA(hA:0<A)(hB:0<B)(hd:A∣B)(h:LV A l)(hm:dX B m)(h0:0<=m)(c:Int):dX (B*xH A l m) (iw l m c):=by
 have hc:=tJ hA h h0;rw[J9];refine dX.add ((atP (λt ht=>h t (et ht)) c).dvd (bN hd (aR _ _)) (cg hB hc)) ?_;split
 .next hf=>exact ajV hA h h0 hB (abG hA hB hd h hm) hf (abE (h _ (gJ hf)) c)
 .exact dX.zero _
def aqB(hA:0<A)(h:LV A l)(h0:0<=m){R:Nat}(hR:0<R){x:Rat}(hx:dX R x)(c:Int):dX (R*xH A l m) (kD l m x c):=by
 rw[Fh];split
 .next hf=>exact ajV hA h h0 hR hx hf (abE (h _ (gJ hf)) c)
 .exact dX.zero _
end
def af6(A:Nat)(e:fA)(x:Rat):List (List Nat×fU)->Nat
 |[]=>1
 |p::l=>xH A p.2 (lM e x p)*af6 A e x l
def Df(A:Nat)(e:fA)(x:Rat):Nat:=xH A e.rk x*af6 A e x e.ps
structure ED(A:Nat)(U:Rat)(n:Nat)(e:fA):Prop where
 rk:yO (λq=>dX A q/\0<=q/\q<=U) n e.rk
 ps:∀p∈e.ps,yO (λq=>dX A q/\0<=q/\q<=U) n p.2
section
variable {A B n:Nat} {U m:Rat} {e:fA}
def _root_.Go.Proofs.Ins.yO.D{l:fU}(h:yO (λq=>dX A q/\0<=q/\q<=U) n l):LV A l:=λt ht p hp=>⟨(h t ht p hp).2.1,(h t ht p hp).2.2.1⟩
def ED.nn(h:ED A U n e):BQ e:=⟨h.rk.D.nn,λp hp=>(h.ps p hp).D.nn⟩
def ajW(hA:0<A)(hB:0<B)(hd:A∣B)(h:ED A U n e)(hm:dX B m)(h0:0<=m)(c:Nat):dX (B*xH A e.rk m) (Ag e m c):=aqA hA hB hd h.rk.D hm h0 _
def aqC(hA:0<A)(h:ED A U n e)(h0:0<=m)(c:Nat):dX (xH A e.rk m) (rts e m c):=by have:=aqB (R:=1) hA h.rk.D h0 jj (x:=1) ⟨1,by grind⟩ c;rwa[Nat.one_mul]at this
def Y2(hA:0<A)(hB:0<B)(hd:A∣B)(h:ED A U n e)(hm:dX B m)(h0:0<=m)(p:List Nat×fU):dX (B*xH A e.rk m) (lM e m p):=dX.sum λc _=>ajW hA hB hd h hm h0 c
def adO(hA:0<A)(h:ED A U n e)(h0:0<=m)(p:List Nat×fU):dX (xH A e.rk m) (uh e m p):=dX.sum λc _=>aqC hA h h0 c
def Es(A:Nat)(e:fA)(x:Rat):∀{l:List (List Nat×fU)}{p:List Nat×fU},p∈l->xH A p.2 (lM e x p)∣af6 A e x l
 |q::l,p,h=>by
  rcases bA.mp h with rfl|h
  .exact aR _ _
  .exact bN (Es A e x h) (gC _ _)
def Y3(hA:0<A)(h:ED A U n e)(h0:0<=m):∀{l:List (List Nat×fU)},(∀p∈l,p∈e.ps)->0<af6 A e m l
 |[],_=>Nat.zero_lt_one
 |p::l,hl=>cg (tJ hA (h.ps p (hl p kc)).D (nY h.nn h0 p)) (Y3 hA h h0 λq hq=>hl q (by simp[hq]))
def Jf(hA:0<A)(h:ED A U n e)(h0:0<=m):0<Df A e m:=cg (tJ hA h.rk.D h0) (Y3 hA h h0 λ_ h=>h)
def ajX(hA:0<A)(hB:0<B)(hd:A∣B)(h:ED A U n e)(hm:dX B m)(h0:0<=m)(c:Nat):dX (B*Df A e m) (uy e m c):=by
 have hp:=cg hB (Jf hA h h0);have hp1:=cg hB (tJ hA h.rk.D h0);unfold uy;refine dX.add ?_ (dX.sum λp hp'=>?_)
 .split
  .exact dX.zero _
  .exact(ajW hA hB hd h hm h0 c).dvd (cF _ (aR _ _)) hp
 .refine(aqA hA hp1 (bN hd (aR _ _)) (h.ps p hp').D (Y2 hA hB hd h hm h0 p) (nY h.nn h0 p) c).dvd ?_ hp;rw[fT];exact cF _ (cF _ (Es A e m hp'))
def ajY(hA:0<A)(h:ED A U n e)(h0:0<=m)(c:Nat):dX (Df A e m) (yN e m c):=by
 have hp:=Jf hA h h0;unfold yN;refine dX.add ?_ (dX.sum λp hp'=>?_)
 .split
  .exact dX.zero _
  .exact(aqC hA h h0 c).dvd (aR _ _) hp
 .exact(aqB hA (h.ps p hp').D (nY h.nn h0 p) (tJ hA h.rk.D h0) (adO hA h h0 p) c).dvd (cF _ (Es A e m hp')) hp
end
end Go.Proofs.Xe
namespace Go.Proofs.Ins
def Bj(l:Lg):fZ:=(l.e.toNat,l.k.toNat)
def bI(g:fC):GL:=⟨λi=>bY (ix g.e i),λi=>(ix g.e i).c.length,λi c=>(ix (ix g.e i).c c).h,g.d.map λd=>(d.w.q,d.l.map Bj)⟩
theorem adP{q:Rat}(h:¬sg q<0):0<=q:=by grind[sg]
def aoF:Rq (λq=>0<=q) where
 min:=λa b ha hb=>by grind[kF]
 sub:=λa b ha hb=>by grind[kF]
 zero:=aY
structure EZ(n:Nat)(i:Nat)(e:vP):Prop where
 nc:e.c.length<=24
 na:e.a.length<=12
 m:0<=e.m.q
 c:∀k,k<e.c.length->0<=(ix e.c k).r/\(ix e.c k).r<=7/\0<=(ix e.c k).a.q/\((ix e.c k).h=-1\/0<=(ix e.c k).h/\(ix e.c k).h<n/\(ix e.c k).h≠i)
 a:∀k,k<e.a.length->(ix e.a k).length<=24/\(∀t,t<(ix e.a k).length->(ix (ix e.a k) t).length<=24)/\∀t∈ix e.a k,∀x∈t,Rt (λq=>0<=q) e.c.length x/\(x.k≠-1->AQ e.a k x.k=false)
def axz{e:vP}{n i:Nat}(h:C9 e=0)(hh:∀k,k<e.c.length->¬((n:Int)<=(ix e.c k).h\/(ix e.c k).h=(i:Int))):EZ n i e:=by
 unfold C9 at h;split at h
 .cases h
 next h0=>
 split at h
 .cases h
 next h1=>
 split at h
 .omega
 next h2=>
 have h2:CZ (λi=>OT (ix e.c i)) e.c.length=0:=bz h2;refine⟨jb,jb,adP h1,λk hk=>?_,λk hk=>?_⟩
 .grind[iP,OT,adP]
 .have ha:=iP h k hk;unfold X9 at ha;split at ha
  .cases ha
  next hl=>
  have hl:=DR.mp (by simpa using hl);refine⟨hl.1,hl.2,λt ht x hx=>?_⟩;obtain⟨j,hj,rfl⟩:=aL ht;obtain⟨p,hp,rfl⟩:=aL hx;have hT:=iP ha j hj;unfold asY at hT;rw[dU hj]at hT;have hP:=iP hT p hp;rw[dU hp]at hP;generalize (ix e.a k)[j][p]=x at*;unfold aa2 at hP;split at hP
  .cases hP
  next c1=>
  split at hP
  .cases hP
  next c2=>
  split at hP
  .cases hP
  next c3=>
  split at hP
  .cases hP
  next c4=>
  refine⟨⟨jb,λhq=>?_⟩,λhn=>by grind⟩;grind[adP]
structure GZ(g:fC):Prop where
 ne:g.e.length<=8
 nd:g.d.length<=16
 e:∀i,i<g.e.length->EZ g.e.length i (ix g.e i)
 l:∀d,d<g.d.length->(ix g.d d).l.length<=8/\0<=(ix g.d d).w.q/\∀k,k<(ix g.d d).l.length->∃e j:Nat,ix (ix g.d d).l k=⟨(e:Int),(j:Int)⟩/\e<g.e.length/\j<(ix g.e e).c.length/\IQ (oh g.d d k) (ix (ix g.d d).l k)=false/\holdL g.e (ix (ix g.d d).l k)=holdL g.e (ix (ix g.d d).l 0)
def PY{g:fC}(h:LC g=0):GZ g:=by
 unfold LC at h;split at h
 .cases h
 next h0=>
 split at h
 .omega
 next h1=>
 split at h
 .omega
 next h2=>
 have h1:CZ (λi=>C9 (ix g.e i)) g.e.length=0:=bz h1;have h2:CZ (λi=>CZ (OV g i) (ix g.e i).c.length) g.e.length=0:=bz h2;refine⟨jb,jb,λi hi=>axz (iP h1 i hi) λk hk hx=>?_,λd hd=>?_⟩
 .grind[iP,OV]
 .have hD:=iP h d hd;unfold Ri at hD;split at hD
  .cases hD
  next d0=>
  split at hD
  .cases hD
  next d1=>
  refine⟨jb,adP d1,λk hk=>?_⟩;have hL:=iP hD k hk;unfold aa3 at hL;dsimp only at hL;split at hL
  .cases hL
  next hr=>
  split at hL
  .cases hL
  next hm=>
  split at hL
  .cases hL
  next hh=>
  have hm:IQ (oh g.d d k) (ix (ix g.d d).l k)=false:=by simpa using hm
  have hh:holdL g.e (ix (ix g.d d).l k)=holdL g.e (ix (ix g.d d).l 0):=bz hh;revert hm hh;generalize hx:ix (ix g.d d).l k=x at*;obtain⟨e,j⟩:=x;dsimp only at hr;intro hm hh;refine⟨e.toNat,j.toNat,?_,jb,jb,hm,hh⟩;rw[eQ jb,eQ jb]
def PZ{α β:Type}[Inhabited α](f:α->List β):∀l:List α,(∀k,k<l.length->(f (ix l k)).Nodup/\∀j,j<k->∀x,x∈f (ix l k)->x∉f (ix l j))->(l.flatMap f).Nodup:=by
 intro l;have key:∀k,k<=l.length->(∀k,k<l.length->(f (ix l k)).Nodup/\∀j,j<k->∀x,x∈f (ix l k)->x∉f (ix l j))->((l.take k).flatMap f).Nodup:=by
  intro k;induction k with
  |zero=>simp
  |succ k ih=>
   intro hk h
   rw[bU jb,cR,fS]
   have hs:[ix l k].flatMap f=f (ix l k):=by simp
   rw[hs]
   refine⟨ih jb h,(h k jb).1,λa ha b hb e=>?_⟩
   subst e
   obtain⟨y,hy,hay⟩:=cE.mp ha
   obtain⟨j,hj,rfl⟩:=aL hy
   grind[dU]
 grind[List.take_length]
def Y4{α β:Type}[Inhabited α][Inhabited β](f:α->β){l:List α}{i:Nat}(h:i<l.length):ix (l.map f) i=f (ix l i):=by grind[dU]
section
variable {n i:Nat} {e:vP}
theorem EZ.prt(h:EZ n i e){k:Nat}(hk:k<e.a.length):∀t∈ix e.a k,∀x∈t,x.k=-1\/0<=x.k/\x.k<e.c.length:=λt ht x hx=>(((h.a k hk).2.2 t ht x hx).1).1
def ajZ{α:Type}[Inhabited α]{l:List α}{k:Nat}(h:l.length<=k):ix l k=default:=by grind[ix]
def R3.aqD:(default:R3).q=0:=by rfl
def EZ.amt(h:EZ n i e)(k:Nat):0<=(ix e.c k).a.q:=by
 by_cases hk:k<e.c.length
 .exact(h.c k hk).2.2.1
 .rw[ajZ jb];rfl
def Nh{cs:List C5}{k:Nat}{t:dJ}:t∈QT cs k↔∃r,r<8/\t=Cb cs r k:=by grind[QT]
def Fq(h:EZ n i e):BQ (bY e)/\InE e.c.length (bY e):=by
 have hA:∀k,k<e.a.length->yO (λq=>0<=q) e.c.length (qc e.c (ix e.a k)).2:=λk hk=>adN aoF h.amt λt ht x hx=>((h.a k hk).2.2 t ht x hx).1;refine⟨⟨λt ht p hp=>?_,λp hp t ht q hq=>?_⟩,⟨λt ht p hp=>?_,λp hp t ht q hq=>?_,?_,λi hi=>?_⟩⟩
 .obtain⟨r,-,rfl⟩:=Nh.mp ht;exact(PX (P:=λq=>0<=q) (λi _=>h.amt i) r _ jp p hp).2
 .obtain⟨a,ha,rfl⟩:=cW.mp hp;obtain⟨k,hk,rfl⟩:=aL ha;rw[<-dU hk]at ht;exact(hA k hk t ht q hq).2
 .obtain⟨r,-,rfl⟩:=Nh.mp ht;exact(PX (P:=λq=>0<=q) (λi _=>h.amt i) r _ jp p hp).1
 .obtain⟨a,ha,rfl⟩:=cW.mp hp;obtain⟨k,hk,rfl⟩:=aL ha;rw[<-dU hk]at ht;exact(hA k hk t ht q hq).1
 .show((e.a.map (qc e.c)).flatMap (·.1)).Nodup;rw[iu];refine PZ (λa=>(qc e.c a).1) e.a λk hk=>⟨G8 (h.prt hk),λj hj x hx hx2=>?_⟩
  have h1:=(vU (h.prt hk)).mp hx;have h2:=(vU (h.prt (by omega:j<e.a.length))).mp hx2;obtain⟨t,ht,hm⟩:=dy.mp h1;obtain⟨y,hy,ey⟩:=dy.mp hm;have ey:y.k=(x:Int):=by grind
  have:=((h.a k hk).2.2 t ht y hy).2 jb;rw[ey]at this;unfold AQ at this;rw[List.any_eq_false]at this;refine this (ix e.a j) ?_ h2;rw[<-Vg (l:=e.a) hj];grind[mX]
 .obtain⟨p,hp,hi⟩:=cE.mp hi;obtain⟨a,ha,rfl⟩:=cW.mp hp;obtain⟨k,hk,rfl⟩:=aL ha;rw[<-dU hk]at hi;have h1:=(vU (h.prt hk)).mp hi;have:=vH (h.prt hk) i (sD.mpr ⟨jb,h1⟩);omega
end
def atQ{g:fC}(h:GZ g):LU g.e.length (bI g):=by
 refine⟨λi hi=>(Fq (h.e i hi)).1,λi hi=>(Fq (h.e i hi)).2,λi c hi hc=>?_,λl hl=>?_,?_,λd hd=>?_⟩
 .have:=((h.e i hi).c c hc).2.2.2;show(ix (ix g.e i).c c).h=-1\/0<=(ix (ix g.e i).c c).h/\(ix (ix g.e i).c c).h<(g.e.length:Int);omega
 .obtain⟨d,hd,hl⟩:=cE.mp hl;obtain⟨d',hd',rfl⟩:=cW.mp hd;obtain⟨j,hj,rfl⟩:=aL hd';obtain⟨x,hx,rfl⟩:=cW.mp hl;rw[<-dU hj]at hx;obtain⟨k,hk,rfl⟩:=aL hx;obtain⟨a,b,e1,h1,h2,-⟩:=(h.l j hj).2.2 k hk;rw[<-dU hk,e1];exact⟨h1,h2⟩
 .show((g.d.map λd=>(d.w.q,d.l.map Bj)).flatMap (·.2)).Nodup;rw[iu];have key:∀d,d<g.d.length->∀k,k<(ix g.d d).l.length->∀y∈oh g.d d k,(0<=y.e/\0<=y.k)->Bj y≠Bj (ix (ix g.d d).l k):=λd hd k hk y hy hn e=>by obtain⟨a,b,e1,h1,h2,h3,-⟩:=(h.l d hd).2.2 k hk;grind[Go.Proofs.Ins.IQ,Go.Proofs.Ins.Bj]
  have nn:∀d,d<g.d.length->∀y∈(ix g.d d).l,0<=y.e/\0<=y.k:=λd hd y hy=>by obtain⟨k,hk,rfl⟩:=aL hy;obtain⟨a,b,e1,-⟩:=(h.l d hd).2.2 k hk;grind[dU]
  refine PZ (λd:qx=>d.l.map Bj) g.d λd hd=>⟨?_,λj hj x hx hx2=>?_⟩
  .have:(List.range (ix g.d d).l.length).Pairwise (· < ·):=List.pairwise_lt_range;rw[iN,List.pairwise_map,ja];intro a b ha hb hab;have:=key d hd b hb (ix (ix g.d d).l a) (List.mem_append_right _ ?_) ?_
   .grind[dU]
   .rw[<-Vg (l:=(ix g.d d).l) hab];grind[mX]
   grind[mX]
  .obtain⟨y,hy,rfl⟩:=cW.mp hx;obtain⟨z,hz,e⟩:=cW.mp hx2;obtain⟨k,hk,rfl⟩:=aL hy;rw[<-dU hk]at e;refine key d hd k hk z (it _ (cE.mpr ⟨ix g.d j,?_,hz⟩)) (nn j jb z hz) e;rw[<-Vg (l:=g.d) hj];grind[mX]
 .obtain⟨d',hd',rfl⟩:=cW.mp hd;obtain⟨j,hj,rfl⟩:=aL hd';rw[<-dU hj];exact(h.l j hj).2.1
end Go.Proofs.Ins
namespace Go.Proofs.Xe
open Go.RowKit Go.Proofs.Ins
def vQ:Rat:=((256^uK:Nat):Rat)
def uQ:Rat:=((256^900:Nat):Rat)
def P6:0<=uQ:=by have:((0:Nat):Rat)<=((256^900:Nat):Rat):=bw.mpr (br _);exact this
def pow_two{a b c:Nat}(h:a+b=c):256^a*256^b=256^c:=by rw[<-h,eg]
def G9{k:Nat}(h:k<=256^100):(k:Rat)*uQ<=vQ:=by
 unfold uQ vQ;rw[<-eV];refine bw.mpr ?_;calc k*256^900<=256^100*256^900:=bp _ h
  _=256^uK:=pow_two (show 100+900=uK from rfl)
def P7{k:Nat}(h:k<=256^100):(k:Rat)<=vQ:=by unfold vQ;exact bw.mpr (ap h (bB jj jj))
abbrev Jg(A:Nat)(q:Rat):Prop:=dX A q/\0<=q/\q<=uQ
section
variable {A n:Nat} {l:fU}
def VY{t:dJ}(h:Bg (Jg A) n t):aW t<=(t.length:Rat)*uQ:=by
 induction t with
 |nil=>show(0:Rat)<=_;simp
 |cons p t ih=>
  have h1:=ih λq hq=>h q (by simp[hq])
  have h2:=(h p kc).2.2.2
  rw[bL,gc]
  grind[aW]
def OW:∀{l:fU},yO (Jg A) n l->jF l<=(dH l:Rat)*uQ
 |[],_=>by show(0:Rat)<=((0:Nat):Rat)*uQ;simp
 |t::l,h=>by have h1:=OW (l:=l) λu hu=>h u (by simp[hu]);have h2:=VY (h t kc);show aW t+jF l<=((t.length+dH l:Nat):Rat)*uQ;grind
theorem Ak:∀{l:fU},La l->0<=jF l
 |[],_=>aY
 |t::l,h=>by have:=Ak (l:=l) λu hu=>h u (by simp[hu]);have:=zL (h t kc);show 0<=aW t+jF l;grind
def aj0:∀{l:fU}{j:Nat},La l->j<l.length->aW (ix l j)<=jF l
 |t::l,0,h,_=>by have:=Ak (l:=l) λu hu=>h u (by simp[hu]);show aW t<=aW t+jF l;grind
 |t::l,j+1,h,hj=>by have:=aj0 (l:=l) (j:=j) (λu hu=>h u (by simp[hu])) (by simpa using hj);have:=zL (h t kc);show aW (ix l j)<=aW t+jF l;grind
theorem abH:∀{l:fU}(k:Nat),La l->0<=Dc l k/\Dc l k<=jF l
 |[],k,h=>by unfold Dc;rw[List.take_nil];exact⟨aY,aY⟩
 |t::l,0,h=>⟨aY,Ak h⟩
 |t::l,k+1,h=>by obtain⟨h1,h2⟩:=abH (l:=l) k λu hu=>h u (by simp[hu]);have:=zL (h t kc);unfold Dc at h1 h2⊢;rw[fo];show 0<=aW t+jF _/\aW t+jF _<=aW t+jF l;grind
end
structure EB(n:Nat)(e:fA):Prop where
 nb:n<=1000
 r0:0<e.rk.length
 r1:e.rk.length<=1000
 rn:dH e.rk<=1000
 ps:e.ps.length<=1000
 m:∀p∈e.ps,p.1.length<=1000/\∀i∈p.1,i<n
 p:∀p∈e.ps,0<p.2.length/\p.2.length<=1000/\dH p.2<=10000
section
variable {A B R D n:Nat} {l:fU} {m x:Rat}
theorem pF(hD:CY D)(hB:B∣D){q:Rat}(h:dX B q)(h0:0<=q)(h1:q<=vQ):Zk D 1 q:=Zk.of hD.1 (h.dvd hB hD.1) h0 h1
theorem qP:2<=256^uK:=ap (by decide:2<=256^1) (bB jj jj)
def Fv:∀{l:fU}{t:dJ},t∈l->t.length<=dH l
 |u::l,t,h=>by
  unfold dH;rcases bA.mp h with rfl|h
  .omega
  .have:=Fv h;omega
def Y5(hD:CY D)(hA:A∣D)(h:yO (Jg A) n l)(hl:l.length<=1000)(hn:dH l<=10000):PO D n l:=by
 have hU:=G9 (k:=10000) jj;have hU1:=G9 (k:=1) jj;have hz:∀t∈l,∀p∈t,Zk D 1 p.2:=λt ht p hp=>by have:=(h t ht p hp).2;grind[Go.Proofs.Xe.pF]
 refine⟨jb,λt ht=>by have:=Fv ht;omega,λt ht=>?_,λt ht p hp=>(h t ht p hp).1,λt ht p hp=>(hz t ht p hp).sz hD (by grind[qP]),hz⟩;have h1:=VY (h t ht);have h2:(t.length:Rat)<=((10000:Nat):Rat):=bw.mpr (by have:=Fv ht;omega);have h3:=bj h2 P6;refine(pF hD hA (Ep λp hp=>⟨(h t ht p hp).2.1,(h t ht p hp).2.2.1⟩) (zL λp hp=>(h t ht p hp).2.2.1) kd).sz hD (by grind[qP])
def Nj(hA0:0<A)(hD:CY D)(hA:A∣D)(h:yO (Jg A) n l)(hn:dH l<=10000)(hB:B∣D)(hm:dX B m)(h0:0<=m)(h1:m<=vQ)(hR0:0<R)(hR:R*xH A l m∣D)(hx:dX R x)(hx0:0<=x)(hx1:x<=vQ):PS D l m x:=by
 have hnn:=h.D.nn;have hR1:R∣D:=bN (aR _ _) hR;have hU:=G9 (k:=10000) jj;have h2:(dH l:Rat)<=((10000:Nat):Rat):=bw.mpr hn;have h3:=bj h2 P6;have ht:=OW h;have hu:=qP;have hzx:=pF hD hR1 hx hx0 hx1;refine⟨λk _=>?_,h0,hzx.sz hD jb,λhf=>?_,λhf p hp=>?_⟩
 .have hc:=abH k hnn;exact((pF hD hB hm h0 h1).sub (pF hD hA (ajU h.D k) hc.1 kd)).sz hD jb
 .have hs:=Bh h0 hf;have:=aj0 hnn hf;exact hzx.awu (pF hD hA (Ep (h.D _ (gJ hf))) (eo hs) kd) hD jb jb kd
 .have hs:=Bh h0 hf;have hpp:=h.D _ (gJ hf) p hp;have hps:p.2<=aW (ix l (dR l m)):=by
   have:∀t:dJ,(∀q∈t,0<=q.2)->p∈t->p.2<=aW t:=λt=>by
    induction t with
    |nil=>simp
    |cons q t ih=>
     intro hq hp
     show p.2<=q.2+aW t
     have h4:=hq q kc
     have h5:0<=aW t:=zL λr hr=>hq r (by simp[hr])
     grind
   exact this _ (λq hq=>(h.D _ (gJ hf) q hq).2) hp
  have e:p.2*(x/aW (ix l (dR l m)))=x*(p.2/aW (ix l (dR l m))):=by grind
  have h4:=yK hs hps;have h5:=abv hpp.2 hs;have h6:=cT h4 hx0;refine pF hD hR (ajV hA0 h.D h0 hR0 hx hf hpp.1) ?_ ?_
  .grind[Rat.mul_nonneg]
  grind
def left_le(h0:0<=m)(h:La l):0<=jL l m/\jL l m<=m:=by grind[Go.Proofs.Xe.VQ,Go.Proofs.Xe.PN,Go.Proofs.Xe.abH]
def atS{l:fU}(h:La l)(c:Int):∀{m:Rat},0<=m->iw l m c<=jF l:=by
 induction l with
 |nil=>intro m _;rfl
 |cons t l ih=>
  intro m hm
  have hl:=Ak (l:=l) λu hu=>h u (by simp[hu])
  have h2:=MR (h t kc) c
  have h3:=xE (h t kc) c
  unfold iw
  show _<=aW t+jF l
  split
  .next hlt=>
   have h4:=yK (a:=m) (b:=aW t) kd (eo hlt)
   have h5:=cT h4 h3
   grind
  .have:=ih (λu hu=>h u (by simp[hu])) (m:=m-aW t) kd
   grind
def VZ{l:fU}(h:La l)(c:Int){x:Rat}(hx:0<=x)(h0:0<=m):kD l m x c<=x:=by
 rw[Fh];split
 .next hf=>
  have hs:=Bh h0 hf;have hl:=h _ (gJ hf);have e:gB (ix l (dR l m)) c*(x/aW (ix l (dR l m)))=x*(gB (ix l (dR l m)) c/aW (ix l (dR l m))):=by grind
  rw[e];have h4:=yK hs (MR hl c);have h6:=cT h4 hx;grind
 omega
end
section
variable {A B D n:Nat} {m:Rat} {e:fA}
def tK{α:Type}{f:α->Rat}{v:Rat}(h0:0<=v):∀{l:List α}{k:Nat},(∀a∈l,f a<=v)->l.length<=k->aJ l f<=(k:Rat)*v
 |[],k,_,_=>by have:((0:Nat):Rat)<=(k:Rat):=bw.mpr (br _);exact cf this h0
 |a::l,k,h,hk=>by
  obtain⟨k,rfl⟩:∃j,k=j+1:=⟨k-1,by simp at hk;omega⟩
  have h1:=tK h0 (l:=l) (k:=k) (λb hb=>h b (by simp[hb])) (by simpa using hk);have h2:=h a kc;show f a+aJ l f<=_;rw[gc];have:((1:Nat):Rat)=1:=rfl;grind
def aj1(h:ED A uQ n e)(hb:EB n e)(h0:0<=m){p:List Nat×fU}(hp:p∈e.ps):lM e m p<=vQ:=by have ht:=OW h.rk;have h2:(dH e.rk:Rat)<=((1000:Nat):Rat):=bw.mpr hb.rn;have h3:=bj h2 P6;have h4:=tK (f:=Ag e m) (v:=((1000:Nat):Rat)*uQ) (cf (bw.mpr (br 1000)) P6) (l:=p.1) (k:=1000) (λc _=>cM (atS h.rk.D.nn c h0) (cM ht h3)) (hb.m p hp).1;have h5:=G9 (k:=1000*1000) jj;grind[lM]
def atT(h:ED A uQ n e)(hb:EB n e)(h0:0<=m){p:List Nat×fU}(hp:p∈e.ps):uh e m p<=vQ:=by have h4:=tK (f:=rts e m) (v:=1) jj (l:=p.1) (k:=1000) (λc _=>VZ h.rk.D.nn c jj h0) (hb.m p hp).1;have h5:=P7 (k:=1000) jj;grind[uh]
def aj2(hD:CY D)(hA:A∣D)(h:ED A uQ n e)(hb:EB n e):EOk D n e:=by
 have hn:=hb.nb;have hps:=hb.ps;refine⟨jb,Y5 hD hA h.rk hb.r1 (by have:=hb.rn;omega),hb.r0,jb,λp hp=>⟨by have:=(hb.m p hp).1;omega,(hb.m p hp).2⟩,λp hp=>⟨Y5 hD hA (h.ps p hp) (hb.p p hp).2.1 (hb.p p hp).2.2,(hb.p p hp).1⟩,?_⟩;have h1:∀l:List (List Nat×fU),(∀p∈l,dH p.2<=10000)->Jd l<=l.length*10000:=λl=>by
  induction l with
  |nil=>intro _;exact cP 0
  |cons p l ih=>
   grind[Jd]
 have h2:=h1 e.ps λp hp=>(hb.p p hp).2.2;have h3:=hb.rn;grind[uK]
def aj3(hA0:0<A)(hB0:0<B)(hAB:A∣B)(hD:CY D)(hBD:B*Df A e m∣D)(h:ED A uQ n e)(hb:EB n e)(hm:dX B m)(h0:0<=m)(h1:m<=vQ):MOk D e m:=by
 have hB:B∣D:=bN (aR _ _) hBD;have hA:A∣D:=bN hAB hB;have hr:B*xH A e.rk m∣D:=bN (cF _ (aR _ _)) hBD;have hr0:=cg hB0 (tJ hA0 h.rk.D h0);refine⟨(pF hD hB hm h0 h1).sz hD (by grind[qP]),?_,λp hp=>?_⟩
 .have hl:=left_le h0 h.rk.D.nn;exact Nj hA0 hD hA h.rk (by have:=hb.rn;omega) hB hm h0 h1 hB0 hr (abG hA0 hB0 hAB h.rk.D hm) hl.1 (cM hl.2 h1)
 .have hg:=nY h.nn h0 p;have hgD:=Y2 hA0 hB0 hAB h hm h0 p;have hgl:=aj1 h hb h0 hp;have hl:=left_le hg (h.ps p hp).D.nn;have hd:B*xH A e.rk m*xH A p.2 (lM e m p)∣D:=by refine bN ?_ hBD;rw[fT];exact cF _ (cF _ (Es A e m hp))
  exact⟨Nj hA0 hD hA (h.ps p hp) (hb.p p hp).2.2 hr hgD hg hgl hr0 hd (abG hA0 hr0 (bN hAB (aR _ _)) (h.ps p hp).D hgD) hl.1 (cM hl.2 hgl),(pF hD hr hgD hg hgl).sz hD (by grind[qP])⟩
def aj6(hA0:0<A)(hB0:0<B)(hAB:A∣B)(hD:CY D)(hBD:B*Df A e m∣D)(h:ED A uQ n e)(hb:EB n e)(hm:dX B m)(h0:0<=m)(h1:m<=vQ):ROk D e m:=by
 have hB:B∣D:=bN (aR _ _) hBD;have hA:A∣D:=bN hAB hB;have hr:B*xH A e.rk m∣D:=bN (cF _ (aR _ _)) hBD;have hr0:=tJ hA0 h.rk.D h0;have hr1:xH A e.rk m∣D:=bN (gC _ _) hr;have h1v:=P7 (k:=1) jj;refine⟨?_,λp hp=>?_⟩
 .exact Nj (R:=1) hA0 hD hA h.rk (by have:=hb.rn;omega) hB hm h0 h1 jj kd ⟨1,by grind⟩ jj h1v
 .have hg:=nY h.nn h0 p;have hgD:=Y2 hA0 hB0 hAB h hm h0 p;have hgl:=aj1 h hb h0 hp;have hR:=J6 h.nn h0 p;have hRD:=adO hA0 h h0 p;have hRl:=atT h hb h0 hp;have hd:xH A e.rk m*xH A p.2 (lM e m p)∣D:=by refine bN ?_ (bN (gC _ _) hBD);exact cF _ (Es A e m hp)
  exact⟨Nj hA0 hD hA (h.ps p hp) (hb.p p hp).2.2 hr hgD hg hgl hr0 hd hRD hR hRl,(pF hD hr1 hRD hR hRl).sz hD (by grind[qP])⟩
end
section
variable {E:Env} [aa7 E] {p:Nat→Prop} {σ:St} {K:V→St→Prop}
def Y6{v:B}{a:fD}(ha:dP p σ.h v a)(h1:a.length<=1000000)(h2:a.flatten.length<=1000000){v':V}{σ':St}(hm:aiS a.flatten σ=some (v',σ')):aC E 181 [.c v] σ K=K v' σ':=
 Tn (by have h:=(anG ha h1 h2).trans hm;unfold Yi;rw[ac3 rfl];unfold anI aiV;simp only[Nat.reduceEqDiff,reduceIte,h])
def TU{v:B}{a:fD}(ha:dP p σ.h v a)(h1:a.length<=1000000)(h2:a.flatten.length<=1000000){v':V}{σ':St}(hm:aiR (xB a) σ=some (v',σ')):aC E 140 [.agg [v]] σ K=K v' σ':=
 Tn (by have h:=(anF ha h1 h2).trans hm;unfold Yi;rw[ac3 rfl];unfold anI aiV;simp only[Nat.reduceEqDiff,reduceIte,h])
end
def TV{E:Env}[aa7 E]{σ:St}(hW:WF σ){p:Nat->Prop}{v:B}{a:fD}(ha:dP p σ.h v a)(h1:a.length<=1000000)(h2:a.flatten.length<=1000000):
  aC E 140 [.agg [v]] σ λr σ'=>(∃u,r=.c u/\iU σ'.h u (xB a).length (λi=>[.int .i64 (ix (xB a) i)]) 1 3 σ.aj σ'.aj)/\Fr σ σ':=by
 by_cases h0:(xB a).length=0
 .rw[TU ha h1 h2 (v':=.c .aP) (σ':=σ) (ae h0)]
  exact⟨⟨_,rfl,.inl ⟨h0,rfl⟩⟩,Fr.refl hW⟩
 .rw[TU ha h1 h2 (ab h0)]
  exact⟨⟨_,rfl,.inr ⟨jb,_,rfl,aA _ _ _,jp,bR _⟩⟩,fr⟩
def aoG{a:fD}{n:Nat}(ha:∀t∈a,∀x∈t,x.k=-1\/0<=x.k/\x.k<n){i:Nat}(hi:i<(xB a).length):B.int .i64 (ix (xB a) i)=Rn (kH a) i:=by unfold Rn kH;rw[Y4 Int.toNat hi];have:=vH ha _ (mX hi);grind
def P8(a:fD):(kH a).length=(xB a).length:=cA _
structure TS(σ:St)(tb bs:Nat)(t:dJ):Prop where
 b:σ.h tb=some ⟨kG (aV t.length bs) (aW t),none⟩
 o:PW σ.h bs t
 lo:tb<bs
 hi:t.length=0\/bs<σ.aj
def TS.lt{σ:St}(hW:WF σ){tb bs:Nat}{t:dJ}(h:TS σ tb bs t):tb<σ.aj:=hW.lt h.b
def TS.on{σ σ':St}{tb bs:Nat}{t:dJ}(h:TS σ tb bs t)(h1:∀b,tb<=b->b<σ.aj->σ'.h b=σ.h b)(hW:WF σ)(hle:σ.aj<=σ'.aj):TS σ' tb bs t:=by have h0:=h.lt hW;have hlo:=h.lo;have hhi:=h.hi;refine⟨by rw[h1 tb jp h0];exact h.b,?_,hlo,jb⟩;refine(xw ?_).trans h.o;grind
theorem TS.fr{σ σ':St}{tb bs:Nat}{t:dJ}(h:TS σ tb bs t)(hW:WF σ)(hf:Fr σ σ'):TS σ' tb bs t:=h.on (λb _ hb=>hf.old b hb) hW hf.le
def TS.fre{σ σ':St}{ex:List Nat}{tb bs:Nat}{t:dJ}(h:TS σ tb bs t)(hW:WF σ)(hf:aU ex σ σ')(hx:∀b∈ex,b<tb):TS σ' tb bs t:=h.on (λb h1 h2=>hf.old b h2 λhm=>by grind) hW hf.le
def abI{σ:St}(hW:WF σ){tb bs:Nat}{t:dJ}(hT:TS σ tb bs t)(hl:t.length<=1000000)(k:Int)(q:Rat)(hs:Sz (aW t))(hq:Sz q):
  aC EN 142 [.c (.ptr tb 0),.c (.int .i64 k),.agg [.bool (rn q),.str (rs q),.str (rd q)]] σ λ_ σ'=>(∃bs',TS σ' tb bs' (t++[(k,q)]))/\(∀b,b<tb->σ'.h b=σ.h b)/\WF σ'/\σ.aj<=σ'.aj:=by
 have h0:=hT.lo
 have hlt:=hT.lt hW
 have:=ajP (G:=λ_=>kG (aV t.length bs) (aW t)) (n:=1) (r:=0) hW (by rw[hT.b];rfl) jj (λ_=>rfl) rfl rfl rfl hT.o (.inr jb) hT.hi hl k q hs hq
 refine this.mono ?_
 rintro _ σ' ⟨nx,h1,h2,h3,h4,h5⟩
 have hle:=h5.le
 refine⟨⟨nx,?_,?_,jb,.inr h2⟩,λb hb=>h5.old b jb kd,h5.wf,hle⟩
 .rw[h3,TQ,aD];rfl
 .unfold PW
  rw[aD,bZ]
  show σ'.h nx=some _
  grind[Go.Proofs.Xe.jw,Go.Proofs.Xe.bH,Go.Proofs.Xe.iR,Go.Proofs.Xe.gX,Go.Proofs.Xe.gW]
def aoH(U:Nat->B)(Lf:Nat->dJ)(p:Nat->Prop)(h:Tr Bk)(i:Nat):Prop:=aX p h 4 (U i) (Lf i).length λc=>Bd (ix (Lf i) c)
def Y7(U:Nat->B)(Lf:Nat->dJ)(i:Nat):List B:=kG (U i) (aW (Lf i))
abbrev abJ(U:Nat->B)(Lf:Nat->dJ)(h:Tr Bk)(b n lo hi:Nat):Prop:=NF (aoH U Lf) h b n (Y7 U Lf) 4 199 lo hi
def V3(U:Nat->B)(Lf:Nat->dJ)(j:Nat):QK (aoH U Lf) j:=λ_ _ _ _ hp hk hq=>aX.keep hp hk hq
def V4(U:Nat->B)(Lf:Nat->dJ):LG (Y7 U Lf) 4:=λ_=>rfl
section
variable {U:Nat→B} {Lf:Nat→dJ} {h h' : Tr Bk} {b n lo hi:Nat}
def abJ.push(ho:abJ U Lf h b n lo hi){σ1:St}(hW:WF σ1){tb bs nx n':Nat}{t:dJ}(hL:Lf n=t)(hT:TS σ1 tb bs t)(ht:hi<=tb)(h5:lo<=hi)(hh:∀b,lo<=b->b<hi->σ1.h b=h b)(h3:σ1.aj<=nx)(h4:nx<n')
  (hb:h' nx=some ⟨bC n (Y7 U Lf)++kG (aV t.length bs) (aW t),some (4,199)⟩) (hk:∀c,lo<=c->c<σ1.aj->n=0\/c≠b->h' c=σ1.h c):abJ (aN U n (aV t.length bs)) Lf h' nx (n+1) lo n':=by
 have hlt:=hT.lt hW
 have hlo:=hT.lo
 have hx:aX (λb=>hi<=b/\b<σ1.aj) σ1.h 4 (aV t.length bs) t.length λj=>Bd (ix t j):=hT.o.hlp (by rcases hT.hi with h0|h0;exact .inl h0;omega)
 refine NF.push ho (λj _=>V3 _ Lf j) (λj hj p h hq=>?_) (hi1:=σ1.aj) (h1:=σ1.h) ?_ hh jb h3 h4 h5 hb ?_ hk (λi hi=>?_) (V4 _ _)
 .grind[aoH,aS]
 .grind[aoH,aK]
 .grind[Y7,aK]
 grind[Y7,aS]
def abJ.atU(ho:abJ U Lf h b n lo hi){l:fU}(hl:l.length=n)(hL:∀i,i<n->Lf i=ix l i):zO (λb=>lo<=b/\b<hi) h (aV n b) l:=by
 have hel:=λi (hi:i<n)=>ho.el (λj _=>V3 U Lf j) hi;refine⟨U,?_,by cases n<;>trivial,λi hi=>?_⟩
 .rw[hl];refine(ho.hlp jj (λi hi=>?_) λb h1 h2=>⟨h1,h2⟩).congr λi hi=>by grind[Y7]
  unfold Y7 kG;simp only[cD,dj,vk,Ac,(hel i hi).kn,cU]
 .rw[hl]at hi;rw[<-hL i hi];exact hel i hi
end
def lsS(cs:List C5)(a:fD)(j:Nat):(Nat->Rat)×fU:=(a.take j).foldl ltS ((λi:Nat=>(ix cs i).a.q),[])
def Cc(f:Nat->Rat)(t:IL)(l:Nat):(Nat->Rat)×dJ:=(t.take l).foldl Nc (f,[])
theorem P9{cs:List C5}{a:fD}{j:Nat}(h:j<a.length):lsS cs a (j+1)=ltS (lsS cs a j) (ix a j):=by grind[lsS,bU]
def Jh(cs:List C5)(a:fD):lsS cs a a.length=lsA cs a:=by grind[lsS,lsA]
def Ce(cs:List C5)(a:fD):∀j,j<=a.length->(lsS cs a j).2.length=j
 |0,_=>rfl
 |j+1,h=>by rw[P9 jb];unfold ltS;rw[aD,Ce cs a j jb];rfl
def abK{α:Type}[Inhabited α]{l:List α}{x:α}{n:Nat}(h:l.length=n):ix (l++[x]) n=x:=by grind[gX]
def tN(m k:Nat)(F:Nat->Rat):cZ m (aN (λi=>if i<k then F i else 0) k (F k))=cZ m λi=>if i<k+1 then F i else 0:=dS λi _=>by grind[aN]
def zT(m:Nat)(F:Nat->Rat):cZ m (λi=>if i<m then F i else 0)=cZ m F:=dS λi hi=>ae hi
def yP(m:Nat)(F:Nat->Rat):cZ m (λ_=>0)=cZ m λi=>if i<0 then F i else 0:=dS λi _=>rfl
def aj7{s:(Nat->Rat)×dJ}{x:yw}{kk:Nat}(h1:¬x.k=-1)(hk:x.k=Int.ofNat kk):Nc s x=(aN s.1 kk (s.1 kk-if x.b=true then kF (s.1 kk) x.a.q else s.1 kk),s.2++[(Int.ofNat kk,if x.b=true then kF (s.1 kk) x.a.q else s.1 kk)]):=by unfold Nc;rw[ab h1,hk];refine Prod.ext ?_ rfl;grind[aN]
def V5{cs:List C5}{a:fD}{i:Nat}:∀{j},i<j->j<=a.length->ix (lsS cs a j).2 i=(Cc (lsS cs a i).1 (ix a i) (ix a i).length).2
 |j+1,hi,hj=>by
  rw[P9 jb];unfold ltS;by_cases e:i=j
  .subst e;have:=Ce cs a i jb;exact(abK this).trans (by unfold Cc;rw[cC])
  .show ix ((lsS cs a j).2++[_]) i=_;rw[gW _ _ (by rw[Ce cs a j jb];omega)];exact V5 jb jb
def Y8{f:Nat->Rat}{t:IL}{l:Nat}(h:l<t.length):Cc f t (l+1)=Nc (Cc f t l) (ix t l):=by grind[Cc,bU]
def Nk(f:Nat->Rat)(t:IL):∀l,l<=t.length->(Cc f t l).2.length=l
 |0,_=>rfl
 |l+1,h=>by rw[Y8 jb];unfold Nc;split<;>simp[Nk f t l jb]
def aj8{cs:List C5}{a:fD}{j:Nat}(h:j<a.length):(lsS cs a (j+1)).1=(Cc (lsS cs a j).1 (ix a j) (ix a j).length).1:=by grind[P9,ltS,Cc]
def af7(ms:List Nat)(f:Nat->Rat){i:Nat}(h:i<ms.length):wP (ms.take (i+1)) f=wP (ms.take i) f++[(((ix ms i:Nat):Int),f (ix ms i))]:=by grind[wP,bU]
def aj9:∀{l:List Int}{lo hi:Int},l.Pairwise (· < ·)->(∀x∈l,lo<=x/\x<hi)->l.length<=(hi-lo).toNat
 |[],_,_,_,_=>br _
 |a::l,lo,hi,hp,h=>by
  rw[List.pairwise_cons]at hp;have h1:=h a kc;have:=aj9 (lo:=a+1) (hi:=hi) hp.2 λx hx=>by grind
  grind
def He{a:fD}{n:Nat}(ha:∀t∈a,∀x∈t,x.k=-1\/0<=x.k/\x.k<n):(kH a).length<=n:=by have:=aj9 (acY a) (vH ha);rw[P8];omega
theorem Nl(cs:List C5)(r:Nat):∀k,(Cb cs r k).length<=k
 |0=>cP 0
 |k+1=>by have:=Nl cs r k;unfold Cb;rw[aD];split<;>simp<;>omega
section
variable {A n:Nat}
def atV(hA:0<A):Rq (Jg A) where
 min:=λa b ha hb=>by grind[kF]
 sub:=λa b ha hb=>by
  have h1:=ha.2;have h2:=hb.2;unfold kF;split
  .grind[dX.zero]
  .exact⟨ha.1.sub hb.1,by grind,by grind⟩
 zero:=⟨dX.zero A,aY,P6⟩
def Qa(hA:CY A){q:Rat}(h:Jg A q):Sz q:=by have hU:=G9 (k:=1) jj;have:((1:Nat):Rat)=1:=rfl;exact(pF hA (io A) h.1 h.2.1 kd).sz hA (by grind[qP])
def V6(hA:CY A){t:dJ}(h:Bg (Jg A) n t)(hl:t.length<=10000):Sz (aW t):=by have hU:=G9 (k:=10000) jj;have h1:=VY h;have h2:(t.length:Rat)<=((10000:Nat):Rat):=bw.mpr hl;have h3:=bj h2 P6;exact(pF hA (io A) (Ep λp hp=>⟨(h p hp).2.1,(h p hp).2.2.1⟩) (zL λp hp=>(h p hp).2.2.1) kd).sz hA (by grind[qP])
def atW{P:Rat->Prop}(hP:Rq P){f:Nat->Rat}(hf:∀i,P (f i)){t:IL}(ht:∀x∈t,Rt P n x)(l:Nat):(∀i,P ((Cc f t l).1 i))/\Bg P n (Cc f t l).2:=
 abC hP (t.take l) hf (λ_ h=>by cases h) λx hx=>ht x (et hx)
def atX{P:Rat->Prop}(hP:Rq P){cs:List C5}(hc:∀i,P (ix cs i).a.q){a:fD}(ha:∀t∈a,∀x∈t,Rt P n x)(j:Nat)(i:Nat):P ((lsS cs a j).1 i):=
 (abD hP (a.take j) hc (λ_ h=>by cases h) λt ht=>ha t (et ht)).1 i
end
def atY(p q:Rat):JM p q=kF p q:=by
 unfold JM kF;by_cases h:p<=q
 .rw[ae h,ae (xq.mpr h)]
 .rw[ab h,ab λe=>h (xq.mp e)]
structure akb(A:Nat)(cs:List C5)(a:fD):Prop where
 nc:cs.length<=1000
 na:a.length<=1000
 nt:∀t,t<a.length->(ix a t).length<=1000
 nf:a.flatten.length<=1000000
 fc:∀i,i<cs.length->(ix cs i).a.fits 1000000
 fp:∀t,t<a.length->∀l,l<(ix a t).length->(ix (ix a t) l).a.fits 1000000
 c:∀i,Jg A (ix cs i).a.q
 p:∀t∈a,∀x∈t,Rt (Jg A) cs.length x
end Go.Proofs.Xe
