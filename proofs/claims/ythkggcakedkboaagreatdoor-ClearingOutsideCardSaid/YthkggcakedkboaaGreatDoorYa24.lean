import Derived.Test.YthkggcakedkboaaGreatDoorYa23
set_option linter.all false
namespace Go.Proofs.Ins
def jW(a:gV):List Nat:=(wF a).map Int.toNat
def BL(cs:List C5)(r:Nat):Nat->dJ
 |0=>[]
 |k+1=>BL cs r k++if(ix cs k).r=(r:Int)then [((k:Int),(ix cs k).a.q)]else []
def Va(cs:List C5)(k:Nat):fU:=(List.range 8).map λr=>BL cs r k
def LQ(s:(Nat->Rat)×dJ)(x:Aj):(Nat->Rat)×dJ:=
 if x.k=-1 then(s.1,s.2++[((-1:Int),x.a.q)])
 else((λi=>if i=x.k.toNat then s.1 i-(if x.b=true then jv (s.1 x.k.toNat) x.a.q else s.1 x.k.toNat)else s.1 i),s.2++[(x.k,if x.b=true then jv (s.1 x.k.toNat) x.a.q else s.1 x.k.toNat)])
def ltS(s:(Nat->Rat)×fU)(t:FZ):(Nat->Rat)×fU:=((t.foldl LQ (s.1,[])).1,s.2++[(t.foldl LQ (s.1,[])).2])
def lsA(cs:List C5)(a:gV):(Nat->Rat)×fU:=a.foldl ltS ((λi:Nat=>(ix cs i).a.q),[])
def vM(ms:List Nat)(f:Nat->Rat):dJ:=ms.map λi:Nat=>((i:Int),f i)
def oD(cs:List C5)(a:gV):List Nat×fU:=(jW a,(lsA cs a).2++[vM (jW a) (lsA cs a).1])
def bW(e:zJ):fA:=⟨Va e.c e.c.length,e.a.map (oD e.c)⟩
structure Qe(P:Rat->Prop):Prop where
 min:∀a b,P a->P b->P (jv a b)
 sub:∀a b,P a->P b->P (a-jv a b)
 zero:P 0
def Qg(P:Rat->Prop)(n:Nat)(x:Aj):Prop:=(x.k=-1\/0<=x.k/\x.k<n)/\((x.k=-1\/x.b=true)->P x.a.q)
def Aa(P:Rat->Prop)(n:Nat)(t:dJ):Prop:=∀p∈t,(p.1=-1\/0<=p.1/\p.1<n)/\P p.2
section
variable {P:Rat→Prop} {n:Nat}
def Aa.snoc{t:dJ}(h:Aa P n t){p:Int×Rat}(h1:p.1=-1\/0<=p.1/\p.1<n)(h2:P p.2):Aa P n (t++[p]):=λq hq=>by
 rcases bP.mp hq with hq|hq
 .exact h q hq
 grind
def avV(hP:Qe P){s:(Nat->Rat)×dJ}(h1:∀i,P (s.1 i))(h2:Aa P n s.2){x:Aj}(hx:Qg P n x):(∀i,P ((LQ s x).1 i))/\Aa P n (LQ s x).2:=by
 unfold LQ;by_cases e:x.k=-1
 .rw[ab e];exact⟨h1,h2.snoc (.inl rfl) (hx.2 (.inl e))⟩
 .rw[ae e];dsimp only;have self:P (s.1 x.k.toNat-s.1 x.k.toNat):=by rw[show s.1 x.k.toNat-s.1 x.k.toNat=0 by grind];exact hP.zero
  refine⟨λi=>?_,h2.snoc hx.1 ?_⟩
  .split
   .next e2=>
    rw[e2];split
    .next hb=>exact hP.sub _ _ (h1 _) (hx.2 (.inr hb))
    omega
   grind
  .dsimp only;split
   .next hb=>exact hP.min _ _ (h1 _) (hx.2 (.inr hb))
   grind
def aaU(hP:Qe P):∀(t:FZ){s:(Nat->Rat)×dJ},(∀i,P (s.1 i))->Aa P n s.2->(∀x∈t,Qg P n x)->(∀i,P ((t.foldl LQ s).1 i))/\Aa P n (t.foldl LQ s).2
 |[],_,h1,h2,_=>⟨h1,h2⟩
 |x::t,s,h1,h2,h=>by obtain⟨h3,h4⟩:=avV hP h1 h2 (h x kc);exact aaU hP t h3 h4 λy hy=>h y (by simp[hy])
def xU(P:Rat->Prop)(n:Nat)(l:fU):Prop:=∀t∈l,Aa P n t
def xU.snoc{l:fU}(h:xU P n l){t:dJ}(ht:Aa P n t):xU P n (l++[t]):=λu hu=>by
 rcases bP.mp hu with hu|hu
 .exact h u hu
 grind
def aaV(hP:Qe P):∀(a:gV){s:(Nat->Rat)×fU},(∀i,P (s.1 i))->xU P n s.2->(∀t∈a,∀x∈t,Qg P n x)->(∀i,P ((a.foldl ltS s).1 i))/\xU P n (a.foldl ltS s).2
 |[],_,h1,h2,_=>⟨h1,h2⟩
 |t::a,s,h1,h2,h=>by obtain⟨h3,h4⟩:=aaU hP t (s:=(s.1,[])) h1 (λ_ h=>by cases h) (h t kc);exact aaV hP a (s:=ltS s t) h3 (h2.snoc h4) λu hu=>h u (by simp[hu])
def ai1(hP:Qe P){cs:List C5}{a:gV}(hc:∀i,P (ix cs i).a.q)(ha:∀t∈a,∀x∈t,Qg P n x):(∀i,P ((lsA cs a).1 i))/\xU P n (lsA cs a).2:=aaV hP a hc (λ_ h=>by cases h) ha
def uw{a:gV}(ha:∀t∈a,∀x∈t,x.k=-1\/0<=x.k/\x.k<n):∀c∈wF a,0<=c/\c<n:=λc hc=>by obtain⟨h1,h2⟩:=qM.mp hc;obtain⟨t,ht,hm⟩:=cQ.mp h2;obtain⟨x,hx,e⟩:=cQ.mp hm;grind
def uN{a:gV}(ha:∀t∈a,∀x∈t,x.k=-1\/0<=x.k/\x.k<n){i:Nat}:i∈jW a↔EL a (i:Int)=true:=by
 unfold jW;rw[cC];constructor
 .rintro⟨c,hc,rfl⟩;have h1:=uw ha c hc;rw[eh h1.1];exact(qM.mp hc).2
 .intro h;exact⟨i,qM.mpr ⟨jb,h⟩,by simp⟩
def Gg{a:gV}(ha:∀t∈a,∀x∈t,x.k=-1\/0<=x.k/\x.k<n):(jW a).Nodup:=by unfold jW;rw[it,List.pairwise_map];refine List.Pairwise.imp_of_mem (λ{x y} hx hy h=>?_) (acn a);have:=uw ha x hx;omega
def ac6(hP:Qe P){cs:List C5}{a:gV}(hc:∀i,P (ix cs i).a.q)(ha:∀t∈a,∀x∈t,Qg P n x):xU P n (oD cs a).2:=by obtain⟨h1,h2⟩:=ai1 hP hc ha;refine h2.snoc λp hp=>?_;unfold vM at hp;obtain⟨i,hi,rfl⟩:=cC.mp hp;have:=(uN λt ht x hx=>(ha t ht x hx).1).mp hi;have h3:=uw (a:=a) (λt ht x hx=>(ha t ht x hx).1) i (qM.mpr ⟨jb,this⟩);grind
def OM{cs:List C5}(hc:∀i,i<cs.length->P (ix cs i).a.q)(r:Nat):∀k,k<=cs.length->∀p∈BL cs r k,(0<=p.1/\p.1<cs.length)/\P p.2
 |0,_,p,hp=>by cases hp
 |k+1,hk,p,hp=>by
  unfold BL at hp;rcases bP.mp hp with hp|hp
  .exact OM hc r k jb p hp
  grind
end
end Go.Proofs.Ins
namespace Go.Proofs.Xe
open Go.RowKit Go.Proofs.Ins
def dX(D:Nat)(q:Rat):Prop:=∃a:Int,q=(a:Rat)/(D:Rat)
theorem iI{D:Nat}(h:0<D):(D:Rat)≠0:=λe=>by simp_all
section
variable {A B D:Nat} {p q x s:Rat}
theorem dX.zero(D:Nat):dX D 0:=⟨0,by grind⟩
theorem dX.add(h:dX D p)(h':dX D q):dX D (p+q):=by obtain⟨a,rfl⟩:=h;obtain⟨b,rfl⟩:=h';exact⟨a+b,by grind⟩
def dX.neg(h:dX D p):dX D (-p):=by obtain⟨a,rfl⟩:=h;exact⟨-a,by grind⟩
def dX.sub(h:dX D p)(h':dX D q):dX D (p-q):=by rw[iz];exact h.add h'.neg
def dX.up(h:dX A p){k:Nat}(hk:0<k):dX (A*k) p:=by
 obtain⟨a,rfl⟩:=h;refine⟨a*k,?_⟩;have h1:=iI hk;have e2:((a*(k:Int):Int):Rat)=(a:Rat)*(k:Rat):=by rw[cY];rfl
 grind
def dX.dvd(h:dX A p)(hd:A∣B)(hB:0<B):dX B p:=by obtain⟨k,rfl⟩:=hd;exact h.up (fi λe=>by grind)
theorem dX.sum{α:Type}{f:α->Rat}:∀{l:List α},(∀a∈l,dX D (f a))->dX D (aI l f)
 |[],_=>dX.zero D
 |a::l,h=>(h a kc).add (dX.sum λb hb=>h b (by simp[hb]))
def nuA(A:Nat)(s:Rat):Nat:=(s*A).num.natAbs
def Vb(hA:0<A)(hs:dX A s)(h0:0<s):s=(nuA A s:Rat)/(A:Rat)/\0<nuA A s:=by
 obtain⟨u,rfl⟩:=hs;have hA:=iI hA;have e:(u:Rat)/(A:Rat)*(A:Rat)=(u:Rat):=by grind
 unfold nuA;rw[e,Rat.num_intCast];have hu:0<u:=by
  have h1:(0:Rat)<=(A:Rat):=by grind
  have h2:=Rat.mul_pos h0 (show(0:Rat)<(A:Rat) by grind);rw[e]at h2;exact Rat.intCast_pos.mp h2
 have e2:((u.natAbs:Nat):Rat)=(u:Rat):=by
  have:((u.natAbs:Int):Rat)=(u:Rat):=by grind
  exact this
 grind
def dX.share(hA:0<A)(hB:0<B)(hp:dX A p)(hx:dX B x)(hs:dX A s)(h0:0<s):dX (B*nuA A s) (p*(x/s)):=by obtain⟨e,hn⟩:=Vb hA hs h0;obtain⟨c,rfl⟩:=hp;obtain⟨z,rfl⟩:=hx;generalize nuA A s=n at*;refine⟨c*z,?_⟩;grind
def Zk.of(hD:0<D)(h:dX D q)(h1:0<=q)(h2:q<=((256^uK:Nat):Rat)):Zk D 1 q:=by
 obtain⟨a,rfl⟩:=h;refine⟨a,rfl,?_⟩;have hD':=iI hD;have h3:(0:Rat)<(D:Rat):=by grind
 have e:(a:Rat)/(D:Rat)*(D:Rat)=(a:Rat):=by grind
 have h4:=bo h2 (dT h3);have h5:=cj h1 (dT h3);rw[e]at h4 h5;rw[<-fa]at h4;have h4:((a:Int):Rat)<=(((256^uK*D:Nat):Int):Rat):=h4;have h4:=fW.mp h4;have h5:=Rat.intCast_nonneg.mp h5;grind
end
def wJ(A:Nat)(l:fU)(m:Rat):Nat:=if dP l m<l.length then nuA A (aV (ix l (dP l m)))else 1
def KN(A:Nat)(l:fU):Prop:=∀t∈l,∀p∈t,dX A p.2/\0<=p.2
section
variable {A B:Nat} {l:fU} {m:Rat}
def DI{t:dJ}(h:∀p∈t,dX A p.2/\0<=p.2):dX A (aV t):=by
 induction t with
 |nil=>exact dX.zero A
 |cons p t ih=>exact(h p kc).1.add (ih λq hq=>h q (by simp[hq]))
def aaW{t:dJ}(h:∀p∈t,dX A p.2/\0<=p.2)(c:Int):dX A (fZ t c):=by
 induction t with
 |nil=>exact dX.zero A
 |cons p t ih=>
  refine dX.add ?_ (ih λq hq=>h q (by simp[hq]))
  grind[dX.zero]
def KN.nn(h:KN A l):Kw l:=λt ht p hp=>(h t ht p hp).2
def ai2(h:KN A l)(k:Nat):dX A (BK l k):=by
 unfold BK;have:∀l:fU,KN A l->dX A (jr l):=λl=>by
  induction l with
  |nil=>intro _;exact dX.zero A
  |cons t l ih=>intro h;exact(DI (h t kc)).add (ih λu hu=>h u (by simp[hu]))
 exact this _ λt ht=>h t (ec ht)
def asn(h:KN A l)(c:Int):dX A (jE l c):=by
 induction l with
 |nil=>exact dX.zero A
 |cons t l ih=>exact(aaW (h t kc) c).add (ih λu hu=>h u (by simp[hu]))
def Ac(hm:0<=m)(hf:dP l m<l.length):0<aV (ix l (dP l m)):=by have:=U5 l m hm;grind
def rM(hA:0<A)(h:KN A l)(hm:0<=m):0<wJ A l m:=by
 unfold wJ;split
 .next hf=>exact(Vb hA (DI (h _ (gI hf))) (Ac hm hf)).2
 .omega
def aaX(hA:0<A)(hB:0<B)(hd:A∣B)(h:KN A l)(hm:dX B m):dX B (jD l m):=by rw[OC];exact hm.sub ((ai2 h _).dvd hd hB)
def ai3(hA:0<A)(h:KN A l)(h0:0<=m){R:Nat}(hR:0<R){x:Rat}(hx:dX R x)(hf:dP l m<l.length){q:Rat}(hq:dX A q):dX (R*wJ A l m) (q*(x/aV (ix l (dP l m)))):=by unfold wJ;rw[ab hf];exact dX.share hA hR hq hx (DI (h _ (gI hf))) (Ac h0 hf)
def apy(hA:0<A)(hB:0<B)(hd:A∣B)(h:KN A l)(hm:dX B m)(h0:0<=m)(c:Int):dX (B*wJ A l m) (iy l m c):=by
 have hc:=rM hA h h0;rw[JE];refine dX.add ((asn (λt ht=>h t (ec ht)) c).dvd (bO hd (aR _ _)) (cw hB hc)) ?_;split
 .next hf=>exact ai3 hA h h0 hB (aaX hA hB hd h hm) hf (aaW (h _ (gI hf)) c)
 .exact dX.zero _
def apz(hA:0<A)(h:KN A l)(h0:0<=m){R:Nat}(hR:0<R){x:Rat}(hx:dX R x)(c:Int):dX (R*wJ A l m) (jU l m x c):=by
 rw[Es];split
 .next hf=>exact ai3 hA h h0 hR hx hf (aaW (h _ (gI hf)) c)
 .exact dX.zero _
end
def aft(A:Nat)(e:fA)(x:Rat):List (List Nat×fU)->Nat
 |[]=>1
 |p::l=>wJ A p.2 (kK e x p)*aft A e x l
def BM(A:Nat)(e:fA)(x:Rat):Nat:=wJ A e.rk x*aft A e x e.ps
structure ED(A:Nat)(U:Rat)(n:Nat)(e:fA):Prop where
 rk:xU (λq=>dX A q/\0<=q/\q<=U) n e.rk
 ps:∀p∈e.ps,xU (λq=>dX A q/\0<=q/\q<=U) n p.2
section
variable {A B n:Nat} {U m:Rat} {e:fA}
def _root_.Go.Proofs.Ins.xU.D{l:fU}(h:xU (λq=>dX A q/\0<=q/\q<=U) n l):KN A l:=λt ht p hp=>⟨(h t ht p hp).2.1,(h t ht p hp).2.2.1⟩
def ED.nn(h:ED A U n e):Ak e:=⟨h.rk.D.nn,λp hp=>(h.ps p hp).D.nn⟩
def ai4(hA:0<A)(hB:0<B)(hd:A∣B)(h:ED A U n e)(hm:dX B m)(h0:0<=m)(c:Nat):dX (B*wJ A e.rk m) (y7 e m c):=apy hA hB hd h.rk.D hm h0 _
def apA(hA:0<A)(h:ED A U n e)(h0:0<=m)(c:Nat):dX (wJ A e.rk m) (rts e m c):=by have:=apz (R:=1) hA h.rk.D h0 jj (x:=1) ⟨1,by grind⟩ c;rwa[Nat.one_mul]at this
def X8(hA:0<A)(hB:0<B)(hd:A∣B)(h:ED A U n e)(hm:dX B m)(h0:0<=m)(p:List Nat×fU):dX (B*wJ A e.rk m) (kK e m p):=dX.sum λc _=>ai4 hA hB hd h hm h0 c
def ac7(hA:0<A)(h:ED A U n e)(h0:0<=m)(p:List Nat×fU):dX (wJ A e.rk m) (rY e m p):=dX.sum λc _=>apA hA h h0 c
def DJ(A:Nat)(e:fA)(x:Rat):∀{l:List (List Nat×fU)}{p:List Nat×fU},p∈l->wJ A p.2 (kK e x p)∣aft A e x l
 |q::l,p,h=>by
  rcases bA.mp h with rfl|h
  .exact aR _ _
  .exact bO (DJ A e x h) (gL _ _)
def X9(hA:0<A)(h:ED A U n e)(h0:0<=m):∀{l:List (List Nat×fU)},(∀p∈l,p∈e.ps)->0<aft A e m l
 |[],_=>Nat.zero_lt_one
 |p::l,hl=>cw (rM hA (h.ps p (hl p kc)).D (mY h.nn h0 p)) (X9 hA h h0 λq hq=>hl q (by simp[hq]))
def IL(hA:0<A)(h:ED A U n e)(h0:0<=m):0<BM A e m:=cw (rM hA h.rk.D h0) (X9 hA h h0 λ_ h=>h)
def ai5(hA:0<A)(hB:0<B)(hd:A∣B)(h:ED A U n e)(hm:dX B m)(h0:0<=m)(c:Nat):dX (B*BM A e m) (pO e m c):=by
 have hp:=cw hB (IL hA h h0);have hp1:=cw hB (rM hA h.rk.D h0);unfold pO;refine dX.add ?_ (dX.sum λp hp'=>?_)
 .split
  .exact dX.zero _
  .exact(ai4 hA hB hd h hm h0 c).dvd (cF _ (aR _ _)) hp
 .refine(apy hA hp1 (bO hd (aR _ _)) (h.ps p hp').D (X8 hA hB hd h hm h0 p) (mY h.nn h0 p) c).dvd ?_ hp;rw[fR];exact cF _ (cF _ (DJ A e m hp'))
def ai6(hA:0<A)(h:ED A U n e)(h0:0<=m)(c:Nat):dX (BM A e m) (xQ e m c):=by
 have hp:=IL hA h h0;unfold xQ;refine dX.add ?_ (dX.sum λp hp'=>?_)
 .split
  .exact dX.zero _
  .exact(apA hA h h0 c).dvd (aR _ _) hp
 .exact(apz hA (h.ps p hp').D (mY h.nn h0 p) (rM hA h.rk.D h0) (ac7 hA h h0 p) c).dvd (cF _ (DJ A e m hp')) hp
end
end Go.Proofs.Xe
namespace Go.Proofs.Ins
def vN(l:Lg):fC:=(l.e.toNat,l.k.toNat)
def aZ(g:fP):GL:=⟨λi=>bW (ix g.e i),λi=>(ix g.e i).c.length,λi c=>(ix (ix g.e i).c c).h,g.d.map λd=>(d.w.q,d.l.map vN)⟩
theorem ac8{q:Rat}(h:¬sg q<0):0<=q:=by grind[sg]
def anA:Qe (λq=>0<=q) where
 min:=λa b ha hb=>by grind[jv]
 sub:=λa b ha hb=>by grind[jv]
 zero:=be
structure EZ(n:Nat)(i:Nat)(e:zJ):Prop where
 nc:e.c.length<=24
 na:e.a.length<=12
 m:0<=e.m.q
 c:∀k,k<e.c.length->0<=(ix e.c k).r/\(ix e.c k).r<=7/\0<=(ix e.c k).a.q/\((ix e.c k).h=-1\/0<=(ix e.c k).h/\(ix e.c k).h<n/\(ix e.c k).h≠i)
 a:∀k,k<e.a.length->(ix e.a k).length<=24/\(∀t,t<(ix e.a k).length->(ix (ix e.a k) t).length<=24)/\∀t∈ix e.a k,∀x∈t,Qg (λq=>0<=q) e.c.length x/\(x.k≠-1->sO e.a k x.k=false)
def avW{e:zJ}{n i:Nat}(h:EM e=0)(hh:∀k,k<e.c.length->¬((n:Int)<=(ix e.c k).h\/(ix e.c k).h=(i:Int))):EZ n i e:=by
 unfold EM at h;split at h
 .cases h
 next h0=>
 split at h
 .cases h
 next h1=>
 split at h
 .omega
 next h2=>
 have h2:F5 (λi=>Uu (ix e.c i)) e.c.length=0:=bp h2;refine⟨jb,jb,ac8 h1,λk hk=>?_,λk hk=>?_⟩
 .grind[dY,Uu,ac8]
 .have ha:=dY h k hk;unfold Qa at ha;split at ha
  .cases ha
  next hl=>
  have hl:=CV.mp (by simpa using hl);refine⟨hl.1,hl.2,λt ht x hx=>?_⟩;obtain⟨j,hj,rfl⟩:=aM ht;obtain⟨p,hp,rfl⟩:=aM hx;have hT:=dY ha j hj;unfold arU at hT;rw[dV hj]at hT;have hP:=dY hT p hp;rw[dV hp]at hP;generalize (ix e.a k)[j][p]=x at*;unfold Xm at hP;split at hP
  .cases hP
  next c1=>
  split at hP
  .cases hP
  next c2=>
  split at hP
  .cases hP
  next c3=>
  split at hP
  .cases hP
  next c4=>
  refine⟨⟨jb,λhq=>?_⟩,λhn=>by grind⟩;grind[ac8]
structure GZ(g:fP):Prop where
 ne:g.e.length<=8
 nd:g.d.length<=16
 e:∀i,i<g.e.length->EZ g.e.length i (ix g.e i)
 l:∀d,d<g.d.length->(ix g.d d).l.length<=8/\0<=(ix g.d d).w.q/\∀k,k<(ix g.d d).l.length->∃e j:Nat,ix (ix g.d d).l k=⟨(e:Int),(j:Int)⟩/\e<g.e.length/\j<(ix g.e e).c.length/\nK (gK g.d d k) (ix (ix g.d d).l k)=false/\holdL g.e (ix (ix g.d d).l k)=holdL g.e (ix (ix g.d d).l 0)
def DK{g:fP}(h:F6 g=0):GZ g:=by
 unfold F6 at h;split at h
 .cases h
 next h0=>
 split at h
 .omega
 next h1=>
 split at h
 .omega
 next h2=>
 have h1:F5 (λi=>EM (ix g.e i)) g.e.length=0:=bp h1;have h2:F5 (λi=>F5 (Xn g i) (ix g.e i).c.length) g.e.length=0:=bp h2;refine⟨jb,jb,λi hi=>avW (dY h1 i hi) λk hk hx=>?_,λd hd=>?_⟩
 .grind[dY,Xn]
 .have hD:=dY h d hd;unfold N7 at hD;split at hD
  .cases hD
  next d0=>
  split at hD
  .cases hD
  next d1=>
  refine⟨jb,ac8 d1,λk hk=>?_⟩;have hL:=dY hD k hk;unfold aat at hL;dsimp only at hL;split at hL
  .cases hL
  next hr=>
  split at hL
  .cases hL
  next hm=>
  split at hL
  .cases hL
  next hh=>
  have hm:nK (gK g.d d k) (ix (ix g.d d).l k)=false:=by simpa using hm
  have hh:holdL g.e (ix (ix g.d d).l k)=holdL g.e (ix (ix g.d d).l 0):=bp hh;revert hm hh;generalize hx:ix (ix g.d d).l k=x at*;obtain⟨e,j⟩:=x;dsimp only at hr;intro hm hh;refine⟨e.toNat,j.toNat,?_,jb,jb,hm,hh⟩;rw[eh jb,eh jb]
def OO{α β:Type}[Inhabited α](f:α->List β):∀l:List α,(∀k,k<l.length->(f (ix l k)).Nodup/\∀j,j<k->∀x,x∈f (ix l k)->x∉f (ix l j))->(l.flatMap f).Nodup:=by
 intro l;have key:∀k,k<=l.length->(∀k,k<l.length->(f (ix l k)).Nodup/\∀j,j<k->∀x,x∈f (ix l k)->x∉f (ix l j))->((l.take k).flatMap f).Nodup:=by
  intro k;induction k with
  |zero=>simp
  |succ k ih=>
   intro hk h
   rw[bC jb,cK,eZ]
   have hs:[ix l k].flatMap f=f (ix l k):=by simp
   rw[hs]
   refine⟨ih jb h,(h k jb).1,λa ha b hb e=>?_⟩
   subst e
   obtain⟨y,hy,hay⟩:=bB.mp ha
   obtain⟨j,hj,rfl⟩:=aM hy
   grind[dV]
 grind[List.take_length]
def Ya{α β:Type}[Inhabited α][Inhabited β](f:α->β){l:List α}{i:Nat}(h:i<l.length):ix (l.map f) i=f (ix l i):=by grind[dV]
section
variable {n i:Nat} {e:zJ}
theorem EZ.prt(h:EZ n i e){k:Nat}(hk:k<e.a.length):∀t∈ix e.a k,∀x∈t,x.k=-1\/0<=x.k/\x.k<e.c.length:=λt ht x hx=>(((h.a k hk).2.2 t ht x hx).1).1
def ai7{α:Type}[Inhabited α]{l:List α}{k:Nat}(h:l.length<=k):ix l k=default:=by grind[ix]
def R3.avX:(default:R3).q=0:=by rfl
def EZ.amt(h:EZ n i e)(k:Nat):0<=(ix e.c k).a.q:=by
 by_cases hk:k<e.c.length
 .exact(h.c k hk).2.2.1
 .rw[ai7 jb];rfl
def LU{cs:List C5}{k:Nat}{t:dJ}:t∈Va cs k↔∃r,r<8/\t=BL cs r k:=by grind[Va]
def A8(h:EZ n i e):Ak (bW e)/\InE e.c.length (bW e):=by
 have hA:∀k,k<e.a.length->xU (λq=>0<=q) e.c.length (oD e.c (ix e.a k)).2:=λk hk=>ac6 anA h.amt λt ht x hx=>((h.a k hk).2.2 t ht x hx).1;refine⟨⟨λt ht p hp=>?_,λp hp t ht q hq=>?_⟩,⟨λt ht p hp=>?_,λp hp t ht q hq=>?_,?_,λi hi=>?_⟩⟩
 .obtain⟨r,-,rfl⟩:=LU.mp ht;exact(OM (P:=λq=>0<=q) (λi _=>h.amt i) r _ jp p hp).2
 .obtain⟨a,ha,rfl⟩:=cC.mp hp;obtain⟨k,hk,rfl⟩:=aM ha;rw[<-dV hk]at ht;exact(hA k hk t ht q hq).2
 .obtain⟨r,-,rfl⟩:=LU.mp ht;exact(OM (P:=λq=>0<=q) (λi _=>h.amt i) r _ jp p hp).1
 .obtain⟨a,ha,rfl⟩:=cC.mp hp;obtain⟨k,hk,rfl⟩:=aM ha;rw[<-dV hk]at ht;exact(hA k hk t ht q hq).1
 .show((e.a.map (oD e.c)).flatMap (·.1)).Nodup;rw[gC];refine OO (λa=>(oD e.c a).1) e.a λk hk=>⟨Gg (h.prt hk),λj hj x hx hx2=>?_⟩
  have h1:=(uN (h.prt hk)).mp hx;have h2:=(uN (h.prt (by omega:j<e.a.length))).mp hx2;obtain⟨t,ht,hm⟩:=cQ.mp h1;obtain⟨y,hy,ey⟩:=cQ.mp hm;have ey:y.k=(x:Int):=by grind
  have:=((h.a k hk).2.2 t ht y hy).2 jb;rw[ey]at this;unfold sO at this;rw[List.any_eq_false]at this;refine this (ix e.a j) ?_ h2;rw[<-Ii (l:=e.a) hj];grind[iM]
 .obtain⟨p,hp,hi⟩:=bB.mp hi;obtain⟨a,ha,rfl⟩:=cC.mp hp;obtain⟨k,hk,rfl⟩:=aM ha;rw[<-dV hk]at hi;have h1:=(uN (h.prt hk)).mp hi;have:=uw (h.prt hk) i (qM.mpr ⟨jb,h1⟩);omega
end
def ai8{g:fP}(h:GZ g):Jc g.e.length (aZ g):=by
 refine⟨λi hi=>(A8 (h.e i hi)).1,λi hi=>(A8 (h.e i hi)).2,λi c hi hc=>?_,λl hl=>?_,?_,λd hd=>?_⟩
 .have:=((h.e i hi).c c hc).2.2.2;show(ix (ix g.e i).c c).h=-1\/0<=(ix (ix g.e i).c c).h/\(ix (ix g.e i).c c).h<(g.e.length:Int);omega
 .obtain⟨d,hd,hl⟩:=bB.mp hl;obtain⟨d',hd',rfl⟩:=cC.mp hd;obtain⟨j,hj,rfl⟩:=aM hd';obtain⟨x,hx,rfl⟩:=cC.mp hl;rw[<-dV hj]at hx;obtain⟨k,hk,rfl⟩:=aM hx;obtain⟨a,b,e1,h1,h2,-⟩:=(h.l j hj).2.2 k hk;rw[<-dV hk,e1];exact⟨h1,h2⟩
 .show((g.d.map λd=>(d.w.q,d.l.map vN)).flatMap (·.2)).Nodup;rw[gC];have key:∀d,d<g.d.length->∀k,k<(ix g.d d).l.length->∀y∈gK g.d d k,(0<=y.e/\0<=y.k)->vN y≠vN (ix (ix g.d d).l k):=λd hd k hk y hy hn e=>by obtain⟨a,b,e1,h1,h2,h3,-⟩:=(h.l d hd).2.2 k hk;grind[Go.Proofs.Ins.nK,Go.Proofs.Ins.vN]
  have nn:∀d,d<g.d.length->∀y∈(ix g.d d).l,0<=y.e/\0<=y.k:=λd hd y hy=>by obtain⟨k,hk,rfl⟩:=aM hy;obtain⟨a,b,e1,-⟩:=(h.l d hd).2.2 k hk;grind[dV]
  refine OO (λd:uU=>d.l.map vN) g.d λd hd=>⟨?_,λj hj x hx hx2=>?_⟩
  .have:(List.range (ix g.d d).l.length).Pairwise (· < ·):=List.pairwise_lt_range;rw[it,List.pairwise_map,iu];intro a b ha hb hab;have:=key d hd b hb (ix (ix g.d d).l a) (List.mem_append_right _ ?_) ?_
   .grind[dV]
   .rw[<-Ii (l:=(ix g.d d).l) hab];grind[iM]
   grind[iM]
  .obtain⟨y,hy,rfl⟩:=cC.mp hx;obtain⟨z,hz,e⟩:=cC.mp hx2;obtain⟨k,hk,rfl⟩:=aM hy;rw[<-dV hk]at e;refine key d hd k hk z (gm _ (bB.mpr ⟨ix g.d j,?_,hz⟩)) (nn j jb z hz) e;rw[<-Ii (l:=g.d) hj];grind[iM]
 .obtain⟨d',hd',rfl⟩:=cC.mp hd;obtain⟨j,hj,rfl⟩:=aM hd';rw[<-dV hj];exact(h.l j hj).2.1
end Go.Proofs.Ins
namespace Go.Proofs.Xe
open Go.RowKit Go.Proofs.Ins
def vQ:Rat:=((256^uK:Nat):Rat)
def uQ:Rat:=((256^900:Nat):Rat)
def OQ:0<=uQ:=by have:((0:Nat):Rat)<=((256^900:Nat):Rat):=br.mpr (bz _);exact this
def pow_two{a b c:Nat}(h:a+b=c):256^a*256^b=256^c:=by rw[<-h,dE]
def Gh{k:Nat}(h:k<=256^100):(k:Rat)*uQ<=vQ:=by
 unfold uQ vQ;rw[<-fa];refine br.mpr ?_;calc k*256^900<=256^100*256^900:=bw _ h
  _=256^uK:=pow_two (show 100+900=uK from rfl)
def OT{k:Nat}(h:k<=256^100):(k:Rat)<=vQ:=by unfold vQ;exact br.mpr (az h (bN jj jj))
abbrev IQ(A:Nat)(q:Rat):Prop:=dX A q/\0<=q/\q<=uQ
section
variable {A n:Nat} {l:fU}
def Vd{t:dJ}(h:Aa (IQ A) n t):aV t<=(t.length:Rat)*uQ:=by
 induction t with
 |nil=>show(0:Rat)<=_;simp
 |cons p t ih=>
  have h1:=ih λq hq=>h q (by simp[hq])
  have h2:=(h p kc).2.2.2
  rw[bX,gc]
  grind[aV]
def N8:∀{l:fU},xU (IQ A) n l->jr l<=(dH l:Rat)*uQ
 |[],_=>by show(0:Rat)<=((0:Nat):Rat)*uQ;simp
 |t::l,h=>by have h1:=N8 (l:=l) λu hu=>h u (by simp[hu]);have h2:=Vd (h t kc);show aV t+jr l<=((t.length+dH l:Nat):Rat)*uQ;grind
theorem zy:∀{l:fU},Kw l->0<=jr l
 |[],_=>be
 |t::l,h=>by have:=zy (l:=l) λu hu=>h u (by simp[hu]);have:=yI (h t kc);show 0<=aV t+jr l;grind
def ai9:∀{l:fU}{j:Nat},Kw l->j<l.length->aV (ix l j)<=jr l
 |t::l,0,h,_=>by have:=zy (l:=l) λu hu=>h u (by simp[hu]);show aV t<=aV t+jr l;grind
 |t::l,j+1,h,hj=>by have:=ai9 (l:=l) (j:=j) (λu hu=>h u (by simp[hu])) (by simpa using hj);have:=yI (h t kc);show aV (ix l j)<=aV t+jr l;grind
theorem aaY:∀{l:fU}(k:Nat),Kw l->0<=BK l k/\BK l k<=jr l
 |[],k,h=>by unfold BK;rw[List.take_nil];exact⟨be,be⟩
 |t::l,0,h=>⟨be,zy h⟩
 |t::l,k+1,h=>by obtain⟨h1,h2⟩:=aaY (l:=l) k λu hu=>h u (by simp[hu]);have:=yI (h t kc);unfold BK at h1 h2⊢;rw[fT];show 0<=aV t+jr _/\aV t+jr _<=aV t+jr l;grind
end
structure EB(n:Nat)(e:fA):Prop where
 nb:n<=1000
 r0:0<e.rk.length
 r1:e.rk.length<=1000
 rn:dH e.rk<=1000
 ps:e.ps.length<=1000
 m:∀p∈e.ps,p.1.length<=1000/\∀i∈p.1,i<n
 p:∀p∈e.ps,0<p.2.length/\p.2.length<=1000/\dH p.2<=10000
section
variable {A B R D n:Nat} {l:fU} {m x:Rat}
theorem nX(hD:BJ D)(hB:B∣D){q:Rat}(h:dX B q)(h0:0<=q)(h1:q<=vQ):Zk D 1 q:=Zk.of hD.1 (h.dvd hB hD.1) h0 h1
theorem tY:2<=256^uK:=az (by decide:2<=256^1) (bN jj jj)
def Et:∀{l:fU}{t:dJ},t∈l->t.length<=dH l
 |u::l,t,h=>by
  unfold dH;rcases bA.mp h with rfl|h
  .omega
  .have:=Et h;omega
def Yb(hD:BJ D)(hA:A∣D)(h:xU (IQ A) n l)(hl:l.length<=1000)(hn:dH l<=10000):OD D n l:=by
 have hU:=Gh (k:=10000) jj;have hU1:=Gh (k:=1) jj;have hz:∀t∈l,∀p∈t,Zk D 1 p.2:=λt ht p hp=>by have:=(h t ht p hp).2;grind[Go.Proofs.Xe.nX]
 refine⟨jb,λt ht=>by have:=Et ht;omega,λt ht=>?_,λt ht p hp=>(h t ht p hp).1,λt ht p hp=>(hz t ht p hp).sz hD (by grind[tY]),hz⟩;have h1:=Vd (h t ht);have h2:(t.length:Rat)<=((10000:Nat):Rat):=br.mpr (by have:=Et ht;omega);have h3:=bo h2 OQ;refine(nX hD hA (DI λp hp=>⟨(h t ht p hp).2.1,(h t ht p hp).2.2.1⟩) (yI λp hp=>(h t ht p hp).2.2.1) kd).sz hD (by grind[tY])
def LV(hA0:0<A)(hD:BJ D)(hA:A∣D)(h:xU (IQ A) n l)(hn:dH l<=10000)(hB:B∣D)(hm:dX B m)(h0:0<=m)(h1:m<=vQ)(hR0:0<R)(hR:R*wJ A l m∣D)(hx:dX R x)(hx0:0<=x)(hx1:x<=vQ):OE D l m x:=by
 have hnn:=h.D.nn;have hR1:R∣D:=bO (aR _ _) hR;have hU:=Gh (k:=10000) jj;have h2:(dH l:Rat)<=((10000:Nat):Rat):=br.mpr hn;have h3:=bo h2 OQ;have ht:=N8 h;have hu:=tY;have hzx:=nX hD hR1 hx hx0 hx1;refine⟨λk _=>?_,h0,hzx.sz hD jb,λhf=>?_,λhf p hp=>?_⟩
 .have hc:=aaY k hnn;exact((nX hD hB hm h0 h1).sub (nX hD hA (ai2 h.D k) hc.1 kd)).sz hD jb
 .have hs:=Ac h0 hf;have:=ai9 hnn hf;exact hzx.avg (nX hD hA (DI (h.D _ (gI hf))) (dT hs) kd) hD jb jb kd
 .have hs:=Ac h0 hf;have hpp:=h.D _ (gI hf) p hp;have hps:p.2<=aV (ix l (dP l m)):=by
   have:∀t:dJ,(∀q∈t,0<=q.2)->p∈t->p.2<=aV t:=λt=>by
    induction t with
    |nil=>simp
    |cons q t ih=>
     intro hq hp
     show p.2<=q.2+aV t
     have h4:=hq q kc
     have h5:0<=aV t:=yI λr hr=>hq r (by simp[hr])
     grind
   exact this _ (λq hq=>(h.D _ (gI hf) q hq).2) hp
  have e:p.2*(x/aV (ix l (dP l m)))=x*(p.2/aV (ix l (dP l m))):=by grind
  have h4:=xM hs hps;have h5:=aaN hpp.2 hs;have h6:=cN h4 hx0;refine nX hD hR (ai3 hA0 h.D h0 hR0 hx hf hpp.1) ?_ ?_
  .grind[Rat.mul_nonneg]
  grind
def left_le(h0:0<=m)(h:Kw l):0<=jD l m/\jD l m<=m:=by grind[Go.Proofs.Xe.U5,Go.Proofs.Xe.OC,Go.Proofs.Xe.aaY]
def aso{l:fU}(h:Kw l)(c:Int):∀{m:Rat},0<=m->iy l m c<=jr l:=by
 induction l with
 |nil=>intro m _;rfl
 |cons t l ih=>
  intro m hm
  have hl:=zy (l:=l) λu hu=>h u (by simp[hu])
  have h2:=Ls (h t kc) c
  have h3:=wG (h t kc) c
  unfold iy
  show _<=aV t+jr l
  split
  .next hlt=>
   have h4:=xM (a:=m) (b:=aV t) kd (dT hlt)
   have h5:=cN h4 h3
   grind
  .have:=ih (λu hu=>h u (by simp[hu])) (m:=m-aV t) kd
   grind
def Ve{l:fU}(h:Kw l)(c:Int){x:Rat}(hx:0<=x)(h0:0<=m):jU l m x c<=x:=by
 rw[Es];split
 .next hf=>
  have hs:=Ac h0 hf;have hl:=h _ (gI hf);have e:fZ (ix l (dP l m)) c*(x/aV (ix l (dP l m)))=x*(fZ (ix l (dP l m)) c/aV (ix l (dP l m))):=by grind
  rw[e];have h4:=xM hs (Ls hl c);have h6:=cN h4 hx;grind
 omega
end
section
variable {A B D n:Nat} {m:Rat} {e:fA}
def rO{α:Type}{f:α->Rat}{v:Rat}(h0:0<=v):∀{l:List α}{k:Nat},(∀a∈l,f a<=v)->l.length<=k->aI l f<=(k:Rat)*v
 |[],k,_,_=>by have:((0:Nat):Rat)<=(k:Rat):=br.mpr (bz _);exact cj this h0
 |a::l,k,h,hk=>by
  obtain⟨k,rfl⟩:∃j,k=j+1:=⟨k-1,by simp at hk;omega⟩
  have h1:=rO h0 (l:=l) (k:=k) (λb hb=>h b (by simp[hb])) (by simpa using hk);have h2:=h a kc;show f a+aI l f<=_;rw[gc];have:((1:Nat):Rat)=1:=rfl;grind
def aja(h:ED A uQ n e)(hb:EB n e)(h0:0<=m){p:List Nat×fU}(hp:p∈e.ps):kK e m p<=vQ:=by have ht:=N8 h.rk;have h2:(dH e.rk:Rat)<=((1000:Nat):Rat):=br.mpr hb.rn;have h3:=bo h2 OQ;have h4:=rO (f:=y7 e m) (v:=((1000:Nat):Rat)*uQ) (cj (br.mpr (bz 1000)) OQ) (l:=p.1) (k:=1000) (λc _=>cI (aso h.rk.D.nn c h0) (cI ht h3)) (hb.m p hp).1;have h5:=Gh (k:=1000*1000) jj;grind[kK]
def asq(h:ED A uQ n e)(hb:EB n e)(h0:0<=m){p:List Nat×fU}(hp:p∈e.ps):rY e m p<=vQ:=by have h4:=rO (f:=rts e m) (v:=1) jj (l:=p.1) (k:=1000) (λc _=>Ve h.rk.D.nn c jj h0) (hb.m p hp).1;have h5:=OT (k:=1000) jj;grind[rY]
def ajb(hD:BJ D)(hA:A∣D)(h:ED A uQ n e)(hb:EB n e):EOk D n e:=by
 have hn:=hb.nb;have hps:=hb.ps;refine⟨jb,Yb hD hA h.rk hb.r1 (by have:=hb.rn;omega),hb.r0,jb,λp hp=>⟨by have:=(hb.m p hp).1;omega,(hb.m p hp).2⟩,λp hp=>⟨Yb hD hA (h.ps p hp) (hb.p p hp).2.1 (hb.p p hp).2.2,(hb.p p hp).1⟩,?_⟩;have h1:∀l:List (List Nat×fU),(∀p∈l,dH p.2<=10000)->IG l<=l.length*10000:=λl=>by
  induction l with
  |nil=>intro _;exact cL 0
  |cons p l ih=>
   grind[IG]
 have h2:=h1 e.ps λp hp=>(hb.p p hp).2.2;have h3:=hb.rn;grind[uK]
def ajc(hA0:0<A)(hB0:0<B)(hAB:A∣B)(hD:BJ D)(hBD:B*BM A e m∣D)(h:ED A uQ n e)(hb:EB n e)(hm:dX B m)(h0:0<=m)(h1:m<=vQ):MOk D e m:=by
 have hB:B∣D:=bO (aR _ _) hBD;have hA:A∣D:=bO hAB hB;have hr:B*wJ A e.rk m∣D:=bO (cF _ (aR _ _)) hBD;have hr0:=cw hB0 (rM hA0 h.rk.D h0);refine⟨(nX hD hB hm h0 h1).sz hD (by grind[tY]),?_,λp hp=>?_⟩
 .have hl:=left_le h0 h.rk.D.nn;exact LV hA0 hD hA h.rk (by have:=hb.rn;omega) hB hm h0 h1 hB0 hr (aaX hA0 hB0 hAB h.rk.D hm) hl.1 (cI hl.2 h1)
 .have hg:=mY h.nn h0 p;have hgD:=X8 hA0 hB0 hAB h hm h0 p;have hgl:=aja h hb h0 hp;have hl:=left_le hg (h.ps p hp).D.nn;have hd:B*wJ A e.rk m*wJ A p.2 (kK e m p)∣D:=by refine bO ?_ hBD;rw[fR];exact cF _ (cF _ (DJ A e m hp))
  exact⟨LV hA0 hD hA (h.ps p hp) (hb.p p hp).2.2 hr hgD hg hgl hr0 hd (aaX hA0 hr0 (bO hAB (aR _ _)) (h.ps p hp).D hgD) hl.1 (cI hl.2 hgl),(nX hD hr hgD hg hgl).sz hD (by grind[tY])⟩
def ajd(hA0:0<A)(hB0:0<B)(hAB:A∣B)(hD:BJ D)(hBD:B*BM A e m∣D)(h:ED A uQ n e)(hb:EB n e)(hm:dX B m)(h0:0<=m)(h1:m<=vQ):ROk D e m:=by
 have hB:B∣D:=bO (aR _ _) hBD;have hA:A∣D:=bO hAB hB;have hr:B*wJ A e.rk m∣D:=bO (cF _ (aR _ _)) hBD;have hr0:=rM hA0 h.rk.D h0;have hr1:wJ A e.rk m∣D:=bO (gL _ _) hr;have h1v:=OT (k:=1) jj;refine⟨?_,λp hp=>?_⟩
 .exact LV (R:=1) hA0 hD hA h.rk (by have:=hb.rn;omega) hB hm h0 h1 jj kd ⟨1,by grind⟩ jj h1v
 .have hg:=mY h.nn h0 p;have hgD:=X8 hA0 hB0 hAB h hm h0 p;have hgl:=aja h hb h0 hp;have hR:=JB h.nn h0 p;have hRD:=ac7 hA0 h h0 p;have hRl:=asq h hb h0 hp;have hd:wJ A e.rk m*wJ A p.2 (kK e m p)∣D:=by refine bO ?_ (bO (gL _ _) hBD);exact cF _ (DJ A e m hp)
  exact⟨LV hA0 hD hA (h.ps p hp) (hb.p p hp).2.2 hr hgD hg hgl hr0 hd hRD hR hRl,(nX hD hr1 hRD hR hRl).sz hD (by grind[tY])⟩
end
section
variable {E:Env} [aax E] {p:Nat→Prop} {σ:St} {K:V→St→Prop}
def Yc{v:B}{a:gV}(ha:dZ p σ.h v a)(h1:a.length<=1000000)(h2:a.flatten.length<=1000000){v':V}{σ':St}(hm:aie a.flatten σ=some (v',σ')):aC E 133 [.c v] σ K=K v' σ':=
 Q7 (by have h:=(amT ha h1 h2).trans hm;unfold Xx;rw[acs rfl];unfold amV aij;simp only[Nat.reduceEqDiff,reduceIte,h])
def Rx{v:B}{a:gV}(ha:dZ p σ.h v a)(h1:a.length<=1000000)(h2:a.flatten.length<=1000000){v':V}{σ':St}(hm:aic (wF a) σ=some (v',σ')):aC E 91 [.agg [v]] σ K=K v' σ':=
 Q7 (by have h:=(amS ha h1 h2).trans hm;unfold Xx;rw[acs rfl];unfold amV aij;simp only[Nat.reduceEqDiff,reduceIte,h])
end
def Ry{E:Env}[aax E]{σ:St}(hW:WF σ){p:Nat->Prop}{v:B}{a:gV}(ha:dZ p σ.h v a)(h1:a.length<=1000000)(h2:a.flatten.length<=1000000):
  aC E 91 [.agg [v]] σ λr σ'=>(∃u,r=.c u/\tN σ'.h u (wF a).length (λi=>[.int .i64 (ix (wF a) i)]) 1 3 σ.aj σ'.aj)/\Fr σ σ':=by
 by_cases h0:(wF a).length=0
 .rw[Rx ha h1 h2 (v':=.c .aX) (σ':=σ) (ab h0)]
  exact⟨⟨_,rfl,.inl ⟨h0,rfl⟩⟩,Fr.refl hW⟩
 .rw[Rx ha h1 h2 (ae h0)]
  exact⟨⟨_,rfl,.inr ⟨jb,_,rfl,aA _ _ _,jp,cg _⟩⟩,fr⟩
def anB{a:gV}{n:Nat}(ha:∀t∈a,∀x∈t,x.k=-1\/0<=x.k/\x.k<n){i:Nat}(hi:i<(wF a).length):B.int .i64 (ix (wF a) i)=Qd (jW a) i:=by unfold Qd jW;rw[Ya Int.toNat hi];have:=uw ha _ (iM hi);grind
def OU(a:gV):(jW a).length=(wF a).length:=cV _
structure TS(σ:St)(tb bs:Nat)(t:dJ):Prop where
 b:σ.h tb=some ⟨jV (aU t.length bs) (aV t),none⟩
 o:OL σ.h bs t
 lo:tb<bs
 hi:t.length=0\/bs<σ.aj
def TS.lt{σ:St}(hW:WF σ){tb bs:Nat}{t:dJ}(h:TS σ tb bs t):tb<σ.aj:=hW.lt h.b
def TS.on{σ σ':St}{tb bs:Nat}{t:dJ}(h:TS σ tb bs t)(h1:∀b,tb<=b->b<σ.aj->σ'.h b=σ.h b)(hW:WF σ)(hle:σ.aj<=σ'.aj):TS σ' tb bs t:=by have h0:=h.lt hW;have hlo:=h.lo;have hhi:=h.hi;refine⟨by rw[h1 tb jp h0];exact h.b,?_,hlo,jb⟩;refine(wE ?_).trans h.o;grind
theorem TS.fr{σ σ':St}{tb bs:Nat}{t:dJ}(h:TS σ tb bs t)(hW:WF σ)(hf:Fr σ σ'):TS σ' tb bs t:=h.on (λb _ hb=>hf.old b hb) hW hf.le
def TS.fre{σ σ':St}{ex:List Nat}{tb bs:Nat}{t:dJ}(h:TS σ tb bs t)(hW:WF σ)(hf:aT ex σ σ')(hx:∀b∈ex,b<tb):TS σ' tb bs t:=h.on (λb h1 h2=>hf.old b h2 λhm=>by grind) hW hf.le
def aaZ{σ:St}(hW:WF σ){tb bs:Nat}{t:dJ}(hT:TS σ tb bs t)(hl:t.length<=1000000)(k:Int)(q:Rat)(hs:Sz (aV t))(hq:Sz q):
  aC EN 93 [.c (.ptr tb 0),.c (.int .i64 k),.agg [.bool (rn q),.str (rs q),.str (rd q)]] σ λ_ σ'=>(∃bs',TS σ' tb bs' (t++[(k,q)]))/\(∀b,b<tb->σ'.h b=σ.h b)/\WF σ'/\σ.aj<=σ'.aj:=by
 have h0:=hT.lo
 have hlt:=hT.lt hW
 have:=aiY (G:=λ_=>jV (aU t.length bs) (aV t)) (n:=1) (r:=0) hW (by rw[hT.b];rfl) jj (λ_=>rfl) rfl rfl rfl hT.o (.inr jb) hT.hi hl k q hs hq
 refine this.mono ?_
 rintro _ σ' ⟨nx,h1,h2,h3,h4,h5⟩
 have hle:=h5.le
 refine⟨⟨nx,?_,?_,jb,.inr h2⟩,λb hb=>h5.old b jb kd,h5.wf,hle⟩
 .rw[h3,Ru,aD];rfl
 .unfold OL
  rw[aD,bL]
  show σ'.h nx=some _
  grind[Go.Proofs.Xe.kY,Go.Proofs.Xe.bY,Go.Proofs.Xe.ji,Go.Proofs.Xe.gy,Go.Proofs.Xe.gu]
def anC(U:Nat->B)(Lf:Nat->dJ)(p:Nat->Prop)(h:Tr Bk)(i:Nat):Prop:=aY p h 4 (U i) (Lf i).length λc=>zX (ix (Lf i) c)
def Yd(U:Nat->B)(Lf:Nat->dJ)(i:Nat):List B:=jV (U i) (aV (Lf i))
abbrev aa0(U:Nat->B)(Lf:Nat->dJ)(h:Tr Bk)(b n lo hi:Nat):Prop:=NF (anC U Lf) h b n (Yd U Lf) 4 157 lo hi
def Vf(U:Nat->B)(Lf:Nat->dJ)(j:Nat):QK (anC U Lf) j:=λ_ _ _ _ hp hk hq=>aY.keep hp hk hq
def Vg(U:Nat->B)(Lf:Nat->dJ):LG (Yd U Lf) 4:=λ_=>rfl
section
variable {U:Nat→B} {Lf:Nat→dJ} {h h' : Tr Bk} {b n lo hi:Nat}
def aa0.push(ho:aa0 U Lf h b n lo hi){σ1:St}(hW:WF σ1){tb bs nx n':Nat}{t:dJ}(hL:Lf n=t)(hT:TS σ1 tb bs t)(ht:hi<=tb)(h5:lo<=hi)(hh:∀b,lo<=b->b<hi->σ1.h b=h b)(h3:σ1.aj<=nx)(h4:nx<n')
  (hb:h' nx=some ⟨bH n (Yd U Lf)++jV (aU t.length bs) (aV t),some (4,157)⟩) (hk:∀c,lo<=c->c<σ1.aj->n=0\/c≠b->h' c=σ1.h c):aa0 (aP U n (aU t.length bs)) Lf h' nx (n+1) lo n':=by
 have hlt:=hT.lt hW
 have hlo:=hT.lo
 have hx:aY (λb=>hi<=b/\b<σ1.aj) σ1.h 4 (aU t.length bs) t.length λj=>zX (ix t j):=hT.o.hlp (by rcases hT.hi with h0|h0;exact .inl h0;omega)
 refine NF.push ho (λj _=>Vf _ Lf j) (λj hj p h hq=>?_) (hi1:=σ1.aj) (h1:=σ1.h) ?_ hh jb h3 h4 h5 hb ?_ hk (λi hi=>?_) (Vg _ _)
 .grind[anC,aQ]
 .grind[anC,aO]
 .grind[Yd,aO]
 grind[Yd,aQ]
def aa0.asr(ho:aa0 U Lf h b n lo hi){l:fU}(hl:l.length=n)(hL:∀i,i<n->Lf i=ix l i):yK (λb=>lo<=b/\b<hi) h (aU n b) l:=by
 have hel:=λi (hi:i<n)=>ho.el (λj _=>Vf U Lf j) hi;refine⟨U,?_,by cases n<;>trivial,λi hi=>?_⟩
 .rw[hl];refine(ho.hlp jj (λi hi=>?_) λb h1 h2=>⟨h1,h2⟩).congr λi hi=>by grind[Yd]
  unfold Yd jV;simp only[cO,eo,Ar,FY,(hel i hi).kn,dy]
 .rw[hl]at hi;rw[<-hL i hi];exact hel i hi
end
def lsS(cs:List C5)(a:gV)(j:Nat):(Nat->Rat)×fU:=(a.take j).foldl ltS ((λi:Nat=>(ix cs i).a.q),[])
def Ba(f:Nat->Rat)(t:FZ)(l:Nat):(Nat->Rat)×dJ:=(t.take l).foldl LQ (f,[])
theorem OV{cs:List C5}{a:gV}{j:Nat}(h:j<a.length):lsS cs a (j+1)=ltS (lsS cs a j) (ix a j):=by grind[lsS,bC]
def IU(cs:List C5)(a:gV):lsS cs a a.length=lsA cs a:=by grind[lsS,lsA]
def Bc(cs:List C5)(a:gV):∀j,j<=a.length->(lsS cs a j).2.length=j
 |0,_=>rfl
 |j+1,h=>by rw[OV jb];unfold ltS;rw[aD,Bc cs a j jb];rfl
def aa1{α:Type}[Inhabited α]{l:List α}{x:α}{n:Nat}(h:l.length=n):ix (l++[x]) n=x:=by grind[gy]
def rP(m k:Nat)(F:Nat->Rat):cZ m (aP (λi=>if i<k then F i else 0) k (F k))=cZ m λi=>if i<k+1 then F i else 0:=dQ λi _=>by grind[aP]
def yM(m:Nat)(F:Nat->Rat):cZ m (λi=>if i<m then F i else 0)=cZ m F:=dQ λi hi=>ab hi
def xW(m:Nat)(F:Nat->Rat):cZ m (λ_=>0)=cZ m λi=>if i<0 then F i else 0:=dQ λi _=>rfl
def aje{s:(Nat->Rat)×dJ}{x:Aj}{kk:Nat}(h1:¬x.k=-1)(hk:x.k=Int.ofNat kk):LQ s x=(aP s.1 kk (s.1 kk-if x.b=true then jv (s.1 kk) x.a.q else s.1 kk),s.2++[(Int.ofNat kk,if x.b=true then jv (s.1 kk) x.a.q else s.1 kk)]):=by unfold LQ;rw[ae h1,hk];refine Prod.ext ?_ rfl;grind[aP]
def Vh{cs:List C5}{a:gV}{i:Nat}:∀{j},i<j->j<=a.length->ix (lsS cs a j).2 i=(Ba (lsS cs a i).1 (ix a i) (ix a i).length).2
 |j+1,hi,hj=>by
  rw[OV jb];unfold ltS;by_cases e:i=j
  .subst e;have:=Bc cs a i jb;exact(aa1 this).trans (by unfold Ba;rw[bR])
  .show ix ((lsS cs a j).2++[_]) i=_;rw[gu _ _ (by rw[Bc cs a j jb];omega)];exact Vh jb jb
def Ye{f:Nat->Rat}{t:FZ}{l:Nat}(h:l<t.length):Ba f t (l+1)=LQ (Ba f t l) (ix t l):=by grind[Ba,bC]
def LW(f:Nat->Rat)(t:FZ):∀l,l<=t.length->(Ba f t l).2.length=l
 |0,_=>rfl
 |l+1,h=>by rw[Ye jb];unfold LQ;split<;>simp[LW f t l jb]
def ajf{cs:List C5}{a:gV}{j:Nat}(h:j<a.length):(lsS cs a (j+1)).1=(Ba (lsS cs a j).1 (ix a j) (ix a j).length).1:=by grind[OV,ltS,Ba]
def afu(ms:List Nat)(f:Nat->Rat){i:Nat}(h:i<ms.length):vM (ms.take (i+1)) f=vM (ms.take i) f++[(((ix ms i:Nat):Int),f (ix ms i))]:=by grind[vM,bC]
def ajg:∀{l:List Int}{lo hi:Int},l.Pairwise (· < ·)->(∀x∈l,lo<=x/\x<hi)->l.length<=(hi-lo).toNat
 |[],_,_,_,_=>bz _
 |a::l,lo,hi,hp,h=>by
  rw[List.pairwise_cons]at hp;have h1:=h a kc;have:=ajg (lo:=a+1) (hi:=hi) hp.2 λx hx=>by grind
  grind
def Gi{a:gV}{n:Nat}(ha:∀t∈a,∀x∈t,x.k=-1\/0<=x.k/\x.k<n):(jW a).length<=n:=by have:=ajg (acn a) (uw ha);rw[OU];omega
theorem LX(cs:List C5)(r:Nat):∀k,(BL cs r k).length<=k
 |0=>cL 0
 |k+1=>by have:=LX cs r k;unfold BL;rw[aD];split<;>simp<;>omega
section
variable {A n:Nat}
def asu(hA:0<A):Qe (IQ A) where
 min:=λa b ha hb=>by grind[jv]
 sub:=λa b ha hb=>by
  have h1:=ha.2;have h2:=hb.2;unfold jv;split
  .grind[dX.zero]
  .exact⟨ha.1.sub hb.1,by grind,by grind⟩
 zero:=⟨dX.zero A,be,OQ⟩
def OW(hA:BJ A){q:Rat}(h:IQ A q):Sz q:=by have hU:=Gh (k:=1) jj;have:((1:Nat):Rat)=1:=rfl;exact(nX hA (ii A) h.1 h.2.1 kd).sz hA (by grind[tY])
def Vj(hA:BJ A){t:dJ}(h:Aa (IQ A) n t)(hl:t.length<=10000):Sz (aV t):=by have hU:=Gh (k:=10000) jj;have h1:=Vd h;have h2:(t.length:Rat)<=((10000:Nat):Rat):=br.mpr hl;have h3:=bo h2 OQ;exact(nX hA (ii A) (DI λp hp=>⟨(h p hp).2.1,(h p hp).2.2.1⟩) (yI λp hp=>(h p hp).2.2.1) kd).sz hA (by grind[tY])
def asv{P:Rat->Prop}(hP:Qe P){f:Nat->Rat}(hf:∀i,P (f i)){t:FZ}(ht:∀x∈t,Qg P n x)(l:Nat):(∀i,P ((Ba f t l).1 i))/\Aa P n (Ba f t l).2:=
 aaU hP (t.take l) hf (λ_ h=>by cases h) λx hx=>ht x (ec hx)
def asw{P:Rat->Prop}(hP:Qe P){cs:List C5}(hc:∀i,P (ix cs i).a.q){a:gV}(ha:∀t∈a,∀x∈t,Qg P n x)(j:Nat)(i:Nat):P ((lsS cs a j).1 i):=
 (aaV hP (a.take j) hc (λ_ h=>by cases h) λt ht=>ha t (ec ht)).1 i
end
def asx(p q:Rat):Jq p q=jv p q:=by
 unfold Jq jv;by_cases h:p<=q
 .rw[ab h,ab (wB.mpr h)]
 .rw[ae h,ae λe=>h (wB.mp e)]
structure ajh(A:Nat)(cs:List C5)(a:gV):Prop where
 nc:cs.length<=1000
 na:a.length<=1000
 nt:∀t,t<a.length->(ix a t).length<=1000
 nf:a.flatten.length<=1000000
 fc:∀i,i<cs.length->(ix cs i).a.fits 1000000
 fp:∀t,t<a.length->∀l,l<(ix a t).length->(ix (ix a t) l).a.fits 1000000
 c:∀i,IQ A (ix cs i).a.q
 p:∀t∈a,∀x∈t,Qg (IQ A) cs.length x
end Go.Proofs.Xe
