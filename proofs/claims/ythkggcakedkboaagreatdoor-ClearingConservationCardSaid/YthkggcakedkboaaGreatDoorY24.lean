import Derived.Test.YthkggcakedkboaaGreatDoorY23
set_option linter.all false
namespace Go.Proofs.Ins
def jW(a:gV):List Nat:=(wF a).map Int.toNat
def BH(cs:List C5)(r:Nat):Nat->dJ
 |0=>[]
 |k+1=>BH cs r k++if(ix cs k).r=(r:Int)then [((k:Int),(ix cs k).a.q)]else []
def U8(cs:List C5)(k:Nat):fU:=(List.range 8).map λr=>BH cs r k
def LM(s:(Nat->Rat)×dJ)(x:Ah):(Nat->Rat)×dJ:=
 if x.k=-1 then(s.1,s.2++[((-1:Int),x.a.q)])
 else((λi=>if i=x.k.toNat then s.1 i-(if x.b=true then jC (s.1 x.k.toNat) x.a.q else s.1 x.k.toNat)else s.1 i),s.2++[(x.k,if x.b=true then jC (s.1 x.k.toNat) x.a.q else s.1 x.k.toNat)])
def ltS(s:(Nat->Rat)×fU)(t:FW):(Nat->Rat)×fU:=((t.foldl LM (s.1,[])).1,s.2++[(t.foldl LM (s.1,[])).2])
def lsA(cs:List C5)(a:gV):(Nat->Rat)×fU:=a.foldl ltS ((λi:Nat=>(ix cs i).a.q),[])
def vO(ms:List Nat)(f:Nat->Rat):dJ:=ms.map λi:Nat=>((i:Int),f i)
def oq(cs:List C5)(a:gV):List Nat×fU:=(jW a,(lsA cs a).2++[vO (jW a) (lsA cs a).1])
def cO(e:yV):fC:=⟨U8 e.c e.c.length,e.a.map (oq e.c)⟩
structure Qg(P:Rat->Prop):Prop where
 min:∀a b,P a->P b->P (jC a b)
 sub:∀a b,P a->P b->P (a-jC a b)
 zero:P 0
def Qh(P:Rat->Prop)(n:Nat)(x:Ah):Prop:=(x.k=-1\/0<=x.k/\x.k<n)/\((x.k=-1\/x.b=true)->P x.a.q)
def zY(P:Rat->Prop)(n:Nat)(t:dJ):Prop:=∀p∈t,(p.1=-1\/0<=p.1/\p.1<n)/\P p.2
section
variable {P:Rat→Prop} {n:Nat}
def zY.snoc{t:dJ}(h:zY P n t){p:Int×Rat}(h1:p.1=-1\/0<=p.1/\p.1<n)(h2:P p.2):zY P n (t++[p]):=λq hq=>by
 rcases bO.mp hq with hq|hq
 .exact h q hq
 grind
def avS(hP:Qg P){s:(Nat->Rat)×dJ}(h1:∀i,P (s.1 i))(h2:zY P n s.2){x:Ah}(hx:Qh P n x):(∀i,P ((LM s x).1 i))/\zY P n (LM s x).2:=by
 unfold LM;by_cases e:x.k=-1
 .rw[ab e];exact⟨h1,h2.snoc (.inl rfl) (hx.2 (.inl e))⟩
 .rw[ae e];dsimp only;have self:P (s.1 x.k.toNat-s.1 x.k.toNat):=by rw[show s.1 x.k.toNat-s.1 x.k.toNat=0 by grind];exact hP.zero
  refine⟨λi=>?_,h2.snoc hx.1 ?_⟩
  .split
   .next e2=>
    rw[e2];split
    .next hb=>exact hP.sub _ _ (h1 _) (hx.2 (.inr hb))
    omega
   grind
  .dsimp only;split
   .next hb=>exact hP.min _ _ (h1 _) (hx.2 (.inr hb))
   grind
def aaK(hP:Qg P):∀(t:FW){s:(Nat->Rat)×dJ},(∀i,P (s.1 i))->zY P n s.2->(∀x∈t,Qh P n x)->(∀i,P ((t.foldl LM s).1 i))/\zY P n (t.foldl LM s).2
 |[],_,h1,h2,_=>⟨h1,h2⟩
 |x::t,s,h1,h2,h=>by obtain⟨h3,h4⟩:=avS hP h1 h2 (h x kc);exact aaK hP t h3 h4 λy hy=>h y (by simp[hy])
def xU(P:Rat->Prop)(n:Nat)(l:fU):Prop:=∀t∈l,zY P n t
def xU.snoc{l:fU}(h:xU P n l){t:dJ}(ht:zY P n t):xU P n (l++[t]):=λu hu=>by
 rcases bO.mp hu with hu|hu
 .exact h u hu
 grind
def aaL(hP:Qg P):∀(a:gV){s:(Nat->Rat)×fU},(∀i,P (s.1 i))->xU P n s.2->(∀t∈a,∀x∈t,Qh P n x)->(∀i,P ((a.foldl ltS s).1 i))/\xU P n (a.foldl ltS s).2
 |[],_,h1,h2,_=>⟨h1,h2⟩
 |t::a,s,h1,h2,h=>by obtain⟨h3,h4⟩:=aaK hP t (s:=(s.1,[])) h1 (λ_ h=>by cases h) (h t kc);exact aaL hP a (s:=ltS s t) h3 (h2.snoc h4) λu hu=>h u (by simp[hu])
def aiT(hP:Qg P){cs:List C5}{a:gV}(hc:∀i,P (ix cs i).a.q)(ha:∀t∈a,∀x∈t,Qh P n x):(∀i,P ((lsA cs a).1 i))/\xU P n (lsA cs a).2:=aaL hP a hc (λ_ h=>by cases h) ha
def uw{a:gV}(ha:∀t∈a,∀x∈t,x.k=-1\/0<=x.k/\x.k<n):∀c∈wF a,0<=c/\c<n:=λc hc=>by obtain⟨h1,h2⟩:=qL.mp hc;obtain⟨t,ht,hm⟩:=cP.mp h2;obtain⟨x,hx,e⟩:=cP.mp hm;grind
def uN{a:gV}(ha:∀t∈a,∀x∈t,x.k=-1\/0<=x.k/\x.k<n){i:Nat}:i∈jW a↔EH a (i:Int)=true:=by
 unfold jW;rw[cB];constructor
 .rintro⟨c,hc,rfl⟩;have h1:=uw ha c hc;rw[eg h1.1];exact(qL.mp hc).2
 .intro h;exact⟨i,qL.mpr ⟨jb,h⟩,by simp⟩
def F8{a:gV}(ha:∀t∈a,∀x∈t,x.k=-1\/0<=x.k/\x.k<n):(jW a).Nodup:=by unfold jW;rw[ir,List.pairwise_map];refine List.Pairwise.imp_of_mem (λ{x y} hx hy h=>?_) (ab8 a);have:=uw ha x hx;omega
def acX(hP:Qg P){cs:List C5}{a:gV}(hc:∀i,P (ix cs i).a.q)(ha:∀t∈a,∀x∈t,Qh P n x):xU P n (oq cs a).2:=by obtain⟨h1,h2⟩:=aiT hP hc ha;refine h2.snoc λp hp=>?_;unfold vO at hp;obtain⟨i,hi,rfl⟩:=cB.mp hp;have:=(uN λt ht x hx=>(ha t ht x hx).1).mp hi;have h3:=uw (a:=a) (λt ht x hx=>(ha t ht x hx).1) i (qL.mpr ⟨jb,this⟩);grind
def OI{cs:List C5}(hc:∀i,i<cs.length->P (ix cs i).a.q)(r:Nat):∀k,k<=cs.length->∀p∈BH cs r k,(0<=p.1/\p.1<cs.length)/\P p.2
 |0,_,p,hp=>by cases hp
 |k+1,hk,p,hp=>by
  unfold BH at hp;rcases bO.mp hp with hp|hp
  .exact OI hc r k jb p hp
  grind
end
end Go.Proofs.Ins
namespace Go.Proofs.Xe
open Go.RowKit Go.Proofs.Ins
def dV(D:Nat)(q:Rat):Prop:=∃a:Int,q=(a:Rat)/(D:Rat)
theorem iI{D:Nat}(h:0<D):(D:Rat)≠0:=λe=>by simp_all
section
variable {A B D:Nat} {p q x s:Rat}
theorem dV.zero(D:Nat):dV D 0:=⟨0,by grind⟩
theorem dV.add(h:dV D p)(h':dV D q):dV D (p+q):=by obtain⟨a,rfl⟩:=h;obtain⟨b,rfl⟩:=h';exact⟨a+b,by grind⟩
def dV.neg(h:dV D p):dV D (-p):=by obtain⟨a,rfl⟩:=h;exact⟨-a,by grind⟩
def dV.sub(h:dV D p)(h':dV D q):dV D (p-q):=by rw[iu];exact h.add h'.neg
def dV.up(h:dV A p){k:Nat}(hk:0<k):dV (A*k) p:=by
 obtain⟨a,rfl⟩:=h;refine⟨a*k,?_⟩;have h1:=iI hk;have e2:((a*(k:Int):Int):Rat)=(a:Rat)*(k:Rat):=by rw[cW];rfl
 grind
def dV.dvd(h:dV A p)(hd:A∣B)(hB:0<B):dV B p:=by obtain⟨k,rfl⟩:=hd;exact h.up (fh λe=>by grind)
theorem dV.sum{α:Type}{f:α->Rat}:∀{l:List α},(∀a∈l,dV D (f a))->dV D (aI l f)
 |[],_=>dV.zero D
 |a::l,h=>(h a kc).add (dV.sum λb hb=>h b (by simp[hb]))
def nuA(A:Nat)(s:Rat):Nat:=(s*A).num.natAbs
def U9(hA:0<A)(hs:dV A s)(h0:0<s):s=(nuA A s:Rat)/(A:Rat)/\0<nuA A s:=by
 obtain⟨u,rfl⟩:=hs;have hA:=iI hA;have e:(u:Rat)/(A:Rat)*(A:Rat)=(u:Rat):=by grind
 unfold nuA;rw[e,Rat.num_intCast];have hu:0<u:=by
  have h1:(0:Rat)<=(A:Rat):=by grind
  have h2:=Rat.mul_pos h0 (show(0:Rat)<(A:Rat) by grind);rw[e]at h2;exact Rat.intCast_pos.mp h2
 have e2:((u.natAbs:Nat):Rat)=(u:Rat):=by
  have:((u.natAbs:Int):Rat)=(u:Rat):=by grind
  exact this
 grind
def dV.share(hA:0<A)(hB:0<B)(hp:dV A p)(hx:dV B x)(hs:dV A s)(h0:0<s):dV (B*nuA A s) (p*(x/s)):=by obtain⟨e,hn⟩:=U9 hA hs h0;obtain⟨c,rfl⟩:=hp;obtain⟨z,rfl⟩:=hx;generalize nuA A s=n at*;refine⟨c*z,?_⟩;grind
def Zk.of(hD:0<D)(h:dV D q)(h1:0<=q)(h2:q<=((256^uK:Nat):Rat)):Zk D 1 q:=by
 obtain⟨a,rfl⟩:=h;refine⟨a,rfl,?_⟩;have hD':=iI hD;have h3:(0:Rat)<(D:Rat):=by grind
 have e:(a:Rat)/(D:Rat)*(D:Rat)=(a:Rat):=by grind
 have h4:=bj h2 (dE h3);have h5:=cf h1 (dE h3);rw[e]at h4 h5;rw[<-eZ]at h4;have h4:((a:Int):Rat)<=(((256^uK*D:Nat):Int):Rat):=h4;have h4:=fT.mp h4;have h5:=Rat.intCast_nonneg.mp h5;grind
end
def wJ(A:Nat)(l:fU)(m:Rat):Nat:=if dP l m<l.length then nuA A (aV (ix l (dP l m)))else 1
def KG(A:Nat)(l:fU):Prop:=∀t∈l,∀p∈t,dV A p.2/\0<=p.2
section
variable {A B:Nat} {l:fU} {m:Rat}
def Dw{t:dJ}(h:∀p∈t,dV A p.2/\0<=p.2):dV A (aV t):=by
 induction t with
 |nil=>exact dV.zero A
 |cons p t ih=>exact(h p kc).1.add (ih λq hq=>h q (by simp[hq]))
def aaM{t:dJ}(h:∀p∈t,dV A p.2/\0<=p.2)(c:Int):dV A (fZ t c):=by
 induction t with
 |nil=>exact dV.zero A
 |cons p t ih=>
  refine dV.add ?_ (ih λq hq=>h q (by simp[hq]))
  grind[dV.zero]
def KG.nn(h:KG A l):Kq l:=λt ht p hp=>(h t ht p hp).2
def aiU(h:KG A l)(k:Nat):dV A (BF l k):=by
 unfold BF;have:∀l:fU,KG A l->dV A (jw l):=λl=>by
  induction l with
  |nil=>intro _;exact dV.zero A
  |cons t l ih=>intro h;exact(Dw (h t kc)).add (ih λu hu=>h u (by simp[hu]))
 exact this _ λt ht=>h t (dT ht)
def ase(h:KG A l)(c:Int):dV A (jG l c):=by
 induction l with
 |nil=>exact dV.zero A
 |cons t l ih=>exact(aaM (h t kc) c).add (ih λu hu=>h u (by simp[hu]))
def zZ(hm:0<=m)(hf:dP l m<l.length):0<aV (ix l (dP l m)):=by have:=U3 l m hm;grind
def rH(hA:0<A)(h:KG A l)(hm:0<=m):0<wJ A l m:=by
 unfold wJ;split
 .next hf=>exact(U9 hA (Dw (h _ (gI hf))) (zZ hm hf)).2
 .omega
def aaN(hA:0<A)(hB:0<B)(hd:A∣B)(h:KG A l)(hm:dV B m):dV B (jF l m):=by rw[Oz];exact hm.sub ((aiU h _).dvd hd hB)
def aiV(hA:0<A)(h:KG A l)(h0:0<=m){R:Nat}(hR:0<R){x:Rat}(hx:dV R x)(hf:dP l m<l.length){q:Rat}(hq:dV A q):dV (R*wJ A l m) (q*(x/aV (ix l (dP l m)))):=by unfold wJ;rw[ab hf];exact dV.share hA hR hq hx (Dw (h _ (gI hf))) (zZ h0 hf)
def aps(hA:0<A)(hB:0<B)(hd:A∣B)(h:KG A l)(hm:dV B m)(h0:0<=m)(c:Int):dV (B*wJ A l m) (iy l m c):=by
 have hc:=rH hA h h0;rw[JA];refine dV.add ((ase (λt ht=>h t (dT ht)) c).dvd (bN hd (aM _ _)) (ck hB hc)) ?_;split
 .next hf=>exact aiV hA h h0 hB (aaN hA hB hd h hm) hf (aaM (h _ (gI hf)) c)
 .exact dV.zero _
def apt(hA:0<A)(h:KG A l)(h0:0<=m){R:Nat}(hR:0<R){x:Rat}(hx:dV R x)(c:Int):dV (R*wJ A l m) (jU l m x c):=by
 rw[Ej];split
 .next hf=>exact aiV hA h h0 hR hx hf (aaM (h _ (gI hf)) c)
 .exact dV.zero _
end
def afj(A:Nat)(e:fC)(x:Rat):List (List Nat×fU)->Nat
 |[]=>1
 |p::l=>wJ A p.2 (kL e x p)*afj A e x l
def BI(A:Nat)(e:fC)(x:Rat):Nat:=wJ A e.rk x*afj A e x e.ps
structure ED(A:Nat)(U:Rat)(n:Nat)(e:fC):Prop where
 rk:xU (λq=>dV A q/\0<=q/\q<=U) n e.rk
 ps:∀p∈e.ps,xU (λq=>dV A q/\0<=q/\q<=U) n p.2
section
variable {A B n:Nat} {U m:Rat} {e:fC}
def _root_.Go.Proofs.Ins.xU.D{l:fU}(h:xU (λq=>dV A q/\0<=q/\q<=U) n l):KG A l:=λt ht p hp=>⟨(h t ht p hp).2.1,(h t ht p hp).2.2.1⟩
def ED.nn(h:ED A U n e):AB e:=⟨h.rk.D.nn,λp hp=>(h.ps p hp).D.nn⟩
def aiW(hA:0<A)(hB:0<B)(hd:A∣B)(h:ED A U n e)(hm:dV B m)(h0:0<=m)(c:Nat):dV (B*wJ A e.rk m) (y8 e m c):=aps hA hB hd h.rk.D hm h0 _
def apu(hA:0<A)(h:ED A U n e)(h0:0<=m)(c:Nat):dV (wJ A e.rk m) (rts e m c):=by have:=apt (R:=1) hA h.rk.D h0 jj (x:=1) ⟨1,by grind⟩ c;rwa[Nat.one_mul]at this
def X4(hA:0<A)(hB:0<B)(hd:A∣B)(h:ED A U n e)(hm:dV B m)(h0:0<=m)(p:List Nat×fU):dV (B*wJ A e.rk m) (kL e m p):=dV.sum λc _=>aiW hA hB hd h hm h0 c
def acY(hA:0<A)(h:ED A U n e)(h0:0<=m)(p:List Nat×fU):dV (wJ A e.rk m) (rW e m p):=dV.sum λc _=>apu hA h h0 c
def Dy(A:Nat)(e:fC)(x:Rat):∀{l:List (List Nat×fU)}{p:List Nat×fU},p∈l->wJ A p.2 (kL e x p)∣afj A e x l
 |q::l,p,h=>by
  rcases bz.mp h with rfl|h
  .exact aM _ _
  .exact bN (Dy A e x h) (gH _ _)
def X5(hA:0<A)(h:ED A U n e)(h0:0<=m):∀{l:List (List Nat×fU)},(∀p∈l,p∈e.ps)->0<afj A e m l
 |[],_=>Nat.zero_lt_one
 |p::l,hl=>ck (rH hA (h.ps p (hl p kc)).D (mX h.nn h0 p)) (X5 hA h h0 λq hq=>hl q (by simp[hq]))
def IC(hA:0<A)(h:ED A U n e)(h0:0<=m):0<BI A e m:=ck (rH hA h.rk.D h0) (X5 hA h h0 λ_ h=>h)
def aiX(hA:0<A)(hB:0<B)(hd:A∣B)(h:ED A U n e)(hm:dV B m)(h0:0<=m)(c:Nat):dV (B*BI A e m) (rX e m c):=by
 have hp:=ck hB (IC hA h h0);have hp1:=ck hB (rH hA h.rk.D h0);unfold rX;refine dV.add ?_ (dV.sum λp hp'=>?_)
 .split
  .exact dV.zero _
  .exact(aiW hA hB hd h hm h0 c).dvd (cD _ (aM _ _)) hp
 .refine(aps hA hp1 (bN hd (aM _ _)) (h.ps p hp').D (X4 hA hB hd h hm h0 p) (mX h.nn h0 p) c).dvd ?_ hp;rw[fK];exact cD _ (cD _ (Dy A e m hp'))
def aiY(hA:0<A)(h:ED A U n e)(h0:0<=m)(c:Nat):dV (BI A e m) (xQ e m c):=by
 have hp:=IC hA h h0;unfold xQ;refine dV.add ?_ (dV.sum λp hp'=>?_)
 .split
  .exact dV.zero _
  .exact(apu hA h h0 c).dvd (aM _ _) hp
 .exact(apt hA (h.ps p hp').D (mX h.nn h0 p) (rH hA h.rk.D h0) (acY hA h h0 p) c).dvd (cD _ (Dy A e m hp')) hp
end
end Go.Proofs.Xe
namespace Go.Proofs.Ins
def uX(l:Lg):fD:=(l.e.toNat,l.k.toNat)
def aY(g:fP):GL:=⟨λi=>cO (ix g.e i),λi=>(ix g.e i).c.length,λi c=>(ix (ix g.e i).c c).h,g.d.map λd=>(d.w.q,d.l.map uX)⟩
theorem acZ{q:Rat}(h:¬sg q<0):0<=q:=by grind[sg]
def anr:Qg (λq=>0<=q) where
 min:=λa b ha hb=>by grind[jC]
 sub:=λa b ha hb=>by grind[jC]
 zero:=aR
structure EZ(n:Nat)(i:Nat)(e:yV):Prop where
 nc:e.c.length<=24
 na:e.a.length<=12
 m:0<=e.m.q
 c:∀k,k<e.c.length->0<=(ix e.c k).r/\(ix e.c k).r<=7/\0<=(ix e.c k).a.q/\((ix e.c k).h=-1\/0<=(ix e.c k).h/\(ix e.c k).h<n/\(ix e.c k).h≠i)
 a:∀k,k<e.a.length->(ix e.a k).length<=24/\(∀t,t<(ix e.a k).length->(ix (ix e.a k) t).length<=24)/\∀t∈ix e.a k,∀x∈t,Qh (λq=>0<=q) e.c.length x/\(x.k≠-1->sK e.a k x.k=false)
def avT{e:yV}{n i:Nat}(h:EI e=0)(hh:∀k,k<e.c.length->¬((n:Int)<=(ix e.c k).h\/(ix e.c k).h=(i:Int))):EZ n i e:=by
 unfold EI at h;split at h
 .cases h
 next h0=>
 split at h
 .cases h
 next h1=>
 split at h
 .omega
 next h2=>
 have h2:FX (λi=>Us (ix e.c i)) e.c.length=0:=bp h2;refine⟨jb,jb,acZ h1,λk hk=>?_,λk hk=>?_⟩
 .grind[dY,Us,acZ]
 .have ha:=dY h k hk;unfold Qa at ha;split at ha
  .cases ha
  next hl=>
  have hl:=CP.mp (by simpa using hl);refine⟨hl.1,hl.2,λt ht x hx=>?_⟩;obtain⟨j,hj,rfl⟩:=aL ht;obtain⟨p,hp,rfl⟩:=aL hx;have hT:=dY ha j hj;unfold arN at hT;rw[dX hj]at hT;have hP:=dY hT p hp;rw[dX hp]at hP;generalize (ix e.a k)[j][p]=x at*;unfold Xi at hP;split at hP
  .cases hP
  next c1=>
  split at hP
  .cases hP
  next c2=>
  split at hP
  .cases hP
  next c3=>
  split at hP
  .cases hP
  next c4=>
  refine⟨⟨jb,λhq=>?_⟩,λhn=>by grind⟩;grind[acZ]
structure GZ(g:fP):Prop where
 ne:g.e.length<=8
 nd:g.d.length<=16
 e:∀i,i<g.e.length->EZ g.e.length i (ix g.e i)
 l:∀d,d<g.d.length->(ix g.d d).l.length<=8/\0<=(ix g.d d).w.q/\∀k,k<(ix g.d d).l.length->∃e j:Nat,ix (ix g.d d).l k=⟨(e:Int),(j:Int)⟩/\e<g.e.length/\j<(ix g.e e).c.length/\nI (gK g.d d k) (ix (ix g.d d).l k)=false/\holdL g.e (ix (ix g.d d).l k)=holdL g.e (ix (ix g.d d).l 0)
def FB{g:fP}(h:FY g=0):GZ g:=by
 unfold FY at h;split at h
 .cases h
 next h0=>
 split at h
 .omega
 next h1=>
 split at h
 .omega
 next h2=>
 have h1:FX (λi=>EI (ix g.e i)) g.e.length=0:=bp h1;have h2:FX (λi=>FX (Xj g i) (ix g.e i).c.length) g.e.length=0:=bp h2;refine⟨jb,jb,λi hi=>avT (dY h1 i hi) λk hk hx=>?_,λd hd=>?_⟩
 .grind[dY,Xj]
 .have hD:=dY h d hd;unfold NW at hD;split at hD
  .cases hD
  next d0=>
  split at hD
  .cases hD
  next d1=>
  refine⟨jb,acZ d1,λk hk=>?_⟩;have hL:=dY hD k hk;unfold aaj at hL;dsimp only at hL;split at hL
  .cases hL
  next hr=>
  split at hL
  .cases hL
  next hm=>
  split at hL
  .cases hL
  next hh=>
  have hm:nI (gK g.d d k) (ix (ix g.d d).l k)=false:=by simpa using hm
  have hh:holdL g.e (ix (ix g.d d).l k)=holdL g.e (ix (ix g.d d).l 0):=bp hh;revert hm hh;generalize hx:ix (ix g.d d).l k=x at*;obtain⟨e,j⟩:=x;dsimp only at hr;intro hm hh;refine⟨e.toNat,j.toNat,?_,jb,jb,hm,hh⟩;rw[eg jb,eg jb]
def OJ{α β:Type}[Inhabited α](f:α->List β):∀l:List α,(∀k,k<l.length->(f (ix l k)).Nodup/\∀j,j<k->∀x,x∈f (ix l k)->x∉f (ix l j))->(l.flatMap f).Nodup:=by
 intro l;have key:∀k,k<=l.length->(∀k,k<l.length->(f (ix l k)).Nodup/\∀j,j<k->∀x,x∈f (ix l k)->x∉f (ix l j))->((l.take k).flatMap f).Nodup:=by
  intro k;induction k with
  |zero=>simp
  |succ k ih=>
   intro hk h
   rw[bC jb,cH,eV]
   have hs:[ix l k].flatMap f=f (ix l k):=by simp
   rw[hs]
   refine⟨ih jb h,(h k jb).1,λa ha b hb e=>?_⟩
   subst e
   obtain⟨y,hy,hay⟩:=bA.mp ha
   obtain⟨j,hj,rfl⟩:=aL hy
   grind[dX]
 grind[List.take_length]
def X6{α β:Type}[Inhabited α][Inhabited β](f:α->β){l:List α}{i:Nat}(h:i<l.length):ix (l.map f) i=f (ix l i):=by grind[dX]
section
variable {n i:Nat} {e:yV}
theorem EZ.prt(h:EZ n i e){k:Nat}(hk:k<e.a.length):∀t∈ix e.a k,∀x∈t,x.k=-1\/0<=x.k/\x.k<e.c.length:=λt ht x hx=>(((h.a k hk).2.2 t ht x hx).1).1
def aiZ{α:Type}[Inhabited α]{l:List α}{k:Nat}(h:l.length<=k):ix l k=default:=by grind[ix]
def R3.avU:(default:R3).q=0:=by rfl
def EZ.amt(h:EZ n i e)(k:Nat):0<=(ix e.c k).a.q:=by
 by_cases hk:k<e.c.length
 .exact(h.c k hk).2.2.1
 .rw[aiZ jb];rfl
def LP{cs:List C5}{k:Nat}{t:dJ}:t∈U8 cs k↔∃r,r<8/\t=BH cs r k:=by grind[U8]
def Em(h:EZ n i e):AB (cO e)/\InE e.c.length (cO e):=by
 have hA:∀k,k<e.a.length->xU (λq=>0<=q) e.c.length (oq e.c (ix e.a k)).2:=λk hk=>acX anr h.amt λt ht x hx=>((h.a k hk).2.2 t ht x hx).1;refine⟨⟨λt ht p hp=>?_,λp hp t ht q hq=>?_⟩,⟨λt ht p hp=>?_,λp hp t ht q hq=>?_,?_,λi hi=>?_⟩⟩
 .obtain⟨r,-,rfl⟩:=LP.mp ht;exact(OI (P:=λq=>0<=q) (λi _=>h.amt i) r _ jp p hp).2
 .obtain⟨a,ha,rfl⟩:=cB.mp hp;obtain⟨k,hk,rfl⟩:=aL ha;rw[<-dX hk]at ht;exact(hA k hk t ht q hq).2
 .obtain⟨r,-,rfl⟩:=LP.mp ht;exact(OI (P:=λq=>0<=q) (λi _=>h.amt i) r _ jp p hp).1
 .obtain⟨a,ha,rfl⟩:=cB.mp hp;obtain⟨k,hk,rfl⟩:=aL ha;rw[<-dX hk]at ht;exact(hA k hk t ht q hq).1
 .show((e.a.map (oq e.c)).flatMap (·.1)).Nodup;rw[gA];refine OJ (λa=>(oq e.c a).1) e.a λk hk=>⟨F8 (h.prt hk),λj hj x hx hx2=>?_⟩
  have h1:=(uN (h.prt hk)).mp hx;have h2:=(uN (h.prt (by omega:j<e.a.length))).mp hx2;obtain⟨t,ht,hm⟩:=cP.mp h1;obtain⟨y,hy,ey⟩:=cP.mp hm;have ey:y.k=(x:Int):=by grind
  have:=((h.a k hk).2.2 t ht y hy).2 jb;rw[ey]at this;unfold sK at this;rw[List.any_eq_false]at this;refine this (ix e.a j) ?_ h2;rw[<-Ib (l:=e.a) hj];grind[iR]
 .obtain⟨p,hp,hi⟩:=bA.mp hi;obtain⟨a,ha,rfl⟩:=cB.mp hp;obtain⟨k,hk,rfl⟩:=aL ha;rw[<-dX hk]at hi;have h1:=(uN (h.prt hk)).mp hi;have:=uw (h.prt hk) i (qL.mpr ⟨jb,h1⟩);omega
end
def ai0{g:fP}(h:GZ g):JD g.e.length (aY g):=by
 refine⟨λi hi=>(Em (h.e i hi)).1,λi hi=>(Em (h.e i hi)).2,λi c hi hc=>?_,λl hl=>?_,?_,λd hd=>?_⟩
 .have:=((h.e i hi).c c hc).2.2.2;show(ix (ix g.e i).c c).h=-1\/0<=(ix (ix g.e i).c c).h/\(ix (ix g.e i).c c).h<(g.e.length:Int);omega
 .obtain⟨d,hd,hl⟩:=bA.mp hl;obtain⟨d',hd',rfl⟩:=cB.mp hd;obtain⟨j,hj,rfl⟩:=aL hd';obtain⟨x,hx,rfl⟩:=cB.mp hl;rw[<-dX hj]at hx;obtain⟨k,hk,rfl⟩:=aL hx;obtain⟨a,b,e1,h1,h2,-⟩:=(h.l j hj).2.2 k hk;rw[<-dX hk,e1];exact⟨h1,h2⟩
 .show((g.d.map λd=>(d.w.q,d.l.map uX)).flatMap (·.2)).Nodup;rw[gA];have key:∀d,d<g.d.length->∀k,k<(ix g.d d).l.length->∀y∈gK g.d d k,(0<=y.e/\0<=y.k)->uX y≠uX (ix (ix g.d d).l k):=λd hd k hk y hy hn e=>by obtain⟨a,b,e1,h1,h2,h3,-⟩:=(h.l d hd).2.2 k hk;grind[Go.Proofs.Ins.nI,Go.Proofs.Ins.uX]
  have nn:∀d,d<g.d.length->∀y∈(ix g.d d).l,0<=y.e/\0<=y.k:=λd hd y hy=>by obtain⟨k,hk,rfl⟩:=aL hy;obtain⟨a,b,e1,-⟩:=(h.l d hd).2.2 k hk;grind[dX]
  refine OJ (λd:uV=>d.l.map uX) g.d λd hd=>⟨?_,λj hj x hx hx2=>?_⟩
  .have:(List.range (ix g.d d).l.length).Pairwise (· < ·):=List.pairwise_lt_range;rw[ir,List.pairwise_map,it];intro a b ha hb hab;have:=key d hd b hb (ix (ix g.d d).l a) (List.mem_append_right _ ?_) ?_
   .grind[dX]
   .rw[<-Ib (l:=(ix g.d d).l) hab];grind[iR]
   grind[iR]
  .obtain⟨y,hy,rfl⟩:=cB.mp hx;obtain⟨z,hz,e⟩:=cB.mp hx2;obtain⟨k,hk,rfl⟩:=aL hy;rw[<-dX hk]at e;refine key d hd k hk z (gl _ (bA.mpr ⟨ix g.d j,?_,hz⟩)) (nn j jb z hz) e;rw[<-Ib (l:=g.d) hj];grind[iR]
 .obtain⟨d',hd',rfl⟩:=cB.mp hd;obtain⟨j,hj,rfl⟩:=aL hd';rw[<-dX hj];exact(h.l j hj).2.1
end Go.Proofs.Ins
namespace Go.Proofs.Xe
open Go.RowKit Go.Proofs.Ins
def vQ:Rat:=((256^uK:Nat):Rat)
def uQ:Rat:=((256^900:Nat):Rat)
def OL:0<=uQ:=by have:((0:Nat):Rat)<=((256^900:Nat):Rat):=bo.mpr (bw _);exact this
def pow_two{a b c:Nat}(h:a+b=c):256^a*256^b=256^c:=by rw[<-h,dC]
def F9{k:Nat}(h:k<=256^100):(k:Rat)*uQ<=vQ:=by
 unfold uQ vQ;rw[<-eZ];refine bo.mpr ?_;calc k*256^900<=256^100*256^900:=br _ h
  _=256^uK:=pow_two (show 100+900=uK from rfl)
def OM{k:Nat}(h:k<=256^100):(k:Rat)<=vQ:=by unfold vQ;exact bo.mpr (aw h (bL jj jj))
abbrev IE(A:Nat)(q:Rat):Prop:=dV A q/\0<=q/\q<=uQ
section
variable {A n:Nat} {l:fU}
def Va{t:dJ}(h:zY (IE A) n t):aV t<=(t.length:Rat)*uQ:=by
 induction t with
 |nil=>show(0:Rat)<=_;simp
 |cons p t ih=>
  have h1:=ih λq hq=>h q (by simp[hq])
  have h2:=(h p kc).2.2.2
  rw[bR,gb]
  grind[aV]
def NY:∀{l:fU},xU (IE A) n l->jw l<=(dH l:Rat)*uQ
 |[],_=>by show(0:Rat)<=((0:Nat):Rat)*uQ;simp
 |t::l,h=>by have h1:=NY (l:=l) λu hu=>h u (by simp[hu]);have h2:=Va (h t kc);show aV t+jw l<=((t.length+dH l:Nat):Rat)*uQ;grind
theorem zy:∀{l:fU},Kq l->0<=jw l
 |[],_=>aR
 |t::l,h=>by have:=zy (l:=l) λu hu=>h u (by simp[hu]);have:=yJ (h t kc);show 0<=aV t+jw l;grind
def ai1:∀{l:fU}{j:Nat},Kq l->j<l.length->aV (ix l j)<=jw l
 |t::l,0,h,_=>by have:=zy (l:=l) λu hu=>h u (by simp[hu]);show aV t<=aV t+jw l;grind
 |t::l,j+1,h,hj=>by have:=ai1 (l:=l) (j:=j) (λu hu=>h u (by simp[hu])) (by simpa using hj);have:=yJ (h t kc);show aV (ix l j)<=aV t+jw l;grind
theorem aaO:∀{l:fU}(k:Nat),Kq l->0<=BF l k/\BF l k<=jw l
 |[],k,h=>by unfold BF;rw[List.take_nil];exact⟨aR,aR⟩
 |t::l,0,h=>⟨aR,zy h⟩
 |t::l,k+1,h=>by obtain⟨h1,h2⟩:=aaO (l:=l) k λu hu=>h u (by simp[hu]);have:=yJ (h t kc);unfold BF at h1 h2⊢;rw[fS];show 0<=aV t+jw _/\aV t+jw _<=aV t+jw l;grind
end
structure EB(n:Nat)(e:fC):Prop where
 nb:n<=1000
 r0:0<e.rk.length
 r1:e.rk.length<=1000
 rn:dH e.rk<=1000
 ps:e.ps.length<=1000
 m:∀p∈e.ps,p.1.length<=1000/\∀i∈p.1,i<n
 p:∀p∈e.ps,0<p.2.length/\p.2.length<=1000/\dH p.2<=10000
section
variable {A B R D n:Nat} {l:fU} {m x:Rat}
theorem nU(hD:BD D)(hB:B∣D){q:Rat}(h:dV B q)(h0:0<=q)(h1:q<=vQ):Zk D 1 q:=Zk.of hD.1 (h.dvd hB hD.1) h0 h1
theorem tX:2<=256^uK:=aw (by decide:2<=256^1) (bL jj jj)
def En:∀{l:fU}{t:dJ},t∈l->t.length<=dH l
 |u::l,t,h=>by
  unfold dH;rcases bz.mp h with rfl|h
  .omega
  .have:=En h;omega
def X7(hD:BD D)(hA:A∣D)(h:xU (IE A) n l)(hl:l.length<=1000)(hn:dH l<=10000):OA D n l:=by
 have hU:=F9 (k:=10000) jj;have hU1:=F9 (k:=1) jj;have hz:∀t∈l,∀p∈t,Zk D 1 p.2:=λt ht p hp=>by have:=(h t ht p hp).2;grind[Go.Proofs.Xe.nU]
 refine⟨jb,λt ht=>by have:=En ht;omega,λt ht=>?_,λt ht p hp=>(h t ht p hp).1,λt ht p hp=>(hz t ht p hp).sz hD (by grind[tX]),hz⟩;have h1:=Va (h t ht);have h2:(t.length:Rat)<=((10000:Nat):Rat):=bo.mpr (by have:=En ht;omega);have h3:=bj h2 OL;refine(nU hD hA (Dw λp hp=>⟨(h t ht p hp).2.1,(h t ht p hp).2.2.1⟩) (yJ λp hp=>(h t ht p hp).2.2.1) kd).sz hD (by grind[tX])
def LQ(hA0:0<A)(hD:BD D)(hA:A∣D)(h:xU (IE A) n l)(hn:dH l<=10000)(hB:B∣D)(hm:dV B m)(h0:0<=m)(h1:m<=vQ)(hR0:0<R)(hR:R*wJ A l m∣D)(hx:dV R x)(hx0:0<=x)(hx1:x<=vQ):OB D l m x:=by
 have hnn:=h.D.nn;have hR1:R∣D:=bN (aM _ _) hR;have hU:=F9 (k:=10000) jj;have h2:(dH l:Rat)<=((10000:Nat):Rat):=bo.mpr hn;have h3:=bj h2 OL;have ht:=NY h;have hu:=tX;have hzx:=nU hD hR1 hx hx0 hx1;refine⟨λk _=>?_,h0,hzx.sz hD jb,λhf=>?_,λhf p hp=>?_⟩
 .have hc:=aaO k hnn;exact((nU hD hB hm h0 h1).sub (nU hD hA (aiU h.D k) hc.1 kd)).sz hD jb
 .have hs:=zZ h0 hf;have:=ai1 hnn hf;exact hzx.avd (nU hD hA (Dw (h.D _ (gI hf))) (dE hs) kd) hD jb jb kd
 .have hs:=zZ h0 hf;have hpp:=h.D _ (gI hf) p hp;have hps:p.2<=aV (ix l (dP l m)):=by
   have:∀t:dJ,(∀q∈t,0<=q.2)->p∈t->p.2<=aV t:=λt=>by
    induction t with
    |nil=>simp
    |cons q t ih=>
     intro hq hp
     show p.2<=q.2+aV t
     have h4:=hq q kc
     have h5:0<=aV t:=yJ λr hr=>hq r (by simp[hr])
     grind
   exact this _ (λq hq=>(h.D _ (gI hf) q hq).2) hp
  have e:p.2*(x/aV (ix l (dP l m)))=x*(p.2/aV (ix l (dP l m))):=by grind
  have h4:=xM hs hps;have h5:=aaD hpp.2 hs;have h6:=cL h4 hx0;refine nU hD hR (aiV hA0 h.D h0 hR0 hx hf hpp.1) ?_ ?_
  .grind[Rat.mul_nonneg]
  grind
def left_le(h0:0<=m)(h:Kq l):0<=jF l m/\jF l m<=m:=by grind[Go.Proofs.Xe.U3,Go.Proofs.Xe.Oz,Go.Proofs.Xe.aaO]
def asf{l:fU}(h:Kq l)(c:Int):∀{m:Rat},0<=m->iy l m c<=jw l:=by
 induction l with
 |nil=>intro m _;rfl
 |cons t l ih=>
  intro m hm
  have hl:=zy (l:=l) λu hu=>h u (by simp[hu])
  have h2:=Lp (h t kc) c
  have h3:=wG (h t kc) c
  unfold iy
  show _<=aV t+jw l
  split
  .next hlt=>
   have h4:=xM (a:=m) (b:=aV t) kd (dE hlt)
   have h5:=cL h4 h3
   grind
  .have:=ih (λu hu=>h u (by simp[hu])) (m:=m-aV t) kd
   grind
def Vb{l:fU}(h:Kq l)(c:Int){x:Rat}(hx:0<=x)(h0:0<=m):jU l m x c<=x:=by
 rw[Ej];split
 .next hf=>
  have hs:=zZ h0 hf;have hl:=h _ (gI hf);have e:fZ (ix l (dP l m)) c*(x/aV (ix l (dP l m)))=x*(fZ (ix l (dP l m)) c/aV (ix l (dP l m))):=by grind
  rw[e];have h4:=xM hs (Lp hl c);have h6:=cL h4 hx;grind
 omega
end
section
variable {A B D n:Nat} {m:Rat} {e:fC}
def rJ{α:Type}{f:α->Rat}{v:Rat}(h0:0<=v):∀{l:List α}{k:Nat},(∀a∈l,f a<=v)->l.length<=k->aI l f<=(k:Rat)*v
 |[],k,_,_=>by have:((0:Nat):Rat)<=(k:Rat):=bo.mpr (bw _);exact cf this h0
 |a::l,k,h,hk=>by
  obtain⟨k,rfl⟩:∃j,k=j+1:=⟨k-1,by simp at hk;omega⟩
  have h1:=rJ h0 (l:=l) (k:=k) (λb hb=>h b (by simp[hb])) (by simpa using hk);have h2:=h a kc;show f a+aI l f<=_;rw[gb];have:((1:Nat):Rat)=1:=rfl;grind
def ai2(h:ED A uQ n e)(hb:EB n e)(h0:0<=m){p:List Nat×fU}(hp:p∈e.ps):kL e m p<=vQ:=by have ht:=NY h.rk;have h2:(dH e.rk:Rat)<=((1000:Nat):Rat):=bo.mpr hb.rn;have h3:=bj h2 OL;have h4:=rJ (f:=y8 e m) (v:=((1000:Nat):Rat)*uQ) (cf (bo.mpr (bw 1000)) OL) (l:=p.1) (k:=1000) (λc _=>cG (asf h.rk.D.nn c h0) (cG ht h3)) (hb.m p hp).1;have h5:=F9 (k:=1000*1000) jj;grind[kL]
def asg(h:ED A uQ n e)(hb:EB n e)(h0:0<=m){p:List Nat×fU}(hp:p∈e.ps):rW e m p<=vQ:=by have h4:=rJ (f:=rts e m) (v:=1) jj (l:=p.1) (k:=1000) (λc _=>Vb h.rk.D.nn c jj h0) (hb.m p hp).1;have h5:=OM (k:=1000) jj;grind[rW]
def ai3(hD:BD D)(hA:A∣D)(h:ED A uQ n e)(hb:EB n e):EOk D n e:=by
 have hn:=hb.nb;have hps:=hb.ps;refine⟨jb,X7 hD hA h.rk hb.r1 (by have:=hb.rn;omega),hb.r0,jb,λp hp=>⟨by have:=(hb.m p hp).1;omega,(hb.m p hp).2⟩,λp hp=>⟨X7 hD hA (h.ps p hp) (hb.p p hp).2.1 (hb.p p hp).2.2,(hb.p p hp).1⟩,?_⟩;have h1:∀l:List (List Nat×fU),(∀p∈l,dH p.2<=10000)->Iw l<=l.length*10000:=λl=>by
  induction l with
  |nil=>intro _;exact cK 0
  |cons p l ih=>
   grind[Iw]
 have h2:=h1 e.ps λp hp=>(hb.p p hp).2.2;have h3:=hb.rn;grind[uK]
def ai4(hA0:0<A)(hB0:0<B)(hAB:A∣B)(hD:BD D)(hBD:B*BI A e m∣D)(h:ED A uQ n e)(hb:EB n e)(hm:dV B m)(h0:0<=m)(h1:m<=vQ):MOk D e m:=by
 have hB:B∣D:=bN (aM _ _) hBD;have hA:A∣D:=bN hAB hB;have hr:B*wJ A e.rk m∣D:=bN (cD _ (aM _ _)) hBD;have hr0:=ck hB0 (rH hA0 h.rk.D h0);refine⟨(nU hD hB hm h0 h1).sz hD (by grind[tX]),?_,λp hp=>?_⟩
 .have hl:=left_le h0 h.rk.D.nn;exact LQ hA0 hD hA h.rk (by have:=hb.rn;omega) hB hm h0 h1 hB0 hr (aaN hA0 hB0 hAB h.rk.D hm) hl.1 (cG hl.2 h1)
 .have hg:=mX h.nn h0 p;have hgD:=X4 hA0 hB0 hAB h hm h0 p;have hgl:=ai2 h hb h0 hp;have hl:=left_le hg (h.ps p hp).D.nn;have hd:B*wJ A e.rk m*wJ A p.2 (kL e m p)∣D:=by refine bN ?_ hBD;rw[fK];exact cD _ (cD _ (Dy A e m hp))
  exact⟨LQ hA0 hD hA (h.ps p hp) (hb.p p hp).2.2 hr hgD hg hgl hr0 hd (aaN hA0 hr0 (bN hAB (aM _ _)) (h.ps p hp).D hgD) hl.1 (cG hl.2 hgl),(nU hD hr hgD hg hgl).sz hD (by grind[tX])⟩
def ai5(hA0:0<A)(hB0:0<B)(hAB:A∣B)(hD:BD D)(hBD:B*BI A e m∣D)(h:ED A uQ n e)(hb:EB n e)(hm:dV B m)(h0:0<=m)(h1:m<=vQ):ROk D e m:=by
 have hB:B∣D:=bN (aM _ _) hBD;have hA:A∣D:=bN hAB hB;have hr:B*wJ A e.rk m∣D:=bN (cD _ (aM _ _)) hBD;have hr0:=rH hA0 h.rk.D h0;have hr1:wJ A e.rk m∣D:=bN (gH _ _) hr;have h1v:=OM (k:=1) jj;refine⟨?_,λp hp=>?_⟩
 .exact LQ (R:=1) hA0 hD hA h.rk (by have:=hb.rn;omega) hB hm h0 h1 jj kd ⟨1,by grind⟩ jj h1v
 .have hg:=mX h.nn h0 p;have hgD:=X4 hA0 hB0 hAB h hm h0 p;have hgl:=ai2 h hb h0 hp;have hR:=Jv h.nn h0 p;have hRD:=acY hA0 h h0 p;have hRl:=asg h hb h0 hp;have hd:wJ A e.rk m*wJ A p.2 (kL e m p)∣D:=by refine bN ?_ (bN (gH _ _) hBD);exact cD _ (Dy A e m hp)
  exact⟨LQ hA0 hD hA (h.ps p hp) (hb.p p hp).2.2 hr hgD hg hgl hr0 hd hRD hR hRl,(nU hD hr1 hRD hR hRl).sz hD (by grind[tX])⟩
end
section
variable {E:Env} [aan E] {p:Nat→Prop} {σ:St} {K:V→St→Prop}
def X8{v:B}{a:gV}(ha:dZ p σ.h v a)(h1:a.length<=1000000)(h2:a.flatten.length<=1000000){v':V}{σ':St}(hm:ah4 a.flatten σ=some (v',σ')):aC E 133 [.c v] σ K=K v' σ':=
 Q5 (by have h:=(amM ha h1 h2).trans hm;unfold Xt;rw[acf rfl];unfold amO ah7;simp only[Nat.reduceEqDiff,reduceIte,h])
def Rw{v:B}{a:gV}(ha:dZ p σ.h v a)(h1:a.length<=1000000)(h2:a.flatten.length<=1000000){v':V}{σ':St}(hm:ah3 (wF a) σ=some (v',σ')):aC E 91 [.agg [v]] σ K=K v' σ':=
 Q5 (by have h:=(amL ha h1 h2).trans hm;unfold Xt;rw[acf rfl];unfold amO ah7;simp only[Nat.reduceEqDiff,reduceIte,h])
end
def Rx{E:Env}[aan E]{σ:St}(hW:WF σ){p:Nat->Prop}{v:B}{a:gV}(ha:dZ p σ.h v a)(h1:a.length<=1000000)(h2:a.flatten.length<=1000000):
  aC E 91 [.agg [v]] σ λr σ'=>(∃u,r=.c u/\tJ σ'.h u (wF a).length (λi=>[.int .i64 (ix (wF a) i)]) 1 3 σ.aj σ'.aj)/\Fr σ σ':=by
 by_cases h0:(wF a).length=0
 .rw[Rw ha h1 h2 (v':=.c .aX) (σ':=σ) (ab h0)]
  exact⟨⟨_,rfl,.inl ⟨h0,rfl⟩⟩,Fr.refl hW⟩
 .rw[Rw ha h1 h2 (ae h0)]
  exact⟨⟨_,rfl,.inr ⟨jb,_,rfl,aA _ _ _,jp,ce _⟩⟩,fr⟩
def ant{a:gV}{n:Nat}(ha:∀t∈a,∀x∈t,x.k=-1\/0<=x.k/\x.k<n){i:Nat}(hi:i<(wF a).length):B.int .i64 (ix (wF a) i)=Qd (jW a) i:=by unfold Qd jW;rw[X6 Int.toNat hi];have:=uw ha _ (iR hi);grind
def OO(a:gV):(jW a).length=(wF a).length:=cU _
structure TS(σ:St)(tb bs:Nat)(t:dJ):Prop where
 b:σ.h tb=some ⟨jV (aU t.length bs) (aV t),none⟩
 o:OH σ.h bs t
 lo:tb<bs
 hi:t.length=0\/bs<σ.aj
def TS.lt{σ:St}(hW:WF σ){tb bs:Nat}{t:dJ}(h:TS σ tb bs t):tb<σ.aj:=hW.lt h.b
def TS.on{σ σ':St}{tb bs:Nat}{t:dJ}(h:TS σ tb bs t)(h1:∀b,tb<=b->b<σ.aj->σ'.h b=σ.h b)(hW:WF σ)(hle:σ.aj<=σ'.aj):TS σ' tb bs t:=by have h0:=h.lt hW;have hlo:=h.lo;have hhi:=h.hi;refine⟨by rw[h1 tb jp h0];exact h.b,?_,hlo,jb⟩;refine(wE ?_).trans h.o;grind
theorem TS.fr{σ σ':St}{tb bs:Nat}{t:dJ}(h:TS σ tb bs t)(hW:WF σ)(hf:Fr σ σ'):TS σ' tb bs t:=h.on (λb _ hb=>hf.old b hb) hW hf.le
def TS.fre{σ σ':St}{ex:List Nat}{tb bs:Nat}{t:dJ}(h:TS σ tb bs t)(hW:WF σ)(hf:aT ex σ σ')(hx:∀b∈ex,b<tb):TS σ' tb bs t:=h.on (λb h1 h2=>hf.old b h2 λhm=>by grind) hW hf.le
def aaP{σ:St}(hW:WF σ){tb bs:Nat}{t:dJ}(hT:TS σ tb bs t)(hl:t.length<=1000000)(k:Int)(q:Rat)(hs:Sz (aV t))(hq:Sz q):
  aC EN 93 [.c (.ptr tb 0),.c (.int .i64 k),.agg [.bool (rn q),.str (rs q),.str (rd q)]] σ λ_ σ'=>(∃bs',TS σ' tb bs' (t++[(k,q)]))/\(∀b,b<tb->σ'.h b=σ.h b)/\WF σ'/\σ.aj<=σ'.aj:=by
 have h0:=hT.lo
 have hlt:=hT.lt hW
 have:=aiQ (G:=λ_=>jV (aU t.length bs) (aV t)) (n:=1) (r:=0) hW (by rw[hT.b];rfl) jj (λ_=>rfl) rfl rfl rfl hT.o (.inr jb) hT.hi hl k q hs hq
 refine this.mono ?_
 rintro _ σ' ⟨nx,h1,h2,h3,h4,h5⟩
 have hle:=h5.le
 refine⟨⟨nx,?_,?_,jb,.inr h2⟩,λb hb=>h5.old b jb kd,h5.wf,hle⟩
 .rw[h3,Rt,az];rfl
 .unfold OH
  rw[az,bB]
  show σ'.h nx=some _
  grind[Go.Proofs.Xe.kY,Go.Proofs.Xe.bW,Go.Proofs.Xe.jk,Go.Proofs.Xe.gy,Go.Proofs.Xe.gu]
def anu(U:Nat->B)(Lf:Nat->dJ)(p:Nat->Prop)(h:Tr Bk)(i:Nat):Prop:=bf p h 4 (U i) (Lf i).length λc=>zV (ix (Lf i) c)
def X9(U:Nat->B)(Lf:Nat->dJ)(i:Nat):List B:=jV (U i) (aV (Lf i))
abbrev aaQ(U:Nat->B)(Lf:Nat->dJ)(h:Tr Bk)(b n lo hi:Nat):Prop:=NF (anu U Lf) h b n (X9 U Lf) 4 157 lo hi
def Vd(U:Nat->B)(Lf:Nat->dJ)(j:Nat):QK (anu U Lf) j:=λ_ _ _ _ hp hk hq=>bf.keep hp hk hq
def Ve(U:Nat->B)(Lf:Nat->dJ):LG (X9 U Lf) 4:=λ_=>rfl
section
variable {U:Nat→B} {Lf:Nat→dJ} {h h' : Tr Bk} {b n lo hi:Nat}
def aaQ.push(ho:aaQ U Lf h b n lo hi){σ1:St}(hW:WF σ1){tb bs nx n':Nat}{t:dJ}(hL:Lf n=t)(hT:TS σ1 tb bs t)(ht:hi<=tb)(h5:lo<=hi)(hh:∀b,lo<=b->b<hi->σ1.h b=h b)(h3:σ1.aj<=nx)(h4:nx<n')
  (hb:h' nx=some ⟨bI n (X9 U Lf)++jV (aU t.length bs) (aV t),some (4,157)⟩) (hk:∀c,lo<=c->c<σ1.aj->n=0\/c≠b->h' c=σ1.h c):aaQ (aP U n (aU t.length bs)) Lf h' nx (n+1) lo n':=by
 have hlt:=hT.lt hW
 have hlo:=hT.lo
 have hx:bf (λb=>hi<=b/\b<σ1.aj) σ1.h 4 (aU t.length bs) t.length λj=>zV (ix t j):=hT.o.hlp (by rcases hT.hi with h0|h0;exact .inl h0;omega)
 refine NF.push ho (λj _=>Vd _ Lf j) (λj hj p h hq=>?_) (hi1:=σ1.aj) (h1:=σ1.h) ?_ hh jb h3 h4 h5 hb ?_ hk (λi hi=>?_) (Ve _ _)
 .grind[anu,aQ]
 .grind[anu,aO]
 .grind[X9,aO]
 grind[X9,aQ]
def aaQ.ash(ho:aaQ U Lf h b n lo hi){l:fU}(hl:l.length=n)(hL:∀i,i<n->Lf i=ix l i):yL (λb=>lo<=b/\b<hi) h (aU n b) l:=by
 have hel:=λi (hi:i<n)=>ho.el (λj _=>Vd U Lf j) hi;refine⟨U,?_,by cases n<;>trivial,λi hi=>?_⟩
 .rw[hl];refine(ho.hlp jj (λi hi=>?_) λb h1 h2=>⟨h1,h2⟩).congr λi hi=>by grind[X9]
  unfold X9 jV;simp only[cM,eh,Am,FV,(hel i hi).kn,dx]
 .rw[hl]at hi;rw[<-hL i hi];exact hel i hi
end
def lsS(cs:List C5)(a:gV)(j:Nat):(Nat->Rat)×fU:=(a.take j).foldl ltS ((λi:Nat=>(ix cs i).a.q),[])
def AV(f:Nat->Rat)(t:FW)(l:Nat):(Nat->Rat)×dJ:=(t.take l).foldl LM (f,[])
theorem OQ{cs:List C5}{a:gV}{j:Nat}(h:j<a.length):lsS cs a (j+1)=ltS (lsS cs a j) (ix a j):=by grind[lsS,bC]
def IG(cs:List C5)(a:gV):lsS cs a a.length=lsA cs a:=by grind[lsS,lsA]
def AY(cs:List C5)(a:gV):∀j,j<=a.length->(lsS cs a j).2.length=j
 |0,_=>rfl
 |j+1,h=>by rw[OQ jb];unfold ltS;rw[az,AY cs a j jb];rfl
def aaR{α:Type}[Inhabited α]{l:List α}{x:α}{n:Nat}(h:l.length=n):ix (l++[x]) n=x:=by grind[gy]
def rM(m k:Nat)(F:Nat->Rat):bZ m (aP (λi=>if i<k then F i else 0) k (F k))=bZ m λi=>if i<k+1 then F i else 0:=dQ λi _=>by grind[aP]
def yN(m:Nat)(F:Nat->Rat):bZ m (λi=>if i<m then F i else 0)=bZ m F:=dQ λi hi=>ab hi
def xW(m:Nat)(F:Nat->Rat):bZ m (λ_=>0)=bZ m λi=>if i<0 then F i else 0:=dQ λi _=>rfl
def ai6{s:(Nat->Rat)×dJ}{x:Ah}{kk:Nat}(h1:¬x.k=-1)(hk:x.k=Int.ofNat kk):LM s x=(aP s.1 kk (s.1 kk-if x.b=true then jC (s.1 kk) x.a.q else s.1 kk),s.2++[(Int.ofNat kk,if x.b=true then jC (s.1 kk) x.a.q else s.1 kk)]):=by unfold LM;rw[ae h1,hk];refine Prod.ext ?_ rfl;grind[aP]
def Vf{cs:List C5}{a:gV}{i:Nat}:∀{j},i<j->j<=a.length->ix (lsS cs a j).2 i=(AV (lsS cs a i).1 (ix a i) (ix a i).length).2
 |j+1,hi,hj=>by
  rw[OQ jb];unfold ltS;by_cases e:i=j
  .subst e;have:=AY cs a i jb;exact(aaR this).trans (by unfold AV;rw[bP])
  .show ix ((lsS cs a j).2++[_]) i=_;rw[gu _ _ (by rw[AY cs a j jb];omega)];exact Vf jb jb
def Ya{f:Nat->Rat}{t:FW}{l:Nat}(h:l<t.length):AV f t (l+1)=LM (AV f t l) (ix t l):=by grind[AV,bC]
def LU(f:Nat->Rat)(t:FW):∀l,l<=t.length->(AV f t l).2.length=l
 |0,_=>rfl
 |l+1,h=>by rw[Ya jb];unfold LM;split<;>simp[LU f t l jb]
def ai7{cs:List C5}{a:gV}{j:Nat}(h:j<a.length):(lsS cs a (j+1)).1=(AV (lsS cs a j).1 (ix a j) (ix a j).length).1:=by grind[OQ,ltS,AV]
def afk(ms:List Nat)(f:Nat->Rat){i:Nat}(h:i<ms.length):vO (ms.take (i+1)) f=vO (ms.take i) f++[(((ix ms i:Nat):Int),f (ix ms i))]:=by grind[vO,bC]
def ai8:∀{l:List Int}{lo hi:Int},l.Pairwise (· < ·)->(∀x∈l,lo<=x/\x<hi)->l.length<=(hi-lo).toNat
 |[],_,_,_,_=>bw _
 |a::l,lo,hi,hp,h=>by
  rw[List.pairwise_cons]at hp;have h1:=h a kc;have:=ai8 (lo:=a+1) (hi:=hi) hp.2 λx hx=>by grind
  grind
def Gf{a:gV}{n:Nat}(ha:∀t∈a,∀x∈t,x.k=-1\/0<=x.k/\x.k<n):(jW a).length<=n:=by have:=ai8 (ab8 a) (uw ha);rw[OO];omega
theorem LV(cs:List C5)(r:Nat):∀k,(BH cs r k).length<=k
 |0=>cK 0
 |k+1=>by have:=LV cs r k;unfold BH;rw[az];split<;>simp<;>omega
section
variable {A n:Nat}
def asi(hA:0<A):Qg (IE A) where
 min:=λa b ha hb=>by grind[jC]
 sub:=λa b ha hb=>by
  have h1:=ha.2;have h2:=hb.2;unfold jC;split
  .grind[dV.zero]
  .exact⟨ha.1.sub hb.1,by grind,by grind⟩
 zero:=⟨dV.zero A,aR,OL⟩
def OT(hA:BD A){q:Rat}(h:IE A q):Sz q:=by have hU:=F9 (k:=1) jj;have:((1:Nat):Rat)=1:=rfl;exact(nU hA (ie A) h.1 h.2.1 kd).sz hA (by grind[tX])
def Vg(hA:BD A){t:dJ}(h:zY (IE A) n t)(hl:t.length<=10000):Sz (aV t):=by have hU:=F9 (k:=10000) jj;have h1:=Va h;have h2:(t.length:Rat)<=((10000:Nat):Rat):=bo.mpr hl;have h3:=bj h2 OL;exact(nU hA (ie A) (Dw λp hp=>⟨(h p hp).2.1,(h p hp).2.2.1⟩) (yJ λp hp=>(h p hp).2.2.1) kd).sz hA (by grind[tX])
def asj{P:Rat->Prop}(hP:Qg P){f:Nat->Rat}(hf:∀i,P (f i)){t:FW}(ht:∀x∈t,Qh P n x)(l:Nat):(∀i,P ((AV f t l).1 i))/\zY P n (AV f t l).2:=
 aaK hP (t.take l) hf (λ_ h=>by cases h) λx hx=>ht x (dT hx)
def asl{P:Rat->Prop}(hP:Qg P){cs:List C5}(hc:∀i,P (ix cs i).a.q){a:gV}(ha:∀t∈a,∀x∈t,Qh P n x)(j:Nat)(i:Nat):P ((lsS cs a j).1 i):=
 (aaL hP (a.take j) hc (λ_ h=>by cases h) λt ht=>ha t (dT ht)).1 i
end
def asn(p q:Rat):Jk p q=jC p q:=by
 unfold Jk jC;by_cases h:p<=q
 .rw[ab h,ab (wB.mpr h)]
 .rw[ae h,ae λe=>h (wB.mp e)]
structure ai9(A:Nat)(cs:List C5)(a:gV):Prop where
 nc:cs.length<=1000
 na:a.length<=1000
 nt:∀t,t<a.length->(ix a t).length<=1000
 nf:a.flatten.length<=1000000
 fc:∀i,i<cs.length->(ix cs i).a.fits 1000000
 fp:∀t,t<a.length->∀l,l<(ix a t).length->(ix (ix a t) l).a.fits 1000000
 c:∀i,IE A (ix cs i).a.q
 p:∀t∈a,∀x∈t,Qh (IE A) cs.length x
end Go.Proofs.Xe
