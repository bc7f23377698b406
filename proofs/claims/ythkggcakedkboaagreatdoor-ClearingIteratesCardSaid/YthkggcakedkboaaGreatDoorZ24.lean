import Derived.Test.YthkggcakedkboaaGreatDoorZ23
set_option linter.all false
namespace Go.Proofs.Xe
open Go.RowKit Go.Proofs.Ins
def dR(D:Nat)(q:Rat):Prop:=∃a:Int,q=(a:Rat)/(D:Rat)
theorem iI{D:Nat}(h:0<D):(D:Rat)≠0:=λe=>by simp_all
section
variable {A B D:Nat} {p q x s:Rat}
theorem dR.zero(D:Nat):dR D 0:=⟨0,by grind⟩
theorem dR.add(h:dR D p)(h':dR D q):dR D (p+q):=by obtain⟨a,rfl⟩:=h;obtain⟨b,rfl⟩:=h';exact⟨a+b,by grind⟩
def dR.neg(h:dR D p):dR D (-p):=by obtain⟨a,rfl⟩:=h;exact⟨-a,by grind⟩
def dR.sub(h:dR D p)(h':dR D q):dR D (p-q):=by rw[iS];exact h.add h'.neg
def dR.up(h:dR A p){k:Nat}(hk:0<k):dR (A*k) p:=by
 obtain⟨a,rfl⟩:=h;refine⟨a*k,?_⟩;have h1:=iI hk;have e2:((a*(k:Int):Int):Rat)=(a:Rat)*(k:Rat):=by rw[da];rfl
 grind
def dR.dvd(h:dR A p)(hd:A∣B)(hB:0<B):dR B p:=by obtain⟨k,rfl⟩:=hd;exact h.up (fo λe=>by grind)
theorem dR.sum{α:Type}{f:α->Rat}:∀{l:List α},(∀a∈l,dR D (f a))->dR D (aI l f)
 |[],_=>dR.zero D
 |a::l,h=>(h a kc).add (dR.sum λb hb=>h b (by simp[hb]))
def nuA(A:Nat)(s:Rat):Nat:=(s*A).num.natAbs
def UN(hA:0<A)(hs:dR A s)(h0:0<s):s=(nuA A s:Rat)/(A:Rat)/\0<nuA A s:=by
 obtain⟨u,rfl⟩:=hs;have hA:=iI hA;have e:(u:Rat)/(A:Rat)*(A:Rat)=(u:Rat):=by grind
 unfold nuA;rw[e,Rat.num_intCast];have hu:0<u:=by
  have h1:(0:Rat)<=(A:Rat):=by grind
  have h2:=Rat.mul_pos h0 (show(0:Rat)<(A:Rat) by grind);rw[e]at h2;exact Rat.intCast_pos.mp h2
 have e2:((u.natAbs:Nat):Rat)=(u:Rat):=by
  have:((u.natAbs:Int):Rat)=(u:Rat):=by grind
  exact this
 grind
def dR.share(hA:0<A)(hB:0<B)(hp:dR A p)(hx:dR B x)(hs:dR A s)(h0:0<s):dR (B*nuA A s) (p*(x/s)):=by obtain⟨e,hn⟩:=UN hA hs h0;obtain⟨c,rfl⟩:=hp;obtain⟨z,rfl⟩:=hx;generalize nuA A s=n at*;refine⟨c*z,?_⟩;grind
def Zk.of(hD:0<D)(h:dR D q)(h1:0<=q)(h2:q<=((256^uK:Nat):Rat)):Zk D 1 q:=by
 obtain⟨a,rfl⟩:=h;refine⟨a,rfl,?_⟩;have hD':=iI hD;have h3:(0:Rat)<(D:Rat):=by grind
 have e:(a:Rat)/(D:Rat)*(D:Rat)=(a:Rat):=by grind
 have h4:=bp h2 (eh h3);have h5:=cj h1 (eh h3);rw[e]at h4 h5;rw[<-fe]at h4;have h4:((a:Int):Rat)<=(((256^uK*D:Nat):Int):Rat):=h4;have h4:=gi.mp h4;have h5:=Rat.intCast_nonneg.mp h5;grind
end
def wJ(A:Nat)(l:fZ)(m:Rat):Nat:=if dP l m<l.length then nuA A (aV (ix l (dP l m)))else 1
def KD(A:Nat)(l:fZ):Prop:=∀t∈l,∀p∈t,dR A p.2/\0<=p.2
section
variable {A B:Nat} {l:fZ} {m:Rat}
def Dz{t:dO}(h:∀p∈t,dR A p.2/\0<=p.2):dR A (aV t):=by
 induction t with
 |nil=>exact dR.zero A
 |cons p t ih=>exact(h p kc).1.add (ih λq hq=>h q (by simp[hq]))
def aau{t:dO}(h:∀p∈t,dR A p.2/\0<=p.2)(c:Int):dR A (gB t c):=by
 induction t with
 |nil=>exact dR.zero A
 |cons p t ih=>
  refine dR.add ?_ (ih λq hq=>h q (by simp[hq]))
  grind[dR.zero]
def KD.nn(h:KD A l):KA l:=λt ht p hp=>(h t ht p hp).2
def aiw(h:KD A l)(k:Nat):dR A (BK l k):=by
 unfold BK;have:∀l:fZ,KD A l->dR A (lI l):=λl=>by
  induction l with
  |nil=>intro _;exact dR.zero A
  |cons t l ih=>intro h;exact(Dz (h t kc)).add (ih λu hu=>h u (by simp[hu]))
 exact this _ λt ht=>h t (eo ht)
def arX(h:KD A l)(c:Int):dR A (lT l c):=by
 induction l with
 |nil=>exact dR.zero A
 |cons t l ih=>exact(aau (h t kc) c).add (ih λu hu=>h u (by simp[hu]))
def Af(hm:0<=m)(hf:dP l m<l.length):0<aV (ix l (dP l m)):=by have:=UH l m hm;grind
def rQ(hA:0<A)(h:KD A l)(hm:0<=m):0<wJ A l m:=by
 unfold wJ;split
 .next hf=>exact(UN hA (Dz (h _ (gy hf))) (Af hm hf)).2
 .omega
def aav(hA:0<A)(hB:0<B)(hd:A∣B)(h:KD A l)(hm:dR B m):dR B (jG l m):=by rw[Oo];exact hm.sub ((aiw h _).dvd hd hB)
def aix(hA:0<A)(h:KD A l)(h0:0<=m){R:Nat}(hR:0<R){x:Rat}(hx:dR R x)(hf:dP l m<l.length){q:Rat}(hq:dR A q):dR (R*wJ A l m) (q*(x/aV (ix l (dP l m)))):=by unfold wJ;rw[ab hf];exact dR.share hA hR hq hx (Dz (h _ (gy hf))) (Af h0 hf)
def aoX(hA:0<A)(hB:0<B)(hd:A∣B)(h:KD A l)(hm:dR B m)(h0:0<=m)(c:Int):dR (B*wJ A l m) (gZ l m c):=by
 have hc:=rQ hA h h0;rw[Jw];refine dR.add ((arX (λt ht=>h t (eo ht)) c).dvd (bX hd (be _ _)) (ck hB hc)) ?_;split
 .next hf=>exact aix hA h h0 hB (aav hA hB hd h hm) hf (aau (h _ (gy hf)) c)
 .exact dR.zero _
def aoY(hA:0<A)(h:KD A l)(h0:0<=m){R:Nat}(hR:0<R){x:Rat}(hx:dR R x)(c:Int):dR (R*wJ A l m) (jU l m x c):=by
 rw[Ep];split
 .next hf=>exact aix hA h h0 hR hx hf (aau (h _ (gy hf)) c)
 .exact dR.zero _
end
def aeU(A:Nat)(e:eY)(x:Rat):List (List Nat×fZ)->Nat
 |[]=>1
 |p::l=>wJ A p.2 (kL e x p)*aeU A e x l
def BL(A:Nat)(e:eY)(x:Rat):Nat:=wJ A e.rk x*aeU A e x e.ps
structure ED(A:Nat)(U:Rat)(n:Nat)(e:eY):Prop where
 rk:xX (λq=>dR A q/\0<=q/\q<=U) n e.rk
 ps:∀p∈e.ps,xX (λq=>dR A q/\0<=q/\q<=U) n p.2
section
variable {A B n:Nat} {U m:Rat} {e:eY}
def _root_.Go.Proofs.Ins.xX.D{l:fZ}(h:xX (λq=>dR A q/\0<=q/\q<=U) n l):KD A l:=λt ht p hp=>⟨(h t ht p hp).2.1,(h t ht p hp).2.2.1⟩
def ED.nn(h:ED A U n e):Aw e:=⟨h.rk.D.nn,λp hp=>(h.ps p hp).D.nn⟩
def aoZ(hA:0<A)(hB:0<B)(hd:A∣B)(h:ED A U n e)(hm:dR B m)(h0:0<=m)(c:Nat):dR (B*wJ A e.rk m) (y7 e m c):=aoX hA hB hd h.rk.D hm h0 _
def ao0(hA:0<A)(h:ED A U n e)(h0:0<=m)(c:Nat):dR (wJ A e.rk m) (rts e m c):=by have:=aoY (R:=1) hA h.rk.D h0 jj (x:=1) ⟨1,by grind⟩ c;rwa[Nat.one_mul]at this
def XR(hA:0<A)(hB:0<B)(hd:A∣B)(h:ED A U n e)(hm:dR B m)(h0:0<=m)(p:List Nat×fZ):dR (B*wJ A e.rk m) (kL e m p):=dR.sum λc _=>aoZ hA hB hd h hm h0 c
def acE(hA:0<A)(h:ED A U n e)(h0:0<=m)(p:List Nat×fZ):dR (wJ A e.rk m) (sF e m p):=dR.sum λc _=>ao0 hA h h0 c
def DC(A:Nat)(e:eY)(x:Rat):∀{l:List (List Nat×fZ)}{p:List Nat×fZ},p∈l->wJ A p.2 (kL e x p)∣aeU A e x l
 |q::l,p,h=>by
  rcases bA.mp h with rfl|h
  .exact be _ _
  .exact bX (DC A e x h) (gN _ _)
def XT(hA:0<A)(h:ED A U n e)(h0:0<=m):∀{l:List (List Nat×fZ)},(∀p∈l,p∈e.ps)->0<aeU A e m l
 |[],_=>Nat.zero_lt_one
 |p::l,hl=>ck (rQ hA (h.ps p (hl p kc)).D (nI h.nn h0 p)) (XT hA h h0 λq hq=>hl q (by simp[hq]))
def Iz(hA:0<A)(h:ED A U n e)(h0:0<=m):0<BL A e m:=ck (rQ hA h.rk.D h0) (XT hA h h0 λ_ h=>h)
def aiy(hA:0<A)(hB:0<B)(hd:A∣B)(h:ED A U n e)(hm:dR B m)(h0:0<=m)(c:Nat):dR (B*BL A e m) (rF e m c):=by
 have hp:=ck hB (Iz hA h h0);have hp1:=ck hB (rQ hA h.rk.D h0);unfold rF;refine dR.add ?_ (dR.sum λp hp'=>?_)
 .split
  .exact dR.zero _
  .exact(aoZ hA hB hd h hm h0 c).dvd (cH _ (be _ _)) hp
 .refine(aoX hA hp1 (bX hd (be _ _)) (h.ps p hp').D (XR hA hB hd h hm h0 p) (nI h.nn h0 p) c).dvd ?_ hp;rw[gc];exact cH _ (cH _ (DC A e m hp'))
def aiz(hA:0<A)(h:ED A U n e)(h0:0<=m)(c:Nat):dR (BL A e m) (xW e m c):=by
 have hp:=Iz hA h h0;unfold xW;refine dR.add ?_ (dR.sum λp hp'=>?_)
 .split
  .exact dR.zero _
  .exact(ao0 hA h h0 c).dvd (be _ _) hp
 .exact(aoY hA (h.ps p hp').D (nI h.nn h0 p) (rQ hA h.rk.D h0) (acE hA h h0 p) c).dvd (cH _ (DC A e m hp')) hp
end
end Go.Proofs.Xe
namespace Go.Proofs.Ins
def zJ(l:Lg):fC:=(l.e.toNat,l.k.toNat)
def bf(g:gQ):GL:=⟨λi=>dh (ix g.e i),λi=>(ix g.e i).c.length,λi c=>(ix (ix g.e i).c c).h,g.d.map λd=>(d.w.q,d.l.map zJ)⟩
theorem acF{q:Rat}(h:¬sg q<0):0<=q:=by grind[sg]
def am0:P7 (λq=>0<=q) where
 min:=λa b ha hb=>by grind[jy]
 sub:=λa b ha hb=>by grind[jy]
 zero:=aR
structure EZ(n:Nat)(i:Nat)(e:AU):Prop where
 nc:e.c.length<=24
 na:e.a.length<=12
 m:0<=e.m.q
 c:∀k,k<e.c.length->0<=(ix e.c k).r/\(ix e.c k).r<=7/\0<=(ix e.c k).a.q/\((ix e.c k).h=-1\/0<=(ix e.c k).h/\(ix e.c k).h<n/\(ix e.c k).h≠i)
 a:∀k,k<e.a.length->(ix e.a k).length<=24/\(∀t,t<(ix e.a k).length->(ix (ix e.a k) t).length<=24)/\∀t∈ix e.a k,∀x∈t,P8 (λq=>0<=q) e.c.length x/\(x.k≠-1->zQ e.a k x.k=false)
def avv{e:AU}{n i:Nat}(h:Ky e=0)(hh:∀k,k<e.c.length->¬((n:Int)<=(ix e.c k).h\/(ix e.c k).h=(i:Int))):EZ n i e:=by
 unfold Ky at h;split at h
 .cases h
 next h0=>
 split at h
 .cases h
 next h1=>
 split at h
 .omega
 next h2=>
 have h2:Gs (λi=>Ud (ix e.c i)) e.c.length=0:=bz h2;refine⟨jb,jb,acF h1,λk hk=>?_,λk hk=>?_⟩
 .grind[iO,Ud,acF]
 .have ha:=iO h k hk;unfold WW at ha;split at ha
  .cases ha
  next hl=>
  have hl:=CU.mp (by simpa using hl);refine⟨hl.1,hl.2,λt ht x hx=>?_⟩;obtain⟨j,hj,rfl⟩:=aM ht;obtain⟨p,hp,rfl⟩:=aM hx;have hT:=iO ha j hj;unfold arn at hT;rw[dX hj]at hT;have hP:=iO hT p hp;rw[dX hp]at hP;generalize (ix e.a k)[j][p]=x at*;unfold ZV at hP;split at hP
  .cases hP
  next c1=>
  split at hP
  .cases hP
  next c2=>
  split at hP
  .cases hP
  next c3=>
  split at hP
  .cases hP
  next c4=>
  refine⟨⟨jb,λhq=>?_⟩,λhn=>by grind⟩;grind[acF]
structure GZ(g:gQ):Prop where
 ne:g.e.length<=8
 nd:g.d.length<=16
 e:∀i,i<g.e.length->EZ g.e.length i (ix g.e i)
 l:∀d,d<g.d.length->(ix g.d d).l.length<=8/\0<=(ix g.d d).w.q/\∀k,k<(ix g.d d).l.length->∃e j:Nat,ix (ix g.d d).l k=⟨(e:Int),(j:Int)⟩/\e<g.e.length/\j<(ix g.e e).c.length/\H8 (nM g.d d k) (ix (ix g.d d).l k)=false/\holdL g.e (ix (ix g.d d).l k)=holdL g.e (ix (ix g.d d).l 0)
def Ko{g:gQ}(h:PX g=0):GZ g:=by
 unfold PX at h;split at h
 .cases h
 next h0=>
 split at h
 .omega
 next h1=>
 split at h
 .omega
 next h2=>
 have h1:Gs (λi=>Ky (ix g.e i)) g.e.length=0:=bz h1;have h2:Gs (λi=>Gs (WX g i) (ix g.e i).c.length) g.e.length=0:=bz h2;refine⟨jb,jb,λi hi=>avv (iO h1 i hi) λk hk hx=>?_,λd hd=>?_⟩
 .grind[iO,WX]
 .have hD:=iO h d hd;unfold Ue at hD;split at hD
  .cases hD
  next d0=>
  split at hD
  .cases hD
  next d1=>
  refine⟨jb,acF d1,λk hk=>?_⟩;have hL:=iO hD k hk;unfold aev at hL;dsimp only at hL;split at hL
  .cases hL
  next hr=>
  split at hL
  .cases hL
  next hm=>
  split at hL
  .cases hL
  next hh=>
  have hm:H8 (nM g.d d k) (ix (ix g.d d).l k)=false:=by simpa using hm
  have hh:holdL g.e (ix (ix g.d d).l k)=holdL g.e (ix (ix g.d d).l 0):=bz hh;revert hm hh;generalize hx:ix (ix g.d d).l k=x at*;obtain⟨e,j⟩:=x;dsimp only at hr;intro hm hh;refine⟨e.toNat,j.toNat,?_,jb,jb,hm,hh⟩;rw[fJ jb,fJ jb]
def OC{α β:Type}[Inhabited α](f:α->List β):∀l:List α,(∀k,k<l.length->(f (ix l k)).Nodup/\∀j,j<k->∀x,x∈f (ix l k)->x∉f (ix l j))->(l.flatMap f).Nodup:=by
 intro l;have key:∀k,k<=l.length->(∀k,k<l.length->(f (ix l k)).Nodup/\∀j,j<k->∀x,x∈f (ix l k)->x∉f (ix l j))->((l.take k).flatMap f).Nodup:=by
  intro k;induction k with
  |zero=>simp
  |succ k ih=>
   intro hk h
   rw[bJ jb,cP,gb]
   have hs:[ix l k].flatMap f=f (ix l k):=by simp
   rw[hs]
   refine⟨ih jb h,(h k jb).1,λa ha b hb e=>?_⟩
   subst e
   obtain⟨y,hy,hay⟩:=cE.mp ha
   obtain⟨j,hj,rfl⟩:=aM hy
   grind[dX]
 grind[List.take_length]
def XU{α β:Type}[Inhabited α][Inhabited β](f:α->β){l:List α}{i:Nat}(h:i<l.length):ix (l.map f) i=f (ix l i):=by grind[dX]
section
variable {n i:Nat} {e:AU}
theorem EZ.prt(h:EZ n i e){k:Nat}(hk:k<e.a.length):∀t∈ix e.a k,∀x∈t,x.k=-1\/0<=x.k/\x.k<e.c.length:=λt ht x hx=>(((h.a k hk).2.2 t ht x hx).1).1
def aiA{α:Type}[Inhabited α]{l:List α}{k:Nat}(h:l.length<=k):ix l k=default:=by grind[ix]
def R3.avw:(default:R3).q=0:=by rfl
def EZ.amt(h:EZ n i e)(k:Nat):0<=(ix e.c k).a.q:=by
 by_cases hk:k<e.c.length
 .exact(h.c k hk).2.2.1
 .rw[aiA jb];rfl
def Ls{cs:List C5}{k:Nat}{t:dO}:t∈XQ cs k↔∃r,r<8/\t=Dy cs r k:=by grind[XQ]
def IB(h:EZ n i e):Aw (dh e)/\InE e.c.length (dh e):=by
 have hA:∀k,k<e.a.length->xX (λq=>0<=q) e.c.length (oK e.c (ix e.a k)).2:=λk hk=>acD am0 h.amt λt ht x hx=>((h.a k hk).2.2 t ht x hx).1;refine⟨⟨λt ht p hp=>?_,λp hp t ht q hq=>?_⟩,⟨λt ht p hp=>?_,λp hp t ht q hq=>?_,?_,λi hi=>?_⟩⟩
 .obtain⟨r,-,rfl⟩:=Ls.mp ht;exact(OB (P:=λq=>0<=q) (λi _=>h.amt i) r _ jp p hp).2
 .obtain⟨a,ha,rfl⟩:=cL.mp hp;obtain⟨k,hk,rfl⟩:=aM ha;rw[<-dX hk]at ht;exact(hA k hk t ht q hq).2
 .obtain⟨r,-,rfl⟩:=Ls.mp ht;exact(OB (P:=λq=>0<=q) (λi _=>h.amt i) r _ jp p hp).1
 .obtain⟨a,ha,rfl⟩:=cL.mp hp;obtain⟨k,hk,rfl⟩:=aM ha;rw[<-dX hk]at ht;exact(hA k hk t ht q hq).1
 .show((e.a.map (oK e.c)).flatMap (·.1)).Nodup;rw[it];refine OC (λa=>(oK e.c a).1) e.a λk hk=>⟨F5 (h.prt hk),λj hj x hx hx2=>?_⟩
  have h1:=(uS (h.prt hk)).mp hx;have h2:=(uS (h.prt (by omega:j<e.a.length))).mp hx2;obtain⟨t,ht,hm⟩:=fq.mp h1;obtain⟨y,hy,ey⟩:=fq.mp hm;have ey:y.k=(x:Int):=by grind
  have:=((h.a k hk).2.2 t ht y hy).2 jb;rw[ey]at this;unfold zQ at this;rw[List.any_eq_false]at this;refine this (ix e.a j) ?_ h2;rw[<-TY (l:=e.a) hj];grind[lW]
 .obtain⟨p,hp,hi⟩:=cE.mp hi;obtain⟨a,ha,rfl⟩:=cL.mp hp;obtain⟨k,hk,rfl⟩:=aM ha;rw[<-dX hk]at hi;have h1:=(uS (h.prt hk)).mp hi;have:=uo (h.prt hk) i (qU.mpr ⟨jb,h1⟩);omega
end
def aaw{g:gQ}(h:GZ g):I5 g.e.length (bf g):=by
 refine⟨λi hi=>(IB (h.e i hi)).1,λi hi=>(IB (h.e i hi)).2,λi c hi hc=>?_,λl hl=>?_,?_,λd hd=>?_⟩
 .have:=((h.e i hi).c c hc).2.2.2;show(ix (ix g.e i).c c).h=-1\/0<=(ix (ix g.e i).c c).h/\(ix (ix g.e i).c c).h<(g.e.length:Int);omega
 .obtain⟨d,hd,hl⟩:=cE.mp hl;obtain⟨d',hd',rfl⟩:=cL.mp hd;obtain⟨j,hj,rfl⟩:=aM hd';obtain⟨x,hx,rfl⟩:=cL.mp hl;rw[<-dX hj]at hx;obtain⟨k,hk,rfl⟩:=aM hx;obtain⟨a,b,e1,h1,h2,-⟩:=(h.l j hj).2.2 k hk;rw[<-dX hk,e1];exact⟨h1,h2⟩
 .show((g.d.map λd=>(d.w.q,d.l.map zJ)).flatMap (·.2)).Nodup;rw[it];have key:∀d,d<g.d.length->∀k,k<(ix g.d d).l.length->∀y∈nM g.d d k,(0<=y.e/\0<=y.k)->zJ y≠zJ (ix (ix g.d d).l k):=λd hd k hk y hy hn e=>by obtain⟨a,b,e1,h1,h2,h3,-⟩:=(h.l d hd).2.2 k hk;grind[Go.Proofs.Ins.H8,Go.Proofs.Ins.zJ]
  have nn:∀d,d<g.d.length->∀y∈(ix g.d d).l,0<=y.e/\0<=y.k:=λd hd y hy=>by obtain⟨k,hk,rfl⟩:=aM hy;obtain⟨a,b,e1,-⟩:=(h.l d hd).2.2 k hk;grind[dX]
  refine OC (λd:yc=>d.l.map zJ) g.d λd hd=>⟨?_,λj hj x hx hx2=>?_⟩
  .have:(List.range (ix g.d d).l.length).Pairwise (· < ·):=List.pairwise_lt_range;rw[iB,List.pairwise_map,iN];intro a b ha hb hab;have:=key d hd b hb (ix (ix g.d d).l a) (List.mem_append_right _ ?_) ?_
   .grind[dX]
   .rw[<-TY (l:=(ix g.d d).l) hab];grind[lW]
   grind[lW]
  .obtain⟨y,hy,rfl⟩:=cL.mp hx;obtain⟨z,hz,e⟩:=cL.mp hx2;obtain⟨k,hk,rfl⟩:=aM hy;rw[<-dX hk]at e;refine key d hd k hk z (ir _ (cE.mpr ⟨ix g.d j,?_,hz⟩)) (nn j jb z hz) e;rw[<-TY (l:=g.d) hj];grind[lW]
 .obtain⟨d',hd',rfl⟩:=cL.mp hd;obtain⟨j,hj,rfl⟩:=aM hd';rw[<-dX hj];exact(h.l j hj).2.1
end Go.Proofs.Ins
namespace Go.Proofs.Xe
open Go.RowKit Go.Proofs.Ins
def vQ:Rat:=((256^uK:Nat):Rat)
def uQ:Rat:=((256^900:Nat):Rat)
def OD:0<=uQ:=by have:((0:Nat):Rat)<=((256^900:Nat):Rat):=bj.mpr (br _);exact this
def pow_two{a b c:Nat}(h:a+b=c):256^a*256^b=256^c:=by rw[<-h,eg]
def F6{k:Nat}(h:k<=256^100):(k:Rat)*uQ<=vQ:=by
 unfold uQ vQ;rw[<-fe];refine bj.mpr ?_;calc k*256^900<=256^100*256^900:=bw _ h
  _=256^uK:=pow_two (show 100+900=uK from rfl)
def Rj{k:Nat}(h:k<=256^100):(k:Rat)<=vQ:=by unfold vQ;exact bj.mpr (aw h (bB jj jj))
abbrev IC(A:Nat)(q:Rat):Prop:=dR A q/\0<=q/\q<=uQ
section
variable {A n:Nat} {l:fZ}
def UO{t:dO}(h:Ae (IC A) n t):aV t<=(t.length:Rat)*uQ:=by
 induction t with
 |nil=>show(0:Rat)<=_;simp
 |cons p t ih=>
  have h1:=ih λq hq=>h q (by simp[hq])
  have h2:=(h p kc).2.2.2
  rw[bZ,ff]
  grind[aV]
def NP:∀{l:fZ},xX (IC A) n l->lI l<=(dH l:Rat)*uQ
 |[],_=>by show(0:Rat)<=((0:Nat):Rat)*uQ;simp
 |t::l,h=>by have h1:=NP (l:=l) λu hu=>h u (by simp[hu]);have h2:=UO (h t kc);show aV t+lI l<=((t.length+dH l:Nat):Rat)*uQ;grind
theorem zC:∀{l:fZ},KA l->0<=lI l
 |[],_=>aR
 |t::l,h=>by have:=zC (l:=l) λu hu=>h u (by simp[hu]);have:=yL (h t kc);show 0<=aV t+lI l;grind
def aiB:∀{l:fZ}{j:Nat},KA l->j<l.length->aV (ix l j)<=lI l
 |t::l,0,h,_=>by have:=zC (l:=l) λu hu=>h u (by simp[hu]);show aV t<=aV t+lI l;grind
 |t::l,j+1,h,hj=>by have:=aiB (l:=l) (j:=j) (λu hu=>h u (by simp[hu])) (by simpa using hj);have:=yL (h t kc);show aV (ix l j)<=aV t+lI l;grind
theorem aax:∀{l:fZ}(k:Nat),KA l->0<=BK l k/\BK l k<=lI l
 |[],k,h=>by unfold BK;rw[List.take_nil];exact⟨aR,aR⟩
 |t::l,0,h=>⟨aR,zC h⟩
 |t::l,k+1,h=>by obtain⟨h1,h2⟩:=aax (l:=l) k λu hu=>h u (by simp[hu]);have:=yL (h t kc);unfold BK at h1 h2⊢;rw[gh];show 0<=aV t+lI _/\aV t+lI _<=aV t+lI l;grind
end
structure EB(n:Nat)(e:eY):Prop where
 nb:n<=1000
 r0:0<e.rk.length
 r1:e.rk.length<=1000
 rn:dH e.rk<=1000
 ps:e.ps.length<=1000
 m:∀p∈e.ps,p.1.length<=1000/\∀i∈p.1,i<n
 p:∀p∈e.ps,0<p.2.length/\p.2.length<=1000/\dH p.2<=10000
section
variable {A B R D n:Nat} {l:fZ} {m x:Rat}
theorem rU(hD:BN D)(hB:B∣D){q:Rat}(h:dR B q)(h0:0<=q)(h1:q<=vQ):Zk D 1 q:=Zk.of hD.1 (h.dvd hB hD.1) h0 h1
theorem vN:2<=256^uK:=aw (by decide:2<=256^1) (bB jj jj)
def Et:∀{l:fZ}{t:dO},t∈l->t.length<=dH l
 |u::l,t,h=>by
  unfold dH;rcases bA.mp h with rfl|h
  .omega
  .have:=Et h;omega
def XV(hD:BN D)(hA:A∣D)(h:xX (IC A) n l)(hl:l.length<=1000)(hn:dH l<=10000):Oq D n l:=by
 have hU:=F6 (k:=10000) jj;have hU1:=F6 (k:=1) jj;have hz:∀t∈l,∀p∈t,Zk D 1 p.2:=λt ht p hp=>by have:=(h t ht p hp).2;grind[Go.Proofs.Xe.rU]
 refine⟨jb,λt ht=>by have:=Et ht;omega,λt ht=>?_,λt ht p hp=>(h t ht p hp).1,λt ht p hp=>(hz t ht p hp).sz hD (by grind[vN]),hz⟩;have h1:=UO (h t ht);have h2:(t.length:Rat)<=((10000:Nat):Rat):=bj.mpr (by have:=Et ht;omega);have h3:=bp h2 OD;refine(rU hD hA (Dz λp hp=>⟨(h t ht p hp).2.1,(h t ht p hp).2.2.1⟩) (yL λp hp=>(h t ht p hp).2.2.1) kd).sz hD (by grind[vN])
def Lu(hA0:0<A)(hD:BN D)(hA:A∣D)(h:xX (IC A) n l)(hn:dH l<=10000)(hB:B∣D)(hm:dR B m)(h0:0<=m)(h1:m<=vQ)(hR0:0<R)(hR:R*wJ A l m∣D)(hx:dR R x)(hx0:0<=x)(hx1:x<=vQ):Ot D l m x:=by
 have hnn:=h.D.nn;have hR1:R∣D:=bX (be _ _) hR;have hU:=F6 (k:=10000) jj;have h2:(dH l:Rat)<=((10000:Nat):Rat):=bj.mpr hn;have h3:=bp h2 OD;have ht:=NP h;have hu:=vN;have hzx:=rU hD hR1 hx hx0 hx1;refine⟨λk _=>?_,h0,hzx.sz hD jb,λhf=>?_,λhf p hp=>?_⟩
 .have hc:=aax k hnn;exact((rU hD hB hm h0 h1).sub (rU hD hA (aiw h.D k) hc.1 kd)).sz hD jb
 .have hs:=Af h0 hf;have:=aiB hnn hf;exact hzx.auN (rU hD hA (Dz (h.D _ (gy hf))) (eh hs) kd) hD jb jb kd
 .have hs:=Af h0 hf;have hpp:=h.D _ (gy hf) p hp;have hps:p.2<=aV (ix l (dP l m)):=by
   have:∀t:dO,(∀q∈t,0<=q.2)->p∈t->p.2<=aV t:=λt=>by
    induction t with
    |nil=>simp
    |cons q t ih=>
     intro hq hp
     show p.2<=q.2+aV t
     have h4:=hq q kc
     have h5:0<=aV t:=yL λr hr=>hq r (by simp[hr])
     grind
   exact this _ (λq hq=>(h.D _ (gy hf) q hq).2) hp
  have e:p.2*(x/aV (ix l (dP l m)))=x*(p.2/aV (ix l (dP l m))):=by grind
  have h4:=xQ hs hps;have h5:=aan hpp.2 hs;have h6:=cT h4 hx0;refine rU hD hR (aix hA0 h.D h0 hR0 hx hf hpp.1) ?_ ?_
  .grind[Rat.mul_nonneg]
  grind
def left_le(h0:0<=m)(h:KA l):0<=jG l m/\jG l m<=m:=by grind[Go.Proofs.Xe.UH,Go.Proofs.Xe.Oo,Go.Proofs.Xe.aax]
def arY{l:fZ}(h:KA l)(c:Int):∀{m:Rat},0<=m->gZ l m c<=lI l:=by
 induction l with
 |nil=>intro m _;rfl
 |cons t l ih=>
  intro m hm
  have hl:=zC (l:=l) λu hu=>h u (by simp[hu])
  have h2:=Ld (h t kc) c
  have h3:=yK (h t kc) c
  unfold gZ
  show _<=aV t+lI l
  split
  .next hlt=>
   have h4:=xQ (a:=m) (b:=aV t) kd (eh hlt)
   have h5:=cT h4 h3
   grind
  .have:=ih (λu hu=>h u (by simp[hu])) (m:=m-aV t) kd
   grind
def UQ{l:fZ}(h:KA l)(c:Int){x:Rat}(hx:0<=x)(h0:0<=m):jU l m x c<=x:=by
 rw[Ep];split
 .next hf=>
  have hs:=Af h0 hf;have hl:=h _ (gy hf);have e:gB (ix l (dP l m)) c*(x/aV (ix l (dP l m)))=x*(gB (ix l (dP l m)) c/aV (ix l (dP l m))):=by grind
  rw[e];have h4:=xQ hs (Ld hl c);have h6:=cT h4 hx;grind
 omega
end
section
variable {A B D n:Nat} {m:Rat} {e:eY}
def rW{α:Type}{f:α->Rat}{v:Rat}(h0:0<=v):∀{l:List α}{k:Nat},(∀a∈l,f a<=v)->l.length<=k->aI l f<=(k:Rat)*v
 |[],k,_,_=>by have:((0:Nat):Rat)<=(k:Rat):=bj.mpr (br _);exact cj this h0
 |a::l,k,h,hk=>by
  obtain⟨k,rfl⟩:∃j,k=j+1:=⟨k-1,by simp at hk;omega⟩
  have h1:=rW h0 (l:=l) (k:=k) (λb hb=>h b (by simp[hb])) (by simpa using hk);have h2:=h a kc;show f a+aI l f<=_;rw[ff];have:((1:Nat):Rat)=1:=rfl;grind
def aiC(h:ED A uQ n e)(hb:EB n e)(h0:0<=m){p:List Nat×fZ}(hp:p∈e.ps):kL e m p<=vQ:=by have ht:=NP h.rk;have h2:(dH e.rk:Rat)<=((1000:Nat):Rat):=bj.mpr hb.rn;have h3:=bp h2 OD;have h4:=rW (f:=y7 e m) (v:=((1000:Nat):Rat)*uQ) (cj (bj.mpr (br 1000)) OD) (l:=p.1) (k:=1000) (λc _=>cM (arY h.rk.D.nn c h0) (cM ht h3)) (hb.m p hp).1;have h5:=F6 (k:=1000*1000) jj;grind[kL]
def arZ(h:ED A uQ n e)(hb:EB n e)(h0:0<=m){p:List Nat×fZ}(hp:p∈e.ps):sF e m p<=vQ:=by have h4:=rW (f:=rts e m) (v:=1) jj (l:=p.1) (k:=1000) (λc _=>UQ h.rk.D.nn c jj h0) (hb.m p hp).1;have h5:=Rj (k:=1000) jj;grind[sF]
def aiD(hD:BN D)(hA:A∣D)(h:ED A uQ n e)(hb:EB n e):EOk D n e:=by
 have hn:=hb.nb;have hps:=hb.ps;refine⟨jb,XV hD hA h.rk hb.r1 (by have:=hb.rn;omega),hb.r0,jb,λp hp=>⟨by have:=(hb.m p hp).1;omega,(hb.m p hp).2⟩,λp hp=>⟨XV hD hA (h.ps p hp) (hb.p p hp).2.1 (hb.p p hp).2.2,(hb.p p hp).1⟩,?_⟩;have h1:∀l:List (List Nat×fZ),(∀p∈l,dH p.2<=10000)->Iq l<=l.length*10000:=λl=>by
  induction l with
  |nil=>intro _;exact cO 0
  |cons p l ih=>
   grind[Iq]
 have h2:=h1 e.ps λp hp=>(hb.p p hp).2.2;have h3:=hb.rn;grind[uK]
def aiE(hA0:0<A)(hB0:0<B)(hAB:A∣B)(hD:BN D)(hBD:B*BL A e m∣D)(h:ED A uQ n e)(hb:EB n e)(hm:dR B m)(h0:0<=m)(h1:m<=vQ):MOk D e m:=by
 have hB:B∣D:=bX (be _ _) hBD;have hA:A∣D:=bX hAB hB;have hr:B*wJ A e.rk m∣D:=bX (cH _ (be _ _)) hBD;have hr0:=ck hB0 (rQ hA0 h.rk.D h0);refine⟨(rU hD hB hm h0 h1).sz hD (by grind[vN]),?_,λp hp=>?_⟩
 .have hl:=left_le h0 h.rk.D.nn;exact Lu hA0 hD hA h.rk (by have:=hb.rn;omega) hB hm h0 h1 hB0 hr (aav hA0 hB0 hAB h.rk.D hm) hl.1 (cM hl.2 h1)
 .have hg:=nI h.nn h0 p;have hgD:=XR hA0 hB0 hAB h hm h0 p;have hgl:=aiC h hb h0 hp;have hl:=left_le hg (h.ps p hp).D.nn;have hd:B*wJ A e.rk m*wJ A p.2 (kL e m p)∣D:=by refine bX ?_ hBD;rw[gc];exact cH _ (cH _ (DC A e m hp))
  exact⟨Lu hA0 hD hA (h.ps p hp) (hb.p p hp).2.2 hr hgD hg hgl hr0 hd (aav hA0 hr0 (bX hAB (be _ _)) (h.ps p hp).D hgD) hl.1 (cM hl.2 hgl),(rU hD hr hgD hg hgl).sz hD (by grind[vN])⟩
def aiF(hA0:0<A)(hB0:0<B)(hAB:A∣B)(hD:BN D)(hBD:B*BL A e m∣D)(h:ED A uQ n e)(hb:EB n e)(hm:dR B m)(h0:0<=m)(h1:m<=vQ):ROk D e m:=by
 have hB:B∣D:=bX (be _ _) hBD;have hA:A∣D:=bX hAB hB;have hr:B*wJ A e.rk m∣D:=bX (cH _ (be _ _)) hBD;have hr0:=rQ hA0 h.rk.D h0;have hr1:wJ A e.rk m∣D:=bX (gN _ _) hr;have h1v:=Rj (k:=1) jj;refine⟨?_,λp hp=>?_⟩
 .exact Lu (R:=1) hA0 hD hA h.rk (by have:=hb.rn;omega) hB hm h0 h1 jj kd ⟨1,by grind⟩ jj h1v
 .have hg:=nI h.nn h0 p;have hgD:=XR hA0 hB0 hAB h hm h0 p;have hgl:=aiC h hb h0 hp;have hR:=Ju h.nn h0 p;have hRD:=acE hA0 h h0 p;have hRl:=arZ h hb h0 hp;have hd:wJ A e.rk m*wJ A p.2 (kL e m p)∣D:=by refine bX ?_ (bX (gN _ _) hBD);exact cH _ (DC A e m hp)
  exact⟨Lu hA0 hD hA (h.ps p hp) (hb.p p hp).2.2 hr hgD hg hgl hr0 hd hRD hR hRl,(rU hD hr1 hRD hR hRl).sz hD (by grind[vN])⟩
end
section
variable {E:Env} [Z4 E] {p:Nat→Prop} {σ:St} {K:V→St→Prop}
def XW{v:B}{a:iy}(ha:dZ p σ.h v a)(h1:a.length<=1000000)(h2:a.flatten.length<=1000000){v':V}{σ':St}(hm:ahC a.flatten σ=some (v',σ')):aC E 133 [.c v] σ K=K v' σ':=
 QO (by have h:=(amj ha h1 h2).trans hm;unfold Xg;rw[abR rfl];unfold aml ahF;simp only[Nat.reduceEqDiff,reduceIte,h])
def Rk{v:B}{a:iy}(ha:dZ p σ.h v a)(h1:a.length<=1000000)(h2:a.flatten.length<=1000000){v':V}{σ':St}(hm:ahB (wH a) σ=some (v',σ')):aC E 91 [.agg [v]] σ K=K v' σ':=
 QO (by have h:=(ami ha h1 h2).trans hm;unfold Xg;rw[abR rfl];unfold aml ahF;simp only[Nat.reduceEqDiff,reduceIte,h])
end
def Rl{E:Env}[Z4 E]{σ:St}(hW:WF σ){p:Nat->Prop}{v:B}{a:iy}(ha:dZ p σ.h v a)(h1:a.length<=1000000)(h2:a.flatten.length<=1000000):
  aC E 91 [.agg [v]] σ λr σ'=>(∃u,r=.c u/\Ac σ'.h u (wH a).length (λi=>[.int .i64 (ix (wH a) i)]) 1 3 σ.aj σ'.aj)/\Fr σ σ':=by
 by_cases h0:(wH a).length=0
 .rw[Rk ha h1 h2 (v':=.c .aY) (σ':=σ) (ab h0)]
  exact⟨⟨_,rfl,.inl ⟨h0,rfl⟩⟩,Fr.refl hW⟩
 .rw[Rk ha h1 h2 (ae h0)]
  exact⟨⟨_,rfl,.inr ⟨jb,_,rfl,aA _ _ _,jp,cg _⟩⟩,fr⟩
def am1{a:iy}{n:Nat}(ha:∀t∈a,∀x∈t,x.k=-1\/0<=x.k/\x.k<n){i:Nat}(hi:i<(wH a).length):B.int .i64 (ix (wH a) i)=P6 (jW a) i:=by unfold P6 jW;rw[XU Int.toNat hi];have:=uo ha _ (lW hi);grind
def OE(a:iy):(jW a).length=(wH a).length:=cY _
structure TS(σ:St)(tb bs:Nat)(t:dO):Prop where
 b:σ.h tb=some ⟨jV (aS t.length bs) (aV t),none⟩
 o:Oy σ.h bs t
 lo:tb<bs
 hi:t.length=0\/bs<σ.aj
def TS.lt{σ:St}(hW:WF σ){tb bs:Nat}{t:dO}(h:TS σ tb bs t):tb<σ.aj:=hW.lt h.b
def TS.on{σ σ':St}{tb bs:Nat}{t:dO}(h:TS σ tb bs t)(h1:∀b,tb<=b->b<σ.aj->σ'.h b=σ.h b)(hW:WF σ)(hle:σ.aj<=σ'.aj):TS σ' tb bs t:=by have h0:=h.lt hW;have hlo:=h.lo;have hhi:=h.hi;refine⟨by rw[h1 tb jp h0];exact h.b,?_,hlo,jb⟩;refine(pz ?_).trans h.o;grind
theorem TS.fr{σ σ':St}{tb bs:Nat}{t:dO}(h:TS σ tb bs t)(hW:WF σ)(hf:Fr σ σ'):TS σ' tb bs t:=h.on (λb _ hb=>hf.old b hb) hW hf.le
def TS.fre{σ σ':St}{ex:List Nat}{tb bs:Nat}{t:dO}(h:TS σ tb bs t)(hW:WF σ)(hf:aU ex σ σ')(hx:∀b∈ex,b<tb):TS σ' tb bs t:=h.on (λb h1 h2=>hf.old b h2 λhm=>by grind) hW hf.le
def aay{σ:St}(hW:WF σ){tb bs:Nat}{t:dO}(hT:TS σ tb bs t)(hl:t.length<=1000000)(k:Int)(q:Rat)(hs:Sz (aV t))(hq:Sz q):
  aC EN 93 [.c (.ptr tb 0),.c (.int .i64 k),.agg [.bool (rn q),.str (rs q),.str (rd q)]] σ λ_ σ'=>(∃bs',TS σ' tb bs' (t++[(k,q)]))/\(∀b,b<tb->σ'.h b=σ.h b)/\WF σ'/\σ.aj<=σ'.aj:=by
 have h0:=hT.lo
 have hlt:=hT.lt hW
 have:=ais (G:=λ_=>jV (aS t.length bs) (aV t)) (n:=1) (r:=0) hW (by rw[hT.b];rfl) jj (λ_=>rfl) rfl rfl rfl hT.o (.inr jb) hT.hi hl k q hs hq
 refine this.mono ?_
 rintro _ σ' ⟨nx,h1,h2,h3,h4,h5⟩
 have hle:=h5.le
 refine⟨⟨nx,?_,?_,jb,.inr h2⟩,λb hb=>h5.old b jb kd,h5.wf,hle⟩
 .rw[h3,Ri,aD];rfl
 .unfold Oy
  rw[aD,ce]
  show σ'.h nx=some _
  grind[Go.Proofs.Xe.kT,Go.Proofs.Xe.bW,Go.Proofs.Xe.jk,Go.Proofs.Xe.gW,Go.Proofs.Xe.gV]
def am2(U:Nat->B)(Lf:Nat->dO)(p:Nat->Prop)(h:Tr Bk)(i:Nat):Prop:=aW p h 4 (U i) (Lf i).length λc=>zZ (ix (Lf i) c)
def XY(U:Nat->B)(Lf:Nat->dO)(i:Nat):List B:=jV (U i) (aV (Lf i))
abbrev aaz(U:Nat->B)(Lf:Nat->dO)(h:Tr Bk)(b n lo hi:Nat):Prop:=NF (am2 U Lf) h b n (XY U Lf) 4 157 lo hi
def UR(U:Nat->B)(Lf:Nat->dO)(j:Nat):QK (am2 U Lf) j:=λ_ _ _ _ hp hk hq=>aW.keep hp hk hq
def UU(U:Nat->B)(Lf:Nat->dO):LG (XY U Lf) 4:=λ_=>rfl
section
variable {U:Nat→B} {Lf:Nat→dO} {h h' : Tr Bk} {b n lo hi:Nat}
def aaz.push(ho:aaz U Lf h b n lo hi){σ1:St}(hW:WF σ1){tb bs nx n':Nat}{t:dO}(hL:Lf n=t)(hT:TS σ1 tb bs t)(ht:hi<=tb)(h5:lo<=hi)(hh:∀b,lo<=b->b<hi->σ1.h b=h b)(h3:σ1.aj<=nx)(h4:nx<n')
  (hb:h' nx=some ⟨bH n (XY U Lf)++jV (aS t.length bs) (aV t),some (4,157)⟩) (hk:∀c,lo<=c->c<σ1.aj->n=0\/c≠b->h' c=σ1.h c):aaz (aN U n (aS t.length bs)) Lf h' nx (n+1) lo n':=by
 have hlt:=hT.lt hW
 have hlo:=hT.lo
 have hx:aW (λb=>hi<=b/\b<σ1.aj) σ1.h 4 (aS t.length bs) t.length λj=>zZ (ix t j):=hT.o.hlp (by rcases hT.hi with h0|h0;exact .inl h0;omega)
 refine NF.push ho (λj _=>UR _ Lf j) (λj hj p h hq=>?_) (hi1:=σ1.aj) (h1:=σ1.h) ?_ hh jb h3 h4 h5 hb ?_ hk (λi hi=>?_) (UU _ _)
 .grind[am2,aQ]
 .grind[am2,aO]
 .grind[XY,aO]
 grind[XY,aQ]
def aaz.ar0(ho:aaz U Lf h b n lo hi){l:fZ}(hl:l.length=n)(hL:∀i,i<n->Lf i=ix l i):yN (λb=>lo<=b/\b<hi) h (aS n b) l:=by
 have hel:=λi (hi:i<n)=>ho.el (λj _=>UR U Lf j) hi;refine⟨U,?_,by cases n<;>trivial,λi hi=>?_⟩
 .rw[hl];refine(ho.hlp jj (λi hi=>?_) λb h1 h2=>⟨h1,h2⟩).congr λi hi=>by grind[XY]
  unfold XY jV;simp only[cU,et,AL,FV,(hel i hi).kn,dT]
 .rw[hl]at hi;rw[<-hL i hi];exact hel i hi
end
def lsS(cs:List C5)(a:iy)(j:Nat):(Nat->Rat)×fZ:=(a.take j).foldl ltS ((λi:Nat=>(ix cs i).a.q),[])
def Bc(f:Nat->Rat)(t:H6)(l:Nat):(Nat->Rat)×dO:=(t.take l).foldl Lr (f,[])
theorem OG{cs:List C5}{a:iy}{j:Nat}(h:j<a.length):lsS cs a (j+1)=ltS (lsS cs a j) (ix a j):=by grind[lsS,bJ]
def IE(cs:List C5)(a:iy):lsS cs a a.length=lsA cs a:=by grind[lsS,lsA]
def Bd(cs:List C5)(a:iy):∀j,j<=a.length->(lsS cs a j).2.length=j
 |0,_=>rfl
 |j+1,h=>by rw[OG jb];unfold ltS;rw[aD,Bd cs a j jb];rfl
def aaA{α:Type}[Inhabited α]{l:List α}{x:α}{n:Nat}(h:l.length=n):ix (l++[x]) n=x:=by grind[gW]
def nV(m k:Nat)(F:Nat->Rat):bU m (aN (λi=>if i<k then F i else 0) k (F k))=bU m λi=>if i<k+1 then F i else 0:=dA λi _=>by grind[aN]
def uw(m:Nat)(F:Nat->Rat):bU m (λi=>if i<m then F i else 0)=bU m F:=dA λi hi=>ab hi
def rX(m:Nat)(F:Nat->Rat):bU m (λ_=>0)=bU m λi=>if i<0 then F i else 0:=dA λi _=>rfl
def aiG{s:(Nat->Rat)×dO}{x:Au}{kk:Nat}(h1:¬x.k=-1)(hk:x.k=Int.ofNat kk):Lr s x=(aN s.1 kk (s.1 kk-if x.b=true then jy (s.1 kk) x.a.q else s.1 kk),s.2++[(Int.ofNat kk,if x.b=true then jy (s.1 kk) x.a.q else s.1 kk)]):=by unfold Lr;rw[ae h1,hk];refine Prod.ext ?_ rfl;grind[aN]
def UW{cs:List C5}{a:iy}{i:Nat}:∀{j},i<j->j<=a.length->ix (lsS cs a j).2 i=(Bc (lsS cs a i).1 (ix a i) (ix a i).length).2
 |j+1,hi,hj=>by
  rw[OG jb];unfold ltS;by_cases e:i=j
  .subst e;have:=Bd cs a i jb;exact(aaA this).trans (by unfold Bc;rw[cn])
  .show ix ((lsS cs a j).2++[_]) i=_;rw[gV _ _ (by rw[Bd cs a j jb];omega)];exact UW jb jb
def XZ{f:Nat->Rat}{t:H6}{l:Nat}(h:l<t.length):Bc f t (l+1)=Lr (Bc f t l) (ix t l):=by grind[Bc,bJ]
def LC(f:Nat->Rat)(t:H6):∀l,l<=t.length->(Bc f t l).2.length=l
 |0,_=>rfl
 |l+1,h=>by rw[XZ jb];unfold Lr;split<;>simp[LC f t l jb]
def aiH{cs:List C5}{a:iy}{j:Nat}(h:j<a.length):(lsS cs a (j+1)).1=(Bc (lsS cs a j).1 (ix a j) (ix a j).length).1:=by grind[OG,ltS,Bc]
def aeV(ms:List Nat)(f:Nat->Rat){i:Nat}(h:i<ms.length):vM (ms.take (i+1)) f=vM (ms.take i) f++[(((ix ms i:Nat):Int),f (ix ms i))]:=by grind[vM,bJ]
def aiI:∀{l:List Int}{lo hi:Int},l.Pairwise (· < ·)->(∀x∈l,lo<=x/\x<hi)->l.length<=(hi-lo).toNat
 |[],_,_,_,_=>br _
 |a::l,lo,hi,hp,h=>by
  rw[List.pairwise_cons]at hp;have h1:=h a kc;have:=aiI (lo:=a+1) (hi:=hi) hp.2 λx hx=>by grind
  grind
def F7{a:iy}{n:Nat}(ha:∀t∈a,∀x∈t,x.k=-1\/0<=x.k/\x.k<n):(jW a).length<=n:=by have:=aiI (abN a) (uo ha);rw[OE];omega
theorem LH(cs:List C5)(r:Nat):∀k,(Dy cs r k).length<=k
 |0=>cO 0
 |k+1=>by have:=LH cs r k;unfold Dy;rw[aD];split<;>simp<;>omega
section
variable {A n:Nat}
def ar1(hA:0<A):P7 (IC A) where
 min:=λa b ha hb=>by grind[jy]
 sub:=λa b ha hb=>by
  have h1:=ha.2;have h2:=hb.2;unfold jy;split
  .grind[dR.zero]
  .exact⟨ha.1.sub hb.1,by grind,by grind⟩
 zero:=⟨dR.zero A,aR,OD⟩
def OH(hA:BN A){q:Rat}(h:IC A q):Sz q:=by have hU:=F6 (k:=1) jj;have:((1:Nat):Rat)=1:=rfl;exact(rU hA (im A) h.1 h.2.1 kd).sz hA (by grind[vN])
def UY(hA:BN A){t:dO}(h:Ae (IC A) n t)(hl:t.length<=10000):Sz (aV t):=by have hU:=F6 (k:=10000) jj;have h1:=UO h;have h2:(t.length:Rat)<=((10000:Nat):Rat):=bj.mpr hl;have h3:=bp h2 OD;exact(rU hA (im A) (Dz λp hp=>⟨(h p hp).2.1,(h p hp).2.2.1⟩) (yL λp hp=>(h p hp).2.2.1) kd).sz hA (by grind[vN])
def ar2{P:Rat->Prop}(hP:P7 P){f:Nat->Rat}(hf:∀i,P (f i)){t:H6}(ht:∀x∈t,P8 P n x)(l:Nat):(∀i,P ((Bc f t l).1 i))/\Ae P n (Bc f t l).2:=
 aas hP (t.take l) hf (λ_ h=>by cases h) λx hx=>ht x (eo hx)
def ar4{P:Rat->Prop}(hP:P7 P){cs:List C5}(hc:∀i,P (ix cs i).a.q){a:iy}(ha:∀t∈a,∀x∈t,P8 P n x)(j:Nat)(i:Nat):P ((lsS cs a j).1 i):=
 (aat hP (a.take j) hc (λ_ h=>by cases h) λt ht=>ha t (eo ht)).1 i
end
def ar5(p q:Rat):Jk p q=jy p q:=by
 unfold Jk jy;by_cases h:p<=q
 .rw[ab h,ab (nZ.mpr h)]
 .rw[ae h,ae λe=>h (nZ.mp e)]
structure aiJ(A:Nat)(cs:List C5)(a:iy):Prop where
 nc:cs.length<=1000
 na:a.length<=1000
 nt:∀t,t<a.length->(ix a t).length<=1000
 nf:a.flatten.length<=1000000
 fc:∀i,i<cs.length->(ix cs i).a.fits 1000000
 fp:∀t,t<a.length->∀l,l<(ix a t).length->(ix (ix a t) l).a.fits 1000000
 c:∀i,IC A (ix cs i).a.q
 p:∀t∈a,∀x∈t,P8 (IC A) cs.length x
end Go.Proofs.Xe
