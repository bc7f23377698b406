import Derived.Test.YthkggcakedkboaaGreatDoorYc23
set_option linter.all false
namespace Go.Proofs.Xe
open Go.RowKit Go.Proofs.Ins
def dU(D:Nat)(q:Rat):Prop:=∃a:Int,q=(a:Rat)/(D:Rat)
theorem iC{D:Nat}(h:0<D):(D:Rat)≠0:=λe=>by simp_all
section
variable {A B D:Nat} {p q x s:Rat}
theorem dU.zero(D:Nat):dU D 0:=⟨0,by grind⟩
theorem dU.add(h:dU D p)(h':dU D q):dU D (p+q):=by obtain⟨a,rfl⟩:=h;obtain⟨b,rfl⟩:=h';exact⟨a+b,by grind⟩
def dU.neg(h:dU D p):dU D (-p):=by obtain⟨a,rfl⟩:=h;exact⟨-a,by grind⟩
def dU.sub(h:dU D p)(h':dU D q):dU D (p-q):=by rw[it];exact h.add h'.neg
def dU.up(h:dU A p){k:Nat}(hk:0<k):dU (A*k) p:=by
 obtain⟨a,rfl⟩:=h;refine⟨a*k,?_⟩;have h1:=iC hk;have e2:((a*(k:Int):Int):Rat)=(a:Rat)*(k:Rat):=by rw[cR];rfl
 grind
def dU.dvd(h:dU A p)(hd:A∣B)(hB:0<B):dU B p:=by obtain⟨k,rfl⟩:=hd;exact h.up (fe λe=>by grind)
theorem dU.sum{α:Type}{f:α->Rat}:∀{l:List α},(∀a∈l,dU D (f a))->dU D (aJ l f)
 |[],_=>dU.zero D
 |a::l,h=>(h a kc).add (dU.sum λb hb=>h b (by simp[hb]))
def nuA(A:Nat)(s:Rat):Nat:=(s*A).num.natAbs
def Un(hA:0<A)(hs:dU A s)(h0:0<s):s=(nuA A s:Rat)/(A:Rat)/\0<nuA A s:=by
 obtain⟨u,rfl⟩:=hs;have hA:=iC hA;have e:(u:Rat)/(A:Rat)*(A:Rat)=(u:Rat):=by grind
 unfold nuA;rw[e,Rat.num_intCast];have hu:0<u:=by
  have h1:(0:Rat)<=(A:Rat):=by grind
  have h2:=Rat.mul_pos h0 (show(0:Rat)<(A:Rat) by grind);rw[e]at h2;exact Rat.intCast_pos.mp h2
 have e2:((u.natAbs:Nat):Rat)=(u:Rat):=by
  have:((u.natAbs:Int):Rat)=(u:Rat):=by grind
  exact this
 grind
def dU.share(hA:0<A)(hB:0<B)(hp:dU A p)(hx:dU B x)(hs:dU A s)(h0:0<s):dU (B*nuA A s) (p*(x/s)):=by obtain⟨e,hn⟩:=Un hA hs h0;obtain⟨c,rfl⟩:=hp;obtain⟨z,rfl⟩:=hx;generalize nuA A s=n at*;refine⟨c*z,?_⟩;grind
def Zk.of(hD:0<D)(h:dU D q)(h1:0<=q)(h2:q<=((256^uK:Nat):Rat)):Zk D 1 q:=by
 obtain⟨a,rfl⟩:=h;refine⟨a,rfl,?_⟩;have hD':=iC hD;have h3:(0:Rat)<(D:Rat):=by grind
 have e:(a:Rat)/(D:Rat)*(D:Rat)=(a:Rat):=by grind
 have h4:=bj h2 (dC h3);have h5:=ce h1 (dC h3);rw[e]at h4 h5;rw[<-eO]at h4;have h4:((a:Int):Rat)<=(((256^uK*D:Nat):Int):Rat):=h4;have h4:=fS.mp h4;have h5:=Rat.intCast_nonneg.mp h5;grind
end
def vM(A:Nat)(l:gu)(m:Rat):Nat:=if dN l m<l.length then nuA A (aV (ix l (dN l m)))else 1
def JW(A:Nat)(l:gu):Prop:=∀t∈l,∀p∈t,dU A p.2/\0<=p.2
section
variable {A B:Nat} {l:gu} {m:Rat}
def Df{t:dP}(h:∀p∈t,dU A p.2/\0<=p.2):dU A (aV t):=by
 induction t with
 |nil=>exact dU.zero A
 |cons p t ih=>exact(h p kc).1.add (ih λq hq=>h q (by simp[hq]))
def ZV{t:dP}(h:∀p∈t,dU A p.2/\0<=p.2)(c:Int):dU A (lW t c):=by
 induction t with
 |nil=>exact dU.zero A
 |cons p t ih=>
  refine dU.add ?_ (ih λq hq=>h q (by simp[hq]))
  grind[dU.zero]
def JW.nn(h:JW A l):Pm l:=λt ht p hp=>(h t ht p hp).2
def ahS(h:JW A l)(k:Nat):dU A (Bd l k):=by
 unfold Bd;have:∀l:gu,JW A l->dU A (nH l):=λl=>by
  induction l with
  |nil=>intro _;exact dU.zero A
  |cons t l ih=>intro h;exact(Df (h t kc)).add (ih λu hu=>h u (by simp[hu]))
 exact this _ λt ht=>h t (dT ht)
def aq5(h:JW A l)(c:Int):dU A (Hw l c):=by
 induction l with
 |nil=>exact dU.zero A
 |cons t l ih=>exact(ZV (h t kc) c).add (ih λu hu=>h u (by simp[hu]))
def zG(hm:0<=m)(hf:dN l m<l.length):0<aV (ix l (dN l m)):=by have:=Uh l m hm;grind
def qQ(hA:0<A)(h:JW A l)(hm:0<=m):0<vM A l m:=by
 unfold vM;split
 .next hf=>exact(Un hA (Df (h _ (fO hf))) (zG hm hf)).2
 .omega
def ZW(hA:0<A)(hB:0<B)(hd:A∣B)(h:JW A l)(hm:dU B m):dU B (jq l m):=by rw[NU];exact hm.sub ((ahS h _).dvd hd hB)
def ahT(hA:0<A)(h:JW A l)(h0:0<=m){R:Nat}(hR:0<R){x:Rat}(hx:dU R x)(hf:dN l m<l.length){q:Rat}(hq:dU A q):dU (R*vM A l m) (q*(x/aV (ix l (dN l m)))):=by unfold vM;rw[ab hf];exact dU.share hA hR hq hx (Df (h _ (fO hf))) (zG h0 hf)
def aoj(hA:0<A)(hB:0<B)(hd:A∣B)(h:JW A l)(hm:dU B m)(h0:0<=m)(c:Int):dU (B*vM A l m) (iy l m c):=by
 have hc:=qQ hA h h0;rw[Jb];refine dU.add ((aq5 (λt ht=>h t (dT ht)) c).dvd (bL hd (aR _ _)) (cf hB hc)) ?_;split
 .next hf=>exact ahT hA h h0 hB (ZW hA hB hd h hm) hf (ZV (h _ (fO hf)) c)
 .exact dU.zero _
def aok(hA:0<A)(h:JW A l)(h0:0<=m){R:Nat}(hR:0<R){x:Rat}(hx:dU R x)(c:Int):dU (R*vM A l m) (jH l m x c):=by
 rw[DZ];split
 .next hf=>exact ahT hA h h0 hR hx hf (ZV (h _ (fO hf)) c)
 .exact dU.zero _
end
def aei(A:Nat)(e:eH)(x:Rat):List (List Nat×gu)->Nat
 |[]=>1
 |p::l=>vM A p.2 (kL e x p)*aei A e x l
def Bg(A:Nat)(e:eH)(x:Rat):Nat:=vM A e.rk x*aei A e x e.ps
structure ED(A:Nat)(U:Rat)(n:Nat)(e:eH):Prop where
 rk:wZ (λq=>dU A q/\0<=q/\q<=U) n e.rk
 ps:∀p∈e.ps,wZ (λq=>dU A q/\0<=q/\q<=U) n p.2
section
variable {A B n:Nat} {U m:Rat} {e:eH}
def _root_.Go.Proofs.Ins.wZ.D{l:gu}(h:wZ (λq=>dU A q/\0<=q/\q<=U) n l):JW A l:=λt ht p hp=>⟨(h t ht p hp).2.1,(h t ht p hp).2.2.1⟩
def ED.nn(h:ED A U n e):Bc e:=⟨h.rk.D.nn,λp hp=>(h.ps p hp).D.nn⟩
def aol(hA:0<A)(hB:0<B)(hd:A∣B)(h:ED A U n e)(hm:dU B m)(h0:0<=m)(c:Nat):dU (B*vM A e.rk m) (yG e m c):=aoj hA hB hd h.rk.D hm h0 _
def aom(hA:0<A)(h:ED A U n e)(h0:0<=m)(c:Nat):dU (vM A e.rk m) (rts e m c):=by have:=aok (R:=1) hA h.rk.D h0 jj (x:=1) ⟨1,by grind⟩ c;rwa[Nat.one_mul]at this
def Xh(hA:0<A)(hB:0<B)(hd:A∣B)(h:ED A U n e)(hm:dU B m)(h0:0<=m)(p:List Nat×gu):dU (B*vM A e.rk m) (kL e m p):=dU.sum λc _=>aol hA hB hd h hm h0 c
def abY(hA:0<A)(h:ED A U n e)(h0:0<=m)(p:List Nat×gu):dU (vM A e.rk m) (rF e m p):=dU.sum λc _=>aom hA h h0 c
def Dh(A:Nat)(e:eH)(x:Rat):∀{l:List (List Nat×gu)}{p:List Nat×gu},p∈l->vM A p.2 (kL e x p)∣aei A e x l
 |q::l,p,h=>by
  rcases bz.mp h with rfl|h
  .exact aR _ _
  .exact bL (Dh A e x h) (gp _ _)
def Xi(hA:0<A)(h:ED A U n e)(h0:0<=m):∀{l:List (List Nat×gu)},(∀p∈l,p∈e.ps)->0<aei A e m l
 |[],_=>Nat.zero_lt_one
 |p::l,hl=>cf (qQ hA (h.ps p (hl p kc)).D (nI h.nn h0 p)) (Xi hA h h0 λq hq=>hl q (by simp[hq]))
def Ia(hA:0<A)(h:ED A U n e)(h0:0<=m):0<Bg A e m:=cf (qQ hA h.rk.D h0) (Xi hA h h0 λ_ h=>h)
def ahU(hA:0<A)(hB:0<B)(hd:A∣B)(h:ED A U n e)(hm:dU B m)(h0:0<=m)(c:Nat):dU (B*Bg A e m) (sK e m c):=by
 have hp:=cf hB (Ia hA h h0);have hp1:=cf hB (qQ hA h.rk.D h0);unfold sK;refine dU.add ?_ (dU.sum λp hp'=>?_)
 .split
  .exact dU.zero _
  .exact(aol hA hB hd h hm h0 c).dvd (cE _ (aR _ _)) hp
 .refine(aoj hA hp1 (bL hd (aR _ _)) (h.ps p hp').D (Xh hA hB hd h hm h0 p) (nI h.nn h0 p) c).dvd ?_ hp;rw[fv];exact cE _ (cE _ (Dh A e m hp'))
def ahV(hA:0<A)(h:ED A U n e)(h0:0<=m)(c:Nat):dU (Bg A e m) (wY e m c):=by
 have hp:=Ia hA h h0;unfold wY;refine dU.add ?_ (dU.sum λp hp'=>?_)
 .split
  .exact dU.zero _
  .exact(aom hA h h0 c).dvd (aR _ _) hp
 .exact(aok hA (h.ps p hp').D (nI h.nn h0 p) (qQ hA h.rk.D h0) (abY hA h h0 p) c).dvd (cE _ (Dh A e m hp')) hp
end
end Go.Proofs.Xe
namespace Go.Proofs.Ins
def zH(l:Lg):fJ:=(l.e.toNat,l.k.toNat)
def bC(g:iJ):GL:=⟨λi=>dI (ix g.e i),λi=>(ix g.e i).c.length,λi c=>(ix (ix g.e i).c c).h,g.d.map λd=>(d.w.q,d.l.map zH)⟩
theorem abZ{q:Rat}(h:¬sg q<0):0<=q:=by grind[sg]
def ams:Pq (λq=>0<=q) where
 min:=λa b ha hb=>by grind[jV]
 sub:=λa b ha hb=>by grind[jV]
 zero:=be
structure EZ(n:Nat)(i:Nat)(e:xU):Prop where
 nc:e.c.length<=24
 na:e.a.length<=12
 m:0<=e.m.q
 c:∀k,k<e.c.length->0<=(ix e.c k).r/\(ix e.c k).r<=7/\0<=(ix e.c k).a.q/\((ix e.c k).h=-1\/0<=(ix e.c k).h/\(ix e.c k).h<n/\(ix e.c k).h≠i)
 a:∀k,k<e.a.length->(ix e.a k).length<=24/\(∀t,t<(ix e.a k).length->(ix (ix e.a k) t).length<=24)/\∀t∈ix e.a k,∀x∈t,Pv (λq=>0<=q) e.c.length x/\(x.k≠-1->yU e.a k x.k=false)
def auF{e:xU}{n i:Nat}(h:Fv e=0)(hh:∀k,k<e.c.length->¬((n:Int)<=(ix e.c k).h\/(ix e.c k).h=(i:Int))):EZ n i e:=by
 unfold Fv at h;split at h
 .cases h
 next h0=>
 split at h
 .cases h
 next h1=>
 split at h
 .omega
 next h2=>
 have h2:Ej (λi=>Tn (ix e.c i)) e.c.length=0:=bw h2;refine⟨jb,jb,abZ h1,λk hk=>?_,λk hk=>?_⟩
 .grind[iI,Tn,abZ]
 .have ha:=iI h k hk;unfold V7 at ha;split at ha
  .cases ha
  next hl=>
  have hl:=Cb.mp (by simpa using hl);refine⟨hl.1,hl.2,λt ht x hx=>?_⟩;obtain⟨j,hj,rfl⟩:=aM ht;obtain⟨p,hp,rfl⟩:=aM hx;have hT:=iI ha j hj;unfold aqz at hT;rw[eY hj]at hT;have hP:=iI hT p hp;rw[eY hp]at hP;generalize (ix e.a k)[j][p]=x at*;unfold Zj at hP;split at hP
  .cases hP
  next c1=>
  split at hP
  .cases hP
  next c2=>
  split at hP
  .cases hP
  next c3=>
  split at hP
  .cases hP
  next c4=>
  refine⟨⟨jb,λhq=>?_⟩,λhn=>by grind⟩;grind[abZ]
structure GZ(g:iJ):Prop where
 ne:g.e.length<=8
 nd:g.d.length<=16
 e:∀i,i<g.e.length->EZ g.e.length i (ix g.e i)
 l:∀d,d<g.d.length->(ix g.d d).l.length<=8/\0<=(ix g.d d).w.q/\∀k,k<(ix g.d d).l.length->∃e j:Nat,ix (ix g.d d).l k=⟨(e:Int),(j:Int)⟩/\e<g.e.length/\j<(ix g.e e).c.length/\GY (mQ g.d d k) (ix (ix g.d d).l k)=false/\holdL g.e (ix (ix g.d d).l k)=holdL g.e (ix (ix g.d d).l 0)
def Xj{g:iJ}(h:O9 g=0):GZ g:=by
 unfold O9 at h;split at h
 .cases h
 next h0=>
 split at h
 .omega
 next h1=>
 split at h
 .omega
 next h2=>
 have h1:Ej (λi=>Fv (ix g.e i)) g.e.length=0:=bw h1;have h2:Ej (λi=>Ej (Tq g i) (ix g.e i).c.length) g.e.length=0:=bw h2;refine⟨jb,jb,λi hi=>auF (iI h1 i hi) λk hk hx=>?_,λd hd=>?_⟩
 .grind[iI,Tq]
 .have hD:=iI h d hd;unfold O8 at hD;split at hD
  .cases hD
  next d0=>
  split at hD
  .cases hD
  next d1=>
  refine⟨jb,abZ d1,λk hk=>?_⟩;have hL:=iI hD k hk;unfold Zl at hL;dsimp only at hL;split at hL
  .cases hL
  next hr=>
  split at hL
  .cases hL
  next hm=>
  split at hL
  .cases hL
  next hh=>
  have hm:GY (mQ g.d d k) (ix (ix g.d d).l k)=false:=by simpa using hm
  have hh:holdL g.e (ix (ix g.d d).l k)=holdL g.e (ix (ix g.d d).l 0):=bw hh;revert hm hh;generalize hx:ix (ix g.d d).l k=x at*;obtain⟨e,j⟩:=x;dsimp only at hr;intro hm hh;refine⟨e.toNat,j.toNat,?_,jb,jb,hm,hh⟩;rw[eN jb,eN jb]
def N9{α β:Type}[Inhabited α](f:α->List β):∀l:List α,(∀k,k<l.length->(f (ix l k)).Nodup/\∀j,j<k->∀x,x∈f (ix l k)->x∉f (ix l j))->(l.flatMap f).Nodup:=by
 intro l;have key:∀k,k<=l.length->(∀k,k<l.length->(f (ix l k)).Nodup/\∀j,j<k->∀x,x∈f (ix l k)->x∉f (ix l j))->((l.take k).flatMap f).Nodup:=by
  intro k;induction k with
  |zero=>simp
  |succ k ih=>
   intro hk h
   rw[bH jb,cK,gd]
   have hs:[ix l k].flatMap f=f (ix l k):=by simp
   rw[hs]
   refine⟨ih jb h,(h k jb).1,λa ha b hb e=>?_⟩
   subst e
   obtain⟨y,hy,hay⟩:=cD.mp ha
   obtain⟨j,hj,rfl⟩:=aM hy
   grind[eY]
 grind[List.take_length]
def Xk{α β:Type}[Inhabited α][Inhabited β](f:α->β){l:List α}{i:Nat}(h:i<l.length):ix (l.map f) i=f (ix l i):=by grind[eY]
section
variable {n i:Nat} {e:xU}
theorem EZ.prt(h:EZ n i e){k:Nat}(hk:k<e.a.length):∀t∈ix e.a k,∀x∈t,x.k=-1\/0<=x.k/\x.k<e.c.length:=λt ht x hx=>(((h.a k hk).2.2 t ht x hx).1).1
def ahW{α:Type}[Inhabited α]{l:List α}{k:Nat}(h:l.length<=k):ix l k=default:=by grind[ix]
def R3.auG:(default:R3).q=0:=by rfl
def EZ.amt(h:EZ n i e)(k:Nat):0<=(ix e.c k).a.q:=by
 by_cases hk:k<e.c.length
 .exact(h.c k hk).2.2.1
 .rw[ahW jb];rfl
def KJ{cs:List C5}{k:Nat}{t:dP}:t∈ZQ cs k↔∃r,r<8/\t=En cs r k:=by grind[ZQ]
def KL(h:EZ n i e):Bc (dI e)/\InE e.c.length (dI e):=by
 have hA:∀k,k<e.a.length->wZ (λq=>0<=q) e.c.length (rM e.c (ix e.a k)).2:=λk hk=>abX ams h.amt λt ht x hx=>((h.a k hk).2.2 t ht x hx).1;refine⟨⟨λt ht p hp=>?_,λp hp t ht q hq=>?_⟩,⟨λt ht p hp=>?_,λp hp t ht q hq=>?_,?_,λi hi=>?_⟩⟩
 .obtain⟨r,-,rfl⟩:=KJ.mp ht;exact(N8 (P:=λq=>0<=q) (λi _=>h.amt i) r _ jp p hp).2
 .obtain⟨a,ha,rfl⟩:=cQ.mp hp;obtain⟨k,hk,rfl⟩:=aM ha;rw[<-eY hk]at ht;exact(hA k hk t ht q hq).2
 .obtain⟨r,-,rfl⟩:=KJ.mp ht;exact(N8 (P:=λq=>0<=q) (λi _=>h.amt i) r _ jp p hp).1
 .obtain⟨a,ha,rfl⟩:=cQ.mp hp;obtain⟨k,hk,rfl⟩:=aM ha;rw[<-eY hk]at ht;exact(hA k hk t ht q hq).1
 .show((e.a.map (rM e.c)).flatMap (·.1)).Nodup;rw[ie];refine N9 (λa=>(rM e.c a).1) e.a λk hk=>⟨ZU (h.prt hk),λj hj x hx hx2=>?_⟩
  have h1:=(xg (h.prt hk)).mp hx;have h2:=(xg (h.prt (by omega:j<e.a.length))).mp hx2;obtain⟨t,ht,hm⟩:=fR.mp h1;obtain⟨y,hy,ey⟩:=fR.mp hm;have ey:y.k=(x:Int):=by grind
  have:=((h.a k hk).2.2 t ht y hy).2 jb;rw[ey]at this;unfold yU at this;rw[List.any_eq_false]at this;refine this (ix e.a j) ?_ h2;rw[<-Tf (l:=e.a) hj];grind[lC]
 .obtain⟨p,hp,hi⟩:=cD.mp hi;obtain⟨a,ha,rfl⟩:=cQ.mp hp;obtain⟨k,hk,rfl⟩:=aM ha;rw[<-eY hk]at hi;have h1:=(xg (h.prt hk)).mp hi;have:=tq (h.prt hk) i (qB.mpr ⟨jb,h1⟩);omega
end
def aq6{g:iJ}(h:GZ g):JV g.e.length (bC g):=by
 refine⟨λi hi=>(KL (h.e i hi)).1,λi hi=>(KL (h.e i hi)).2,λi c hi hc=>?_,λl hl=>?_,?_,λd hd=>?_⟩
 .have:=((h.e i hi).c c hc).2.2.2;show(ix (ix g.e i).c c).h=-1\/0<=(ix (ix g.e i).c c).h/\(ix (ix g.e i).c c).h<(g.e.length:Int);omega
 .obtain⟨d,hd,hl⟩:=cD.mp hl;obtain⟨d',hd',rfl⟩:=cQ.mp hd;obtain⟨j,hj,rfl⟩:=aM hd';obtain⟨x,hx,rfl⟩:=cQ.mp hl;rw[<-eY hj]at hx;obtain⟨k,hk,rfl⟩:=aM hx;obtain⟨a,b,e1,h1,h2,-⟩:=(h.l j hj).2.2 k hk;rw[<-eY hk,e1];exact⟨h1,h2⟩
 .show((g.d.map λd=>(d.w.q,d.l.map zH)).flatMap (·.2)).Nodup;rw[ie];have key:∀d,d<g.d.length->∀k,k<(ix g.d d).l.length->∀y∈mQ g.d d k,(0<=y.e/\0<=y.k)->zH y≠zH (ix (ix g.d d).l k):=λd hd k hk y hy hn e=>by obtain⟨a,b,e1,h1,h2,h3,-⟩:=(h.l d hd).2.2 k hk;grind[Go.Proofs.Ins.GY,Go.Proofs.Ins.zH]
  have nn:∀d,d<g.d.length->∀y∈(ix g.d d).l,0<=y.e/\0<=y.k:=λd hd y hy=>by obtain⟨k,hk,rfl⟩:=aM hy;obtain⟨a,b,e1,-⟩:=(h.l d hd).2.2 k hk;grind[eY]
  refine N9 (λd:tX=>d.l.map zH) g.d λd hd=>⟨?_,λj hj x hx hx2=>?_⟩
  .have:(List.range (ix g.d d).l.length).Pairwise (· < ·):=List.pairwise_lt_range;rw[im,List.pairwise_map,io];intro a b ha hb hab;have:=key d hd b hb (ix (ix g.d d).l a) (List.mem_append_right _ ?_) ?_
   .grind[eY]
   .rw[<-Tf (l:=(ix g.d d).l) hab];grind[lC]
   grind[lC]
  .obtain⟨y,hy,rfl⟩:=cQ.mp hx;obtain⟨z,hz,e⟩:=cQ.mp hx2;obtain⟨k,hk,rfl⟩:=aM hy;rw[<-eY hk]at e;refine key d hd k hk z (ic _ (cD.mpr ⟨ix g.d j,?_,hz⟩)) (nn j jb z hz) e;rw[<-Tf (l:=g.d) hj];grind[lC]
 .obtain⟨d',hd',rfl⟩:=cQ.mp hd;obtain⟨j,hj,rfl⟩:=aM hd';rw[<-eY hj];exact(h.l j hj).2.1
end Go.Proofs.Ins
namespace Go.Proofs.Xe
open Go.RowKit Go.Proofs.Ins
def vQ:Rat:=((256^uK:Nat):Rat)
def uQ:Rat:=((256^900:Nat):Rat)
def Oa:0<=uQ:=by have:((0:Nat):Rat)<=((256^900:Nat):Rat):=br.mpr (bp _);exact this
def pow_two{a b c:Nat}(h:a+b=c):256^a*256^b=256^c:=by rw[<-h,dx]
def FD{k:Nat}(h:k<=256^100):(k:Rat)*uQ<=vQ:=by
 unfold uQ vQ;rw[<-eO];refine br.mpr ?_;calc k*256^900<=256^100*256^900:=bo _ h
  _=256^uK:=pow_two (show 100+900=uK from rfl)
def QH{k:Nat}(h:k<=256^100):(k:Rat)<=vQ:=by unfold vQ;exact br.mpr (aw h (bA jj jj))
abbrev Ib(A:Nat)(q:Rat):Prop:=dU A q/\0<=q/\q<=uQ
section
variable {A n:Nat} {l:gu}
def Uo{t:dP}(h:zD (Ib A) n t):aV t<=(t.length:Rat)*uQ:=by
 induction t with
 |nil=>show(0:Rat)<=_;simp
 |cons p t ih=>
  have h1:=ih λq hq=>h q (by simp[hq])
  have h2:=(h p kc).2.2.2
  rw[bN,fX]
  grind[aV]
def Nl:∀{l:gu},wZ (Ib A) n l->nH l<=(dh l:Rat)*uQ
 |[],_=>by show(0:Rat)<=((0:Nat):Rat)*uQ;simp
 |t::l,h=>by have h1:=Nl (l:=l) λu hu=>h u (by simp[hu]);have h2:=Uo (h t kc);show aV t+nH l<=((t.length+dh l:Nat):Rat)*uQ;grind
theorem Di:∀{l:gu},Pm l->0<=nH l
 |[],_=>be
 |t::l,h=>by have:=Di (l:=l) λu hu=>h u (by simp[hu]);have:=Af (h t kc);show 0<=aV t+nH l;grind
def ahX:∀{l:gu}{j:Nat},Pm l->j<l.length->aV (ix l j)<=nH l
 |t::l,0,h,_=>by have:=Di (l:=l) λu hu=>h u (by simp[hu]);show aV t<=aV t+nH l;grind
 |t::l,j+1,h,hj=>by have:=ahX (l:=l) (j:=j) (λu hu=>h u (by simp[hu])) (by simpa using hj);have:=Af (h t kc);show aV (ix l j)<=aV t+nH l;grind
theorem ZX:∀{l:gu}(k:Nat),Pm l->0<=Bd l k/\Bd l k<=nH l
 |[],k,h=>by unfold Bd;rw[List.take_nil];exact⟨be,be⟩
 |t::l,0,h=>⟨be,Di h⟩
 |t::l,k+1,h=>by obtain⟨h1,h2⟩:=ZX (l:=l) k λu hu=>h u (by simp[hu]);have:=Af (h t kc);unfold Bd at h1 h2⊢;rw[fD];show 0<=aV t+nH _/\aV t+nH _<=aV t+nH l;grind
end
structure EB(n:Nat)(e:eH):Prop where
 nb:n<=1000
 r0:0<e.rk.length
 r1:e.rk.length<=1000
 rn:dh e.rk<=1000
 ps:e.ps.length<=1000
 m:∀p∈e.ps,p.1.length<=1000/\∀i∈p.1,i<n
 p:∀p∈e.ps,0<p.2.length/\p.2.length<=1000/\dh p.2<=10000
section
variable {A B R D n:Nat} {l:gu} {m x:Rat}
theorem qU(hD:Bj D)(hB:B∣D){q:Rat}(h:dU B q)(h0:0<=q)(h1:q<=vQ):Zk D 1 q:=Zk.of hD.1 (h.dvd hB hD.1) h0 h1
theorem uP:2<=256^uK:=aw (by decide:2<=256^1) (bA jj jj)
def D9:∀{l:gu}{t:dP},t∈l->t.length<=dh l
 |u::l,t,h=>by
  unfold dh;rcases bz.mp h with rfl|h
  .omega
  .have:=D9 h;omega
def Xl(hD:Bj D)(hA:A∣D)(h:wZ (Ib A) n l)(hl:l.length<=1000)(hn:dh l<=10000):NV D n l:=by
 have hU:=FD (k:=10000) jj;have hU1:=FD (k:=1) jj;have hz:∀t∈l,∀p∈t,Zk D 1 p.2:=λt ht p hp=>by have:=(h t ht p hp).2;grind[Go.Proofs.Xe.qU]
 refine⟨jb,λt ht=>by have:=D9 ht;omega,λt ht=>?_,λt ht p hp=>(h t ht p hp).1,λt ht p hp=>(hz t ht p hp).sz hD (by grind[uP]),hz⟩;have h1:=Uo (h t ht);have h2:(t.length:Rat)<=((10000:Nat):Rat):=br.mpr (by have:=D9 ht;omega);have h3:=bj h2 Oa;refine(qU hD hA (Df λp hp=>⟨(h t ht p hp).2.1,(h t ht p hp).2.2.1⟩) (Af λp hp=>(h t ht p hp).2.2.1) kd).sz hD (by grind[uP])
def KN(hA0:0<A)(hD:Bj D)(hA:A∣D)(h:wZ (Ib A) n l)(hn:dh l<=10000)(hB:B∣D)(hm:dU B m)(h0:0<=m)(h1:m<=vQ)(hR0:0<R)(hR:R*vM A l m∣D)(hx:dU R x)(hx0:0<=x)(hx1:x<=vQ):NW D l m x:=by
 have hnn:=h.D.nn;have hR1:R∣D:=bL (aR _ _) hR;have hU:=FD (k:=10000) jj;have h2:(dh l:Rat)<=((10000:Nat):Rat):=br.mpr hn;have h3:=bj h2 Oa;have ht:=Nl h;have hu:=uP;have hzx:=qU hD hR1 hx hx0 hx1;refine⟨λk _=>?_,h0,hzx.sz hD jb,λhf=>?_,λhf p hp=>?_⟩
 .have hc:=ZX k hnn;exact((qU hD hB hm h0 h1).sub (qU hD hA (ahS h.D k) hc.1 kd)).sz hD jb
 .have hs:=zG h0 hf;have:=ahX hnn hf;exact hzx.atO (qU hD hA (Df (h.D _ (fO hf))) (dC hs) kd) hD jb jb kd
 .have hs:=zG h0 hf;have hpp:=h.D _ (fO hf) p hp;have hps:p.2<=aV (ix l (dN l m)):=by
   have:∀t:dP,(∀q∈t,0<=q.2)->p∈t->p.2<=aV t:=λt=>by
    induction t with
    |nil=>simp
    |cons q t ih=>
     intro hq hp
     show p.2<=q.2+aV t
     have h4:=hq q kc
     have h5:0<=aV t:=Af λr hr=>hq r (by simp[hr])
     grind
   exact this _ (λq hq=>(h.D _ (fO hf) q hq).2) hp
  have e:p.2*(x/aV (ix l (dN l m)))=x*(p.2/aV (ix l (dN l m))):=by grind
  have h4:=Ag hs hps;have h5:=ZH hpp.2 hs;have h6:=cW h4 hx0;refine qU hD hR (ahT hA0 h.D h0 hR0 hx hf hpp.1) ?_ ?_
  .grind[Rat.mul_nonneg]
  grind
def left_le(h0:0<=m)(h:Pm l):0<=jq l m/\jq l m<=m:=by grind[Go.Proofs.Xe.Uh,Go.Proofs.Xe.NU,Go.Proofs.Xe.ZX]
def aq7{l:gu}(h:Pm l)(c:Int):∀{m:Rat},0<=m->iy l m c<=nH l:=by
 induction l with
 |nil=>intro m _;rfl
 |cons t l ih=>
  intro m hm
  have hl:=Di (l:=l) λu hu=>h u (by simp[hu])
  have h2:=KC (h t kc) c
  have h3:=DU (h t kc) c
  unfold iy
  show _<=aV t+nH l
  split
  .next hlt=>
   have h4:=Ag (a:=m) (b:=aV t) kd (dC hlt)
   have h5:=cW h4 h3
   grind
  .have:=ih (λu hu=>h u (by simp[hu])) (m:=m-aV t) kd
   grind
def Ur{l:gu}(h:Pm l)(c:Int){x:Rat}(hx:0<=x)(h0:0<=m):jH l m x c<=x:=by
 rw[DZ];split
 .next hf=>
  have hs:=zG h0 hf;have hl:=h _ (fO hf);have e:lW (ix l (dN l m)) c*(x/aV (ix l (dN l m)))=x*(lW (ix l (dN l m)) c/aV (ix l (dN l m))):=by grind
  rw[e];have h4:=Ag hs (KC hl c);have h6:=cW h4 hx;grind
 omega
end
section
variable {A B D n:Nat} {m:Rat} {e:eH}
def qV{α:Type}{f:α->Rat}{v:Rat}(h0:0<=v):∀{l:List α}{k:Nat},(∀a∈l,f a<=v)->l.length<=k->aJ l f<=(k:Rat)*v
 |[],k,_,_=>by have:((0:Nat):Rat)<=(k:Rat):=br.mpr (bp _);exact ce this h0
 |a::l,k,h,hk=>by
  obtain⟨k,rfl⟩:∃j,k=j+1:=⟨k-1,by simp at hk;omega⟩
  have h1:=qV h0 (l:=l) (k:=k) (λb hb=>h b (by simp[hb])) (by simpa using hk);have h2:=h a kc;show f a+aJ l f<=_;rw[fX];have:((1:Nat):Rat)=1:=rfl;grind
def ahY(h:ED A uQ n e)(hb:EB n e)(h0:0<=m){p:List Nat×gu}(hp:p∈e.ps):kL e m p<=vQ:=by have ht:=Nl h.rk;have h2:(dh e.rk:Rat)<=((1000:Nat):Rat):=br.mpr hb.rn;have h3:=bj h2 Oa;have h4:=qV (f:=yG e m) (v:=((1000:Nat):Rat)*uQ) (ce (br.mpr (bp 1000)) Oa) (l:=p.1) (k:=1000) (λc _=>cH (aq7 h.rk.D.nn c h0) (cH ht h3)) (hb.m p hp).1;have h5:=FD (k:=1000*1000) jj;grind[kL]
def aq8(h:ED A uQ n e)(hb:EB n e)(h0:0<=m){p:List Nat×gu}(hp:p∈e.ps):rF e m p<=vQ:=by have h4:=qV (f:=rts e m) (v:=1) jj (l:=p.1) (k:=1000) (λc _=>Ur h.rk.D.nn c jj h0) (hb.m p hp).1;have h5:=QH (k:=1000) jj;grind[rF]
def ahZ(hD:Bj D)(hA:A∣D)(h:ED A uQ n e)(hb:EB n e):EOk D n e:=by
 have hn:=hb.nb;have hps:=hb.ps;refine⟨jb,Xl hD hA h.rk hb.r1 (by have:=hb.rn;omega),hb.r0,jb,λp hp=>⟨by have:=(hb.m p hp).1;omega,(hb.m p hp).2⟩,λp hp=>⟨Xl hD hA (h.ps p hp) (hb.p p hp).2.1 (hb.p p hp).2.2,(hb.p p hp).1⟩,?_⟩;have h1:∀l:List (List Nat×gu),(∀p∈l,dh p.2<=10000)->H6 l<=l.length*10000:=λl=>by
  induction l with
  |nil=>intro _;exact cI 0
  |cons p l ih=>
   grind[H6]
 have h2:=h1 e.ps λp hp=>(hb.p p hp).2.2;have h3:=hb.rn;grind[uK]
def ah0(hA0:0<A)(hB0:0<B)(hAB:A∣B)(hD:Bj D)(hBD:B*Bg A e m∣D)(h:ED A uQ n e)(hb:EB n e)(hm:dU B m)(h0:0<=m)(h1:m<=vQ):MOk D e m:=by
 have hB:B∣D:=bL (aR _ _) hBD;have hA:A∣D:=bL hAB hB;have hr:B*vM A e.rk m∣D:=bL (cE _ (aR _ _)) hBD;have hr0:=cf hB0 (qQ hA0 h.rk.D h0);refine⟨(qU hD hB hm h0 h1).sz hD (by grind[uP]),?_,λp hp=>?_⟩
 .have hl:=left_le h0 h.rk.D.nn;exact KN hA0 hD hA h.rk (by have:=hb.rn;omega) hB hm h0 h1 hB0 hr (ZW hA0 hB0 hAB h.rk.D hm) hl.1 (cH hl.2 h1)
 .have hg:=nI h.nn h0 p;have hgD:=Xh hA0 hB0 hAB h hm h0 p;have hgl:=ahY h hb h0 hp;have hl:=left_le hg (h.ps p hp).D.nn;have hd:B*vM A e.rk m*vM A p.2 (kL e m p)∣D:=by refine bL ?_ hBD;rw[fv];exact cE _ (cE _ (Dh A e m hp))
  exact⟨KN hA0 hD hA (h.ps p hp) (hb.p p hp).2.2 hr hgD hg hgl hr0 hd (ZW hA0 hr0 (bL hAB (aR _ _)) (h.ps p hp).D hgD) hl.1 (cH hl.2 hgl),(qU hD hr hgD hg hgl).sz hD (by grind[uP])⟩
def ah1(hA0:0<A)(hB0:0<B)(hAB:A∣B)(hD:Bj D)(hBD:B*Bg A e m∣D)(h:ED A uQ n e)(hb:EB n e)(hm:dU B m)(h0:0<=m)(h1:m<=vQ):ROk D e m:=by
 have hB:B∣D:=bL (aR _ _) hBD;have hA:A∣D:=bL hAB hB;have hr:B*vM A e.rk m∣D:=bL (cE _ (aR _ _)) hBD;have hr0:=qQ hA0 h.rk.D h0;have hr1:vM A e.rk m∣D:=bL (gp _ _) hr;have h1v:=QH (k:=1) jj;refine⟨?_,λp hp=>?_⟩
 .exact KN (R:=1) hA0 hD hA h.rk (by have:=hb.rn;omega) hB hm h0 h1 jj kd ⟨1,by grind⟩ jj h1v
 .have hg:=nI h.nn h0 p;have hgD:=Xh hA0 hB0 hAB h hm h0 p;have hgl:=ahY h hb h0 hp;have hR:=I9 h.nn h0 p;have hRD:=abY hA0 h h0 p;have hRl:=aq8 h hb h0 hp;have hd:vM A e.rk m*vM A p.2 (kL e m p)∣D:=by refine bL ?_ (bL (gp _ _) hBD);exact cE _ (Dh A e m hp)
  exact⟨KN hA0 hD hA (h.ps p hp) (hb.p p hp).2.2 hr hgD hg hgl hr0 hd hRD hR hRl,(qU hD hr1 hRD hR hRl).sz hD (by grind[uP])⟩
end
section
variable {E:Env} [Zp E] {p:Nat→Prop} {σ:St} {K:V→St→Prop}
def Xm{v:B}{a:gB}(ha:dV p σ.h v a)(h1:a.length<=1000000)(h2:a.flatten.length<=1000000){v':V}{σ':St}(hm:ag4 a.flatten σ=some (v',σ')):aC E 133 [.c v] σ K=K v' σ':=
 Qr (by have h:=(alL ha h1 h2).trans hm;unfold Wu;rw[abl rfl];unfold alN ag7;simp only[Nat.reduceEqDiff,reduceIte,h])
def QI{v:B}{a:gB}(ha:dV p σ.h v a)(h1:a.length<=1000000)(h2:a.flatten.length<=1000000){v':V}{σ':St}(hm:ag3 (vH a) σ=some (v',σ')):aC E 91 [.agg [v]] σ K=K v' σ':=
 Qr (by have h:=(alK ha h1 h2).trans hm;unfold Wu;rw[abl rfl];unfold alN ag7;simp only[Nat.reduceEqDiff,reduceIte,h])
end
def QJ{E:Env}[Zp E]{σ:St}(hW:WF σ){p:Nat->Prop}{v:B}{a:gB}(ha:dV p σ.h v a)(h1:a.length<=1000000)(h2:a.flatten.length<=1000000):
  aC E 91 [.agg [v]] σ λr σ'=>(∃u,r=.c u/\zi σ'.h u (vH a).length (λi=>[.int .i64 (ix (vH a) i)]) 1 3 σ.aj σ'.aj)/\Fr σ σ':=by
 by_cases h0:(vH a).length=0
 .rw[QI ha h1 h2 (v':=.c .aW) (σ':=σ) (ab h0)]
  exact⟨⟨_,rfl,.inl ⟨h0,rfl⟩⟩,Fr.refl hW⟩
 .rw[QI ha h1 h2 (ae h0)]
  exact⟨⟨_,rfl,.inr ⟨jb,_,rfl,aA _ _ _,jp,bY _⟩⟩,fr⟩
def amu{a:gB}{n:Nat}(ha:∀t∈a,∀x∈t,x.k=-1\/0<=x.k/\x.k<n){i:Nat}(hi:i<(vH a).length):B.int .i64 (ix (vH a) i)=Pn (lT a) i:=by unfold Pn lT;rw[Xk Int.toNat hi];have:=tq ha _ (lC hi);grind
def Ob(a:gB):(lT a).length=(vH a).length:=cP _
structure TS(σ:St)(tb bs:Nat)(t:dP):Prop where
 b:σ.h tb=some ⟨jI (aU t.length bs) (aV t),none⟩
 o:N7 σ.h bs t
 lo:tb<bs
 hi:t.length=0\/bs<σ.aj
def TS.lt{σ:St}(hW:WF σ){tb bs:Nat}{t:dP}(h:TS σ tb bs t):tb<σ.aj:=hW.lt h.b
def TS.on{σ σ':St}{tb bs:Nat}{t:dP}(h:TS σ tb bs t)(h1:∀b,tb<=b->b<σ.aj->σ'.h b=σ.h b)(hW:WF σ)(hle:σ.aj<=σ'.aj):TS σ' tb bs t:=by have h0:=h.lt hW;have hlo:=h.lo;have hhi:=h.hi;refine⟨by rw[h1 tb jp h0];exact h.b,?_,hlo,jb⟩;refine(vG ?_).trans h.o;grind
theorem TS.fr{σ σ':St}{tb bs:Nat}{t:dP}(h:TS σ tb bs t)(hW:WF σ)(hf:Fr σ σ'):TS σ' tb bs t:=h.on (λb _ hb=>hf.old b hb) hW hf.le
def TS.fre{σ σ':St}{ex:List Nat}{tb bs:Nat}{t:dP}(h:TS σ tb bs t)(hW:WF σ)(hf:aT ex σ σ')(hx:∀b∈ex,b<tb):TS σ' tb bs t:=h.on (λb h1 h2=>hf.old b h2 λhm=>by grind) hW hf.le
def ZY{σ:St}(hW:WF σ){tb bs:Nat}{t:dP}(hT:TS σ tb bs t)(hl:t.length<=1000000)(k:Int)(q:Rat)(hs:Sz (aV t))(hq:Sz q):
  aC EN 93 [.c (.ptr tb 0),.c (.int .i64 k),.agg [.bool (rn q),.str (rs q),.str (rd q)]] σ λ_ σ'=>(∃bs',TS σ' tb bs' (t++[(k,q)]))/\(∀b,b<tb->σ'.h b=σ.h b)/\WF σ'/\σ.aj<=σ'.aj:=by
 have h0:=hT.lo
 have hlt:=hT.lt hW
 have:=ahN (G:=λ_=>jI (aU t.length bs) (aV t)) (n:=1) (r:=0) hW (by rw[hT.b];rfl) jj (λ_=>rfl) rfl rfl rfl hT.o (.inr jb) hT.hi hl k q hs hq
 refine this.mono ?_
 rintro _ σ' ⟨nx,h1,h2,h3,h4,h5⟩
 have hle:=h5.le
 refine⟨⟨nx,?_,?_,jb,.inr h2⟩,λb hb=>h5.old b jb kd,h5.wf,hle⟩
 .rw[h3,QF,aD];rfl
 .unfold N7
  rw[aD,bR]
  show σ'.h nx=some _
  grind[Go.Proofs.Xe.lV,Go.Proofs.Xe.bP,Go.Proofs.Xe.iZ,Go.Proofs.Xe.gJ,Go.Proofs.Xe.gI]
def amv(U:Nat->B)(Lf:Nat->dP)(p:Nat->Prop)(h:Tr Bk)(i:Nat):Prop:=aZ p h 4 (U i) (Lf i).length λc=>y8 (ix (Lf i) c)
def Xn(U:Nat->B)(Lf:Nat->dP)(i:Nat):List B:=jI (U i) (aV (Lf i))
abbrev Z4(U:Nat->B)(Lf:Nat->dP)(h:Tr Bk)(b n lo hi:Nat):Prop:=NF (amv U Lf) h b n (Xn U Lf) 4 157 lo hi
def Us(U:Nat->B)(Lf:Nat->dP)(j:Nat):QK (amv U Lf) j:=λ_ _ _ _ hp hk hq=>aZ.keep hp hk hq
def Ut(U:Nat->B)(Lf:Nat->dP):LG (Xn U Lf) 4:=λ_=>rfl
section
variable {U:Nat→B} {Lf:Nat→dP} {h h' : Tr Bk} {b n lo hi:Nat}
def Z4.push(ho:Z4 U Lf h b n lo hi){σ1:St}(hW:WF σ1){tb bs nx n':Nat}{t:dP}(hL:Lf n=t)(hT:TS σ1 tb bs t)(ht:hi<=tb)(h5:lo<=hi)(hh:∀b,lo<=b->b<hi->σ1.h b=h b)(h3:σ1.aj<=nx)(h4:nx<n')
  (hb:h' nx=some ⟨bD n (Xn U Lf)++jI (aU t.length bs) (aV t),some (4,157)⟩) (hk:∀c,lo<=c->c<σ1.aj->n=0\/c≠b->h' c=σ1.h c):Z4 (aK U n (aU t.length bs)) Lf h' nx (n+1) lo n':=by
 have hlt:=hT.lt hW
 have hlo:=hT.lo
 have hx:aZ (λb=>hi<=b/\b<σ1.aj) σ1.h 4 (aU t.length bs) t.length λj=>y8 (ix t j):=hT.o.hlp (by rcases hT.hi with h0|h0;exact .inl h0;omega)
 refine NF.push ho (λj _=>Us _ Lf j) (λj hj p h hq=>?_) (hi1:=σ1.aj) (h1:=σ1.h) ?_ hh jb h3 h4 h5 hb ?_ hk (λi hi=>?_) (Ut _ _)
 .grind[amv,aP]
 .grind[amv,aN]
 .grind[Xn,aN]
 grind[Xn,aP]
def Z4.aq9(ho:Z4 U Lf h b n lo hi){l:gu}(hl:l.length=n)(hL:∀i,i<n->Lf i=ix l i):yg (λb=>lo<=b/\b<hi) h (aU n b) l:=by
 have hel:=λi (hi:i<n)=>ho.el (λj _=>Us U Lf j) hi;refine⟨U,?_,by cases n<;>trivial,λi hi=>?_⟩
 .rw[hl];refine(ho.hlp jj (λi hi=>?_) λb h1 h2=>⟨h1,h2⟩).congr λi hi=>by grind[Xn]
  unfold Xn jI;simp only[cL,eg,Aa,Fp,(hel i hi).kn,du]
 .rw[hl]at hi;rw[<-hL i hi];exact hel i hi
end
def lsS(cs:List C5)(a:gB)(j:Nat):(Nat->Rat)×gu:=(a.take j).foldl ltS ((λi:Nat=>(ix cs i).a.q),[])
def Am(f:Nat->Rat)(t:JQ)(l:Nat):(Nat->Rat)×dP:=(t.take l).foldl lpS (f,[])
theorem Oc{cs:List C5}{a:gB}{j:Nat}(h:j<a.length):lsS cs a (j+1)=ltS (lsS cs a j) (ix a j):=by grind[lsS,bH]
def Ic(cs:List C5)(a:gB):lsS cs a a.length=lsA cs a:=by grind[lsS,lsA]
def Ap(cs:List C5)(a:gB):∀j,j<=a.length->(lsS cs a j).2.length=j
 |0,_=>rfl
 |j+1,h=>by rw[Oc jb];unfold ltS;rw[aD,Ap cs a j jb];rfl
def Z5{α:Type}[Inhabited α]{l:List α}{x:α}{n:Nat}(h:l.length=n):ix (l++[x]) n=x:=by grind[gJ]
def qW(m k:Nat)(F:Nat->Rat):bZ m (aK (λi=>if i<k then F i else 0) k (F k))=bZ m λi=>if i<k+1 then F i else 0:=dO λi _=>by grind[aK]
def yj(m:Nat)(F:Nat->Rat):bZ m (λi=>if i<m then F i else 0)=bZ m F:=dO λi hi=>ab hi
def xq(m:Nat)(F:Nat->Rat):bZ m (λ_=>0)=bZ m λi=>if i<0 then F i else 0:=dO λi _=>rfl
def ah2{s:(Nat->Rat)×dP}{x:yQ}{kk:Nat}(h1:¬x.k=-1)(hk:x.k=Int.ofNat kk):lpS s x=(aK s.1 kk (s.1 kk-if x.b=true then jV (s.1 kk) x.a.q else s.1 kk),s.2++[(Int.ofNat kk,if x.b=true then jV (s.1 kk) x.a.q else s.1 kk)]):=by unfold lpS;rw[ae h1,hk];refine Prod.ext ?_ rfl;grind[aK]
def Uu{cs:List C5}{a:gB}{i:Nat}:∀{j},i<j->j<=a.length->ix (lsS cs a j).2 i=(Am (lsS cs a i).1 (ix a i) (ix a i).length).2
 |j+1,hi,hj=>by
  rw[Oc jb];unfold ltS;by_cases e:i=j
  .subst e;have:=Ap cs a i jb;exact(Z5 this).trans (by unfold Am;rw[cg])
  .show ix ((lsS cs a j).2++[_]) i=_;rw[gI _ _ (by rw[Ap cs a j jb];omega)];exact Uu jb jb
def Xo{f:Nat->Rat}{t:JQ}{l:Nat}(h:l<t.length):Am f t (l+1)=lpS (Am f t l) (ix t l):=by grind[Am,bH]
def KO(f:Nat->Rat)(t:JQ):∀l,l<=t.length->(Am f t l).2.length=l
 |0,_=>rfl
 |l+1,h=>by rw[Xo jb];unfold lpS;split<;>simp[KO f t l jb]
def ah3{cs:List C5}{a:gB}{j:Nat}(h:j<a.length):(lsS cs a (j+1)).1=(Am (lsS cs a j).1 (ix a j) (ix a j).length).1:=by grind[Oc,ltS,Am]
def aej(ms:List Nat)(f:Nat->Rat){i:Nat}(h:i<ms.length):yK (ms.take (i+1)) f=yK (ms.take i) f++[(((ix ms i:Nat):Int),f (ix ms i))]:=by grind[yK,bH]
def ah4:∀{l:List Int}{lo hi:Int},l.Pairwise (· < ·)->(∀x∈l,lo<=x/\x<hi)->l.length<=(hi-lo).toNat
 |[],_,_,_,_=>bp _
 |a::l,lo,hi,hp,h=>by
  rw[List.pairwise_cons]at hp;have h1:=h a kc;have:=ah4 (lo:=a+1) (hi:=hi) hp.2 λx hx=>by grind
  grind
def FH{a:gB}{n:Nat}(ha:∀t∈a,∀x∈t,x.k=-1\/0<=x.k/\x.k<n):(lT a).length<=n:=by have:=ah4 (abg a) (tq ha);rw[Ob];omega
theorem KP(cs:List C5)(r:Nat):∀k,(En cs r k).length<=k
 |0=>cI 0
 |k+1=>by have:=KP cs r k;unfold En;rw[aD];split<;>simp<;>omega
section
variable {A n:Nat}
def ara(hA:0<A):Pq (Ib A) where
 min:=λa b ha hb=>by grind[jV]
 sub:=λa b ha hb=>by
  have h1:=ha.2;have h2:=hb.2;unfold jV;split
  .grind[dU.zero]
  .exact⟨ha.1.sub hb.1,by grind,by grind⟩
 zero:=⟨dU.zero A,be,Oa⟩
def Oe(hA:Bj A){q:Rat}(h:Ib A q):Sz q:=by have hU:=FD (k:=1) jj;have:((1:Nat):Rat)=1:=rfl;exact(qU hA (hJ A) h.1 h.2.1 kd).sz hA (by grind[uP])
def Uw(hA:Bj A){t:dP}(h:zD (Ib A) n t)(hl:t.length<=10000):Sz (aV t):=by have hU:=FD (k:=10000) jj;have h1:=Uo h;have h2:(t.length:Rat)<=((10000:Nat):Rat):=br.mpr hl;have h3:=bj h2 Oa;exact(qU hA (hJ A) (Df λp hp=>⟨(h p hp).2.1,(h p hp).2.2.1⟩) (Af λp hp=>(h p hp).2.2.1) kd).sz hA (by grind[uP])
def arb{P:Rat->Prop}(hP:Pq P){f:Nat->Rat}(hf:∀i,P (f i)){t:JQ}(ht:∀x∈t,Pv P n x)(l:Nat):(∀i,P ((Am f t l).1 i))/\zD P n (Am f t l).2:=
 ZR hP (t.take l) hf (λ_ h=>by cases h) λx hx=>ht x (dT hx)
def ard{P:Rat->Prop}(hP:Pq P){cs:List C5}(hc:∀i,P (ix cs i).a.q){a:gB}(ha:∀t∈a,∀x∈t,Pv P n x)(j:Nat)(i:Nat):P ((lsS cs a j).1 i):=
 (ZT hP (a.take j) hc (λ_ h=>by cases h) λt ht=>ha t (dT ht)).1 i
end
def arf(p q:Rat):IV p q=jV p q:=by
 unfold IV jV;by_cases h:p<=q
 .rw[ab h,ab (pX.mpr h)]
 .rw[ae h,ae λe=>h (pX.mp e)]
structure ah5(A:Nat)(cs:List C5)(a:gB):Prop where
 nc:cs.length<=1000
 na:a.length<=1000
 nt:∀t,t<a.length->(ix a t).length<=1000
 nf:a.flatten.length<=1000000
 fc:∀i,i<cs.length->(ix cs i).a.fits 1000000
 fp:∀t,t<a.length->∀l,l<(ix a t).length->(ix (ix a t) l).a.fits 1000000
 c:∀i,Ib A (ix cs i).a.q
 p:∀t∈a,∀x∈t,Pv (Ib A) cs.length x
end Go.Proofs.Xe
