import Derived.Test.YthkggcakedkboaaGreatDoorZ21
set_option linter.all false
namespace Go.Proofs.Xe
open Go.RowKit Go.Proofs.Ins
def dS(D:Nat)(q:Rat):Prop:=∃a:Int,q=(a:Rat)/(D:Rat)
theorem iF{D:Nat}(h:0<D):(D:Rat)≠0:=λe=>by simp_all
section
variable {A B D:Nat} {p q x s:Rat}
theorem dS.zero(D:Nat):dS D 0:=⟨0,by grind⟩
theorem dS.add(h:dS D p)(h':dS D q):dS D (p+q):=by obtain⟨a,rfl⟩:=h;obtain⟨b,rfl⟩:=h';exact⟨a+b,by grind⟩
def dS.neg(h:dS D p):dS D (-p):=by obtain⟨a,rfl⟩:=h;exact⟨-a,by grind⟩
def dS.sub(h:dS D p)(h':dS D q):dS D (p-q):=by rw[iS];exact h.add h'.neg
def dS.up(h:dS A p){k:Nat}(hk:0<k):dS (A*k) p:=by
 obtain⟨a,rfl⟩:=h;refine⟨a*k,?_⟩;have h1:=iF hk;have e2:((a*(k:Int):Int):Rat)=(a:Rat)*(k:Rat):=by rw[da];rfl
 grind
def dS.dvd(h:dS A p)(hd:A∣B)(hB:0<B):dS B p:=by obtain⟨k,rfl⟩:=hd;exact h.up (fm λe=>by grind)
theorem dS.sum{α:Type}{f:α->Rat}:∀{l:List α},(∀a∈l,dS D (f a))->dS D (aI l f)
 |[],_=>dS.zero D
 |a::l,h=>(h a kc).add (dS.sum λb hb=>h b (by simp[hb]))
def nuA(A:Nat)(s:Rat):Nat:=(s*A).num.natAbs
def Uu(hA:0<A)(hs:dS A s)(h0:0<s):s=(nuA A s:Rat)/(A:Rat)/\0<nuA A s:=by
 obtain⟨u,rfl⟩:=hs;have hA:=iF hA;have e:(u:Rat)/(A:Rat)*(A:Rat)=(u:Rat):=by grind
 unfold nuA;rw[e,Rat.num_intCast];have hu:0<u:=by
  have h1:(0:Rat)<=(A:Rat):=by grind
  have h2:=Rat.mul_pos h0 (show(0:Rat)<(A:Rat) by grind);rw[e]at h2;exact Rat.intCast_pos.mp h2
 have e2:((u.natAbs:Nat):Rat)=(u:Rat):=by
  have:((u.natAbs:Int):Rat)=(u:Rat):=by grind
  exact this
 grind
def dS.share(hA:0<A)(hB:0<B)(hp:dS A p)(hx:dS B x)(hs:dS A s)(h0:0<s):dS (B*nuA A s) (p*(x/s)):=by obtain⟨e,hn⟩:=Uu hA hs h0;obtain⟨c,rfl⟩:=hp;obtain⟨z,rfl⟩:=hx;generalize nuA A s=n at*;refine⟨c*z,?_⟩;grind
def Zk.of(hD:0<D)(h:dS D q)(h1:0<=q)(h2:q<=((256^uK:Nat):Rat)):Zk D 1 q:=by
 obtain⟨a,rfl⟩:=h;refine⟨a,rfl,?_⟩;have hD':=iF hD;have h3:(0:Rat)<(D:Rat):=by grind
 have e:(a:Rat)/(D:Rat)*(D:Rat)=(a:Rat):=by grind
 have h4:=bj h2 (eg h3);have h5:=cj h1 (eg h3);rw[e]at h4 h5;rw[<-fe]at h4;have h4:((a:Int):Rat)<=(((256^uK*D:Nat):Int):Rat):=h4;have h4:=gc.mp h4;have h5:=Rat.intCast_nonneg.mp h5;grind
end
def vY(A:Nat)(l:gI)(m:Rat):Nat:=if dN l m<l.length then nuA A (aW (ix l (dN l m)))else 1
def JZ(A:Nat)(l:gI):Prop:=∀t∈l,∀p∈t,dS A p.2/\0<=p.2
section
variable {A B:Nat} {l:gI} {m:Rat}
def Dh{t:dO}(h:∀p∈t,dS A p.2/\0<=p.2):dS A (aW t):=by
 induction t with
 |nil=>exact dS.zero A
 |cons p t ih=>exact(h p kc).1.add (ih λq hq=>h q (by simp[hq]))
def Z5{t:dO}(h:∀p∈t,dS A p.2/\0<=p.2)(c:Int):dS A (l7 t c):=by
 induction t with
 |nil=>exact dS.zero A
 |cons p t ih=>
  refine dS.add ?_ (ih λq hq=>h q (by simp[hq]))
  grind[dS.zero]
def JZ.nn(h:JZ A l):Po l:=λt ht p hp=>(h t ht p hp).2
def ahU(h:JZ A l)(k:Nat):dS A (Bl l k):=by
 unfold Bl;have:∀l:gI,JZ A l->dS A (nK l):=λl=>by
  induction l with
  |nil=>intro _;exact dS.zero A
  |cons t l ih=>intro h;exact(Dh (h t kc)).add (ih λu hu=>h u (by simp[hu]))
 exact this _ λt ht=>h t (eh ht)
def aq7(h:JZ A l)(c:Int):dS A (H6 l c):=by
 induction l with
 |nil=>exact dS.zero A
 |cons t l ih=>exact(Z5 (h t kc) c).add (ih λu hu=>h u (by simp[hu]))
def zN(hm:0<=m)(hf:dN l m<l.length):0<aW (ix l (dN l m)):=by have:=Un l m hm;grind
def qX(hA:0<A)(h:JZ A l)(hm:0<=m):0<vY A l m:=by
 unfold vY;split
 .next hf=>exact(Uu hA (Dh (h _ (fO hf))) (zN hm hf)).2
 .omega
def Z7(hA:0<A)(hB:0<B)(hd:A∣B)(h:JZ A l)(hm:dS B m):dS B (jB l m):=by rw[NT];exact hm.sub ((ahU h _).dvd hd hB)
def ahV(hA:0<A)(h:JZ A l)(h0:0<=m){R:Nat}(hR:0<R){x:Rat}(hx:dS R x)(hf:dN l m<l.length){q:Rat}(hq:dS A q):dS (R*vY A l m) (q*(x/aW (ix l (dN l m)))):=by unfold vY;rw[ab hf];exact dS.share hA hR hq hx (Dh (h _ (fO hf))) (zN h0 hf)
def aoe(hA:0<A)(hB:0<B)(hd:A∣B)(h:JZ A l)(hm:dS B m)(h0:0<=m)(c:Int):dS (B*vY A l m) (iE l m c):=by
 have hc:=qX hA h h0;rw[Jc];refine dS.add ((aq7 (λt ht=>h t (eh ht)) c).dvd (bO hd (aR _ _)) (cw hB hc)) ?_;split
 .next hf=>exact ahV hA h h0 hB (Z7 hA hB hd h hm) hf (Z5 (h _ (fO hf)) c)
 .exact dS.zero _
def aof(hA:0<A)(h:JZ A l)(h0:0<=m){R:Nat}(hR:0<R){x:Rat}(hx:dS R x)(c:Int):dS (R*vY A l m) (jM l m x c):=by
 rw[D9];split
 .next hf=>exact ahV hA h h0 hR hx hf (Z5 (h _ (fO hf)) c)
 .exact dS.zero _
end
def aej(A:Nat)(e:eH)(x:Rat):List (List Nat×gI)->Nat
 |[]=>1
 |p::l=>vY A p.2 (kU e x p)*aej A e x l
def Bo(A:Nat)(e:eH)(x:Rat):Nat:=vY A e.rk x*aej A e x e.ps
structure ED(A:Nat)(U:Rat)(n:Nat)(e:eH):Prop where
 rk:xE (λq=>dS A q/\0<=q/\q<=U) n e.rk
 ps:∀p∈e.ps,xE (λq=>dS A q/\0<=q/\q<=U) n p.2
section
variable {A B n:Nat} {U m:Rat} {e:eH}
def _root_.Go.Proofs.Ins.xE.D{l:gI}(h:xE (λq=>dS A q/\0<=q/\q<=U) n l):JZ A l:=λt ht p hp=>⟨(h t ht p hp).2.1,(h t ht p hp).2.2.1⟩
def ED.nn(h:ED A U n e):Bj e:=⟨h.rk.D.nn,λp hp=>(h.ps p hp).D.nn⟩
def aog(hA:0<A)(hB:0<B)(hd:A∣B)(h:ED A U n e)(hm:dS B m)(h0:0<=m)(c:Nat):dS (B*vY A e.rk m) (yU e m c):=aoe hA hB hd h.rk.D hm h0 _
def aoh(hA:0<A)(h:ED A U n e)(h0:0<=m)(c:Nat):dS (vY A e.rk m) (rts e m c):=by have:=aof (R:=1) hA h.rk.D h0 jj (x:=1) ⟨1,by grind⟩ c;rwa[Nat.one_mul]at this
def Xq(hA:0<A)(hB:0<B)(hd:A∣B)(h:ED A U n e)(hm:dS B m)(h0:0<=m)(p:List Nat×gI):dS (B*vY A e.rk m) (kU e m p):=dS.sum λc _=>aog hA hB hd h hm h0 c
def ab3(hA:0<A)(h:ED A U n e)(h0:0<=m)(p:List Nat×gI):dS (vY A e.rk m) (rO e m p):=dS.sum λc _=>aoh hA h h0 c
def Di(A:Nat)(e:eH)(x:Rat):∀{l:List (List Nat×gI)}{p:List Nat×gI},p∈l->vY A p.2 (kU e x p)∣aej A e x l
 |q::l,p,h=>by
  rcases bA.mp h with rfl|h
  .exact aR _ _
  .exact bO (Di A e x h) (gL _ _)
def Xr(hA:0<A)(h:ED A U n e)(h0:0<=m):∀{l:List (List Nat×gI)},(∀p∈l,p∈e.ps)->0<aej A e m l
 |[],_=>Nat.zero_lt_one
 |p::l,hl=>cw (qX hA (h.ps p (hl p kc)).D (nM h.nn h0 p)) (Xr hA h h0 λq hq=>hl q (by simp[hq]))
def Ic(hA:0<A)(h:ED A U n e)(h0:0<=m):0<Bo A e m:=cw (qX hA h.rk.D h0) (Xr hA h h0 λ_ h=>h)
def ahW(hA:0<A)(hB:0<B)(hd:A∣B)(h:ED A U n e)(hm:dS B m)(h0:0<=m)(c:Nat):dS (B*Bo A e m) (sU e m c):=by
 have hp:=cw hB (Ic hA h h0);have hp1:=cw hB (qX hA h.rk.D h0);unfold sU;refine dS.add ?_ (dS.sum λp hp'=>?_)
 .split
  .exact dS.zero _
  .exact(aog hA hB hd h hm h0 c).dvd (cH _ (aR _ _)) hp
 .refine(aoe hA hp1 (bO hd (aR _ _)) (h.ps p hp').D (Xq hA hB hd h hm h0 p) (nM h.nn h0 p) c).dvd ?_ hp;rw[fX];exact cH _ (cH _ (Di A e m hp'))
def ahX(hA:0<A)(h:ED A U n e)(h0:0<=m)(c:Nat):dS (Bo A e m) (xC e m c):=by
 have hp:=Ic hA h h0;unfold xC;refine dS.add ?_ (dS.sum λp hp'=>?_)
 .split
  .exact dS.zero _
  .exact(aoh hA h h0 c).dvd (aR _ _) hp
 .exact(aof hA (h.ps p hp').D (nM h.nn h0 p) (qX hA h.rk.D h0) (ab3 hA h h0 p) c).dvd (cH _ (Di A e m hp')) hp
end
end Go.Proofs.Xe
namespace Go.Proofs.Ins
def yV(l:Lg):fA:=(l.e.toNat,l.k.toNat)
def bD(g:gZ):GL:=⟨λi=>dJ (ix g.e i),λi=>(ix g.e i).c.length,λi c=>(ix (ix g.e i).c c).h,g.d.map λd=>(d.w.q,d.l.map yV)⟩
theorem ab4{q:Rat}(h:¬sg q<0):0<=q:=by grind[sg]
def amm:Pv (λq=>0<=q) where
 min:=λa b ha hb=>by grind[jO]
 sub:=λa b ha hb=>by grind[jO]
 zero:=be
structure EZ(n:Nat)(i:Nat)(e:Bg):Prop where
 nc:e.c.length<=24
 na:e.a.length<=12
 m:0<=e.m.q
 c:∀k,k<e.c.length->0<=(ix e.c k).r/\(ix e.c k).r<=7/\0<=(ix e.c k).a.q/\((ix e.c k).h=-1\/0<=(ix e.c k).h/\(ix e.c k).h<n/\(ix e.c k).h≠i)
 a:∀k,k<e.a.length->(ix e.a k).length<=24/\(∀t,t<(ix e.a k).length->(ix (ix e.a k) t).length<=24)/\∀t∈ix e.a k,∀x∈t,Px (λq=>0<=q) e.c.length x/\(x.k≠-1->y8 e.a k x.k=false)
def auI{e:Bg}{n i:Nat}(h:JW e=0)(hh:∀k,k<e.c.length->¬((n:Int)<=(ix e.c k).h\/(ix e.c k).h=(i:Int))):EZ n i e:=by
 unfold JW at h;split at h
 .cases h
 next h0=>
 split at h
 .cases h
 next h1=>
 split at h
 .omega
 next h2=>
 have h2:FY (λi=>TA (ix e.c i)) e.c.length=0:=bz h2;refine⟨jb,jb,ab4 h1,λk hk=>?_,λk hk=>?_⟩
 .grind[iK,TA,ab4]
 .have ha:=iK h k hk;unfold Wv at ha;split at ha
  .cases ha
  next hl=>
  have hl:=Ci.mp (by simpa using hl);refine⟨hl.1,hl.2,λt ht x hx=>?_⟩;obtain⟨j,hj,rfl⟩:=aM ht;obtain⟨p,hp,rfl⟩:=aM hx;have hT:=iK ha j hj;unfold aqA at hT;rw[dY hj]at hT;have hP:=iK hT p hp;rw[dY hp]at hP;generalize (ix e.a k)[j][p]=x at*;unfold Zr at hP;split at hP
  .cases hP
  next c1=>
  split at hP
  .cases hP
  next c2=>
  split at hP
  .cases hP
  next c3=>
  split at hP
  .cases hP
  next c4=>
  refine⟨⟨jb,λhq=>?_⟩,λhn=>by grind⟩;grind[ab4]
structure GZ(g:gZ):Prop where
 ne:g.e.length<=8
 nd:g.d.length<=16
 e:∀i,i<g.e.length->EZ g.e.length i (ix g.e i)
 l:∀d,d<g.d.length->(ix g.d d).l.length<=8/\0<=(ix g.d d).w.q/\∀k,k<(ix g.d d).l.length->∃e j:Nat,ix (ix g.d d).l k=⟨(e:Int),(j:Int)⟩/\e<g.e.length/\j<(ix g.e e).c.length/\G7 (mX g.d d k) (ix (ix g.d d).l k)=false/\holdL g.e (ix (ix g.d d).l k)=holdL g.e (ix (ix g.d d).l 0)
def QJ{g:gZ}(h:Pj g=0):GZ g:=by
 unfold Pj at h;split at h
 .cases h
 next h0=>
 split at h
 .omega
 next h1=>
 split at h
 .omega
 next h2=>
 have h1:FY (λi=>JW (ix g.e i)) g.e.length=0:=bz h1;have h2:FY (λi=>FY (Wx g i) (ix g.e i).c.length) g.e.length=0:=bz h2;refine⟨jb,jb,λi hi=>auI (iK h1 i hi) λk hk hx=>?_,λd hd=>?_⟩
 .grind[iK,Wx]
 .have hD:=iK h d hd;unfold TB at hD;split at hD
  .cases hD
  next d0=>
  split at hD
  .cases hD
  next d1=>
  refine⟨jb,ab4 d1,λk hk=>?_⟩;have hL:=iK hD k hk;unfold adP at hL;dsimp only at hL;split at hL
  .cases hL
  next hr=>
  split at hL
  .cases hL
  next hm=>
  split at hL
  .cases hL
  next hh=>
  have hm:G7 (mX g.d d k) (ix (ix g.d d).l k)=false:=by simpa using hm
  have hh:holdL g.e (ix (ix g.d d).l k)=holdL g.e (ix (ix g.d d).l 0):=bz hh;revert hm hh;generalize hx:ix (ix g.d d).l k=x at*;obtain⟨e,j⟩:=x;dsimp only at hr;intro hm hh;refine⟨e.toNat,j.toNat,?_,jb,jb,hm,hh⟩;rw[fu jb,fu jb]
def Ob{α β:Type}[Inhabited α](f:α->List β):∀l:List α,(∀k,k<l.length->(f (ix l k)).Nodup/\∀j,j<k->∀x,x∈f (ix l k)->x∉f (ix l j))->(l.flatMap f).Nodup:=by
 intro l;have key:∀k,k<=l.length->(∀k,k<l.length->(f (ix l k)).Nodup/\∀j,j<k->∀x,x∈f (ix l k)->x∉f (ix l j))->((l.take k).flatMap f).Nodup:=by
  intro k;induction k with
  |zero=>simp
  |succ k ih=>
   intro hk h
   rw[bJ jb,cM,gw]
   have hs:[ix l k].flatMap f=f (ix l k):=by simp
   rw[hs]
   refine⟨ih jb h,(h k jb).1,λa ha b hb e=>?_⟩
   subst e
   obtain⟨y,hy,hay⟩:=cE.mp ha
   obtain⟨j,hj,rfl⟩:=aM hy
   grind[dY]
 grind[List.take_length]
def Xt{α β:Type}[Inhabited α][Inhabited β](f:α->β){l:List α}{i:Nat}(h:i<l.length):ix (l.map f) i=f (ix l i):=by grind[dY]
section
variable {n i:Nat} {e:Bg}
theorem EZ.prt(h:EZ n i e){k:Nat}(hk:k<e.a.length):∀t∈ix e.a k,∀x∈t,x.k=-1\/0<=x.k/\x.k<e.c.length:=λt ht x hx=>(((h.a k hk).2.2 t ht x hx).1).1
def ahY{α:Type}[Inhabited α]{l:List α}{k:Nat}(h:l.length<=k):ix l k=default:=by grind[ix]
def R3.auJ:(default:R3).q=0:=by rfl
def EZ.amt(h:EZ n i e)(k:Nat):0<=(ix e.c k).a.q:=by
 by_cases hk:k<e.c.length
 .exact(h.c k hk).2.2.1
 .rw[ahY jb];rfl
def KO{cs:List C5}{k:Nat}{t:dO}:t∈ZW cs k↔∃r,r<8/\t=Ep cs r k:=by grind[ZW]
def KP(h:EZ n i e):Bj (dJ e)/\InE e.c.length (dJ e):=by
 have hA:∀k,k<e.a.length->xE (λq=>0<=q) e.c.length (rQ e.c (ix e.a k)).2:=λk hk=>ab2 amm h.amt λt ht x hx=>((h.a k hk).2.2 t ht x hx).1;refine⟨⟨λt ht p hp=>?_,λp hp t ht q hq=>?_⟩,⟨λt ht p hp=>?_,λp hp t ht q hq=>?_,?_,λi hi=>?_⟩⟩
 .obtain⟨r,-,rfl⟩:=KO.mp ht;exact(Oa (P:=λq=>0<=q) (λi _=>h.amt i) r _ jp p hp).2
 .obtain⟨a,ha,rfl⟩:=cQ.mp hp;obtain⟨k,hk,rfl⟩:=aM ha;rw[<-dY hk]at ht;exact(hA k hk t ht q hq).2
 .obtain⟨r,-,rfl⟩:=KO.mp ht;exact(Oa (P:=λq=>0<=q) (λi _=>h.amt i) r _ jp p hp).1
 .obtain⟨a,ha,rfl⟩:=cQ.mp hp;obtain⟨k,hk,rfl⟩:=aM ha;rw[<-dY hk]at ht;exact(hA k hk t ht q hq).1
 .show((e.a.map (rQ e.c)).flatMap (·.1)).Nodup;rw[it];refine Ob (λa=>(rQ e.c a).1) e.a λk hk=>⟨Z4 (h.prt hk),λj hj x hx hx2=>?_⟩
  have h1:=(xG (h.prt hk)).mp hx;have h2:=(xG (h.prt (by omega:j<e.a.length))).mp hx2;obtain⟨t,ht,hm⟩:=gb.mp h1;obtain⟨y,hy,ey⟩:=gb.mp hm;have ey:y.k=(x:Int):=by grind
  have:=((h.a k hk).2.2 t ht y hy).2 jb;rw[ey]at this;unfold y8 at this;rw[List.any_eq_false]at this;refine this (ix e.a j) ?_ h2;rw[<-Tn (l:=e.a) hj];grind[lJ]
 .obtain⟨p,hp,hi⟩:=cE.mp hi;obtain⟨a,ha,rfl⟩:=cQ.mp hp;obtain⟨k,hk,rfl⟩:=aM ha;rw[<-dY hk]at hi;have h1:=(xG (h.prt hk)).mp hi;have:=tK (h.prt hk) i (qG.mpr ⟨jb,h1⟩);omega
end
def ahZ{g:gZ}(h:GZ g):Jf g.e.length (bD g):=by
 refine⟨λi hi=>(KP (h.e i hi)).1,λi hi=>(KP (h.e i hi)).2,λi c hi hc=>?_,λl hl=>?_,?_,λd hd=>?_⟩
 .have:=((h.e i hi).c c hc).2.2.2;show(ix (ix g.e i).c c).h=-1\/0<=(ix (ix g.e i).c c).h/\(ix (ix g.e i).c c).h<(g.e.length:Int);omega
 .obtain⟨d,hd,hl⟩:=cE.mp hl;obtain⟨d',hd',rfl⟩:=cQ.mp hd;obtain⟨j,hj,rfl⟩:=aM hd';obtain⟨x,hx,rfl⟩:=cQ.mp hl;rw[<-dY hj]at hx;obtain⟨k,hk,rfl⟩:=aM hx;obtain⟨a,b,e1,h1,h2,-⟩:=(h.l j hj).2.2 k hk;rw[<-dY hk,e1];exact⟨h1,h2⟩
 .show((g.d.map λd=>(d.w.q,d.l.map yV)).flatMap (·.2)).Nodup;rw[it];have key:∀d,d<g.d.length->∀k,k<(ix g.d d).l.length->∀y∈mX g.d d k,(0<=y.e/\0<=y.k)->yV y≠yV (ix (ix g.d d).l k):=λd hd k hk y hy hn e=>by obtain⟨a,b,e1,h1,h2,h3,-⟩:=(h.l d hd).2.2 k hk;grind[Go.Proofs.Ins.G7,Go.Proofs.Ins.yV]
  have nn:∀d,d<g.d.length->∀y∈(ix g.d d).l,0<=y.e/\0<=y.k:=λd hd y hy=>by obtain⟨k,hk,rfl⟩:=aM hy;obtain⟨a,b,e1,-⟩:=(h.l d hd).2.2 k hk;grind[dY]
  refine Ob (λd:xK=>d.l.map yV) g.d λd hd=>⟨?_,λj hj x hx hx2=>?_⟩
  .have:(List.range (ix g.d d).l.length).Pairwise (· < ·):=List.pairwise_lt_range;rw[iA,List.pairwise_map,iB];intro a b ha hb hab;have:=key d hd b hb (ix (ix g.d d).l a) (List.mem_append_right _ ?_) ?_
   .grind[dY]
   .rw[<-Tn (l:=(ix g.d d).l) hab];grind[lJ]
   grind[lJ]
  .obtain⟨y,hy,rfl⟩:=cQ.mp hx;obtain⟨z,hz,e⟩:=cQ.mp hx2;obtain⟨k,hk,rfl⟩:=aM hy;rw[<-dY hk]at e;refine key d hd k hk z (ir _ (cE.mpr ⟨ix g.d j,?_,hz⟩)) (nn j jb z hz) e;rw[<-Tn (l:=g.d) hj];grind[lJ]
 .obtain⟨d',hd',rfl⟩:=cQ.mp hd;obtain⟨j,hj,rfl⟩:=aM hd';rw[<-dY hj];exact(h.l j hj).2.1
end Go.Proofs.Ins
namespace Go.Proofs.Xe
open Go.RowKit Go.Proofs.Ins
def vQ:Rat:=((256^uK:Nat):Rat)
def uQ:Rat:=((256^900:Nat):Rat)
def Oc:0<=uQ:=by have:((0:Nat):Rat)<=((256^900:Nat):Rat):=bp.mpr (bo _);exact this
theorem pow_two{a b c:Nat}(h:a+b=c):256^a*256^b=256^c:=by rw[<-h,Nat.pow_add]
theorem FC{k:Nat}(h:k<=256^100):(k:Rat)*uQ<=vQ:=by
 unfold uQ vQ
 rw[<-Rat.natCast_mul]
 refine Rat.natCast_le_natCast.mpr ?_
 calc k*256^900<=256^100*256^900:=Nat.mul_le_mul_right _ h
  _=256^uK:=pow_two (show 100+900=uK from rfl)
def QL{k:Nat}(h:k<=256^100):(k:Rat)<=vQ:=by unfold vQ;exact bp.mpr (aw h (bB jj jj))
abbrev Ie(A:Nat)(q:Rat):Prop:=dS A q/\0<=q/\q<=uQ
section
variable {A n:Nat} {l:gI}
def Uw{t:dO}(h:zL (Ie A) n t):aW t<=(t.length:Rat)*uQ:=by
 induction t with
 |nil=>show(0:Rat)<=_;simp
 |cons p t ih=>
  have h1:=ih λq hq=>h q (by simp[hq])
  have h2:=(h p kc).2.2.2
  rw[bX,gj]
  grind[aW]
def Nl:∀{l:gI},xE (Ie A) n l->nK l<=(dF l:Rat)*uQ
 |[],_=>by show(0:Rat)<=((0:Nat):Rat)*uQ;simp
 |t::l,h=>by have h1:=Nl (l:=l) λu hu=>h u (by simp[hu]);have h2:=Uw (h t kc);show aW t+nK l<=((t.length+dF l:Nat):Rat)*uQ;grind
theorem Dj:∀{l:gI},Po l->0<=nK l
 |[],_=>be
 |t::l,h=>by have:=Dj (l:=l) λu hu=>h u (by simp[hu]);have:=Ak (h t kc);show 0<=aW t+nK l;grind
def ah0:∀{l:gI}{j:Nat},Po l->j<l.length->aW (ix l j)<=nK l
 |t::l,0,h,_=>by have:=Dj (l:=l) λu hu=>h u (by simp[hu]);show aW t<=aW t+nK l;grind
 |t::l,j+1,h,hj=>by have:=ah0 (l:=l) (j:=j) (λu hu=>h u (by simp[hu])) (by simpa using hj);have:=Ak (h t kc);show aW (ix l j)<=aW t+nK l;grind
theorem Z8:∀{l:gI}(k:Nat),Po l->0<=Bl l k/\Bl l k<=nK l
 |[],k,h=>by unfold Bl;rw[List.take_nil];exact⟨be,be⟩
 |t::l,0,h=>⟨be,Dj h⟩
 |t::l,k+1,h=>by obtain⟨h1,h2⟩:=Z8 (l:=l) k λu hu=>h u (by simp[hu]);have:=Ak (h t kc);unfold Bl at h1 h2⊢;rw[ga];show 0<=aW t+nK _/\aW t+nK _<=aW t+nK l;grind
end
structure EB(n:Nat)(e:eH):Prop where
 nb:n<=1000
 r0:0<e.rk.length
 r1:e.rk.length<=1000
 rn:dF e.rk<=1000
 ps:e.ps.length<=1000
 m:∀p∈e.ps,p.1.length<=1000/\∀i∈p.1,i<n
 p:∀p∈e.ps,0<p.2.length/\p.2.length<=1000/\dF p.2<=10000
section
variable {A B R D n:Nat} {l:gI} {m x:Rat}
theorem qY(hD:Bz D)(hB:B∣D){q:Rat}(h:dS B q)(h0:0<=q)(h1:q<=vQ):Zk D 1 q:=Zk.of hD.1 (h.dvd hB hD.1) h0 h1
theorem uY:2<=256^uK:=aw (by decide:2<=256^1) (bB jj jj)
def Ec:∀{l:gI}{t:dO},t∈l->t.length<=dF l
 |u::l,t,h=>by
  unfold dF;rcases bA.mp h with rfl|h
  .omega
  .have:=Ec h;omega
def Xu(hD:Bz D)(hA:A∣D)(h:xE (Ie A) n l)(hl:l.length<=1000)(hn:dF l<=10000):NU D n l:=by
 have hU:=FC (k:=10000) jj;have hU1:=FC (k:=1) jj;have hz:∀t∈l,∀p∈t,Zk D 1 p.2:=λt ht p hp=>by have:=(h t ht p hp).2;grind[Go.Proofs.Xe.qY]
 refine⟨jb,λt ht=>by have:=Ec ht;omega,λt ht=>?_,λt ht p hp=>(h t ht p hp).1,λt ht p hp=>(hz t ht p hp).sz hD (by grind[uY]),hz⟩;have h1:=Uw (h t ht);have h2:(t.length:Rat)<=((10000:Nat):Rat):=bp.mpr (by have:=Ec ht;omega);have h3:=bj h2 Oc;refine(qY hD hA (Dh λp hp=>⟨(h t ht p hp).2.1,(h t ht p hp).2.2.1⟩) (Ak λp hp=>(h t ht p hp).2.2.1) kd).sz hD (by grind[uY])
def KQ(hA0:0<A)(hD:Bz D)(hA:A∣D)(h:xE (Ie A) n l)(hn:dF l<=10000)(hB:B∣D)(hm:dS B m)(h0:0<=m)(h1:m<=vQ)(hR0:0<R)(hR:R*vY A l m∣D)(hx:dS R x)(hx0:0<=x)(hx1:x<=vQ):NV D l m x:=by
 have hnn:=h.D.nn;have hR1:R∣D:=bO (aR _ _) hR;have hU:=FC (k:=10000) jj;have h2:(dF l:Rat)<=((10000:Nat):Rat):=bp.mpr hn;have h3:=bj h2 Oc;have ht:=Nl h;have hu:=uY;have hzx:=qY hD hR1 hx hx0 hx1;refine⟨λk _=>?_,h0,hzx.sz hD jb,λhf=>?_,λhf p hp=>?_⟩
 .have hc:=Z8 k hnn;exact((qY hD hB hm h0 h1).sub (qY hD hA (ahU h.D k) hc.1 kd)).sz hD jb
 .have hs:=zN h0 hf;have:=ah0 hnn hf;exact hzx.atS (qY hD hA (Dh (h.D _ (fO hf))) (eg hs) kd) hD jb jb kd
 .have hs:=zN h0 hf;have hpp:=h.D _ (fO hf) p hp;have hps:p.2<=aW (ix l (dN l m)):=by
   have:∀t:dO,(∀q∈t,0<=q.2)->p∈t->p.2<=aW t:=λt=>by
    induction t with
    |nil=>simp
    |cons q t ih=>
     intro hq hp
     show p.2<=q.2+aW t
     have h4:=hq q kc
     have h5:0<=aW t:=Ak λr hr=>hq r (by simp[hr])
     grind
   exact this _ (λq hq=>(h.D _ (fO hf) q hq).2) hp
  have e:p.2*(x/aW (ix l (dN l m)))=x*(p.2/aW (ix l (dN l m))):=by grind
  have h4:=Am hs hps;have h5:=ZN hpp.2 hs;have h6:=dh h4 hx0;refine qY hD hR (ahV hA0 h.D h0 hR0 hx hf hpp.1) ?_ ?_
  .grind[Rat.mul_nonneg]
  grind
def left_le(h0:0<=m)(h:Po l):0<=jB l m/\jB l m<=m:=by grind[Go.Proofs.Xe.Un,Go.Proofs.Xe.NT,Go.Proofs.Xe.Z8]
def aq8{l:gI}(h:Po l)(c:Int):∀{m:Rat},0<=m->iE l m c<=nK l:=by
 induction l with
 |nil=>intro m _;rfl
 |cons t l ih=>
  intro m hm
  have hl:=Dj (l:=l) λu hu=>h u (by simp[hu])
  have h2:=KF (h t kc) c
  have h3:=DZ (h t kc) c
  unfold iE
  show _<=aW t+nK l
  split
  .next hlt=>
   have h4:=Am (a:=m) (b:=aW t) kd (eg hlt)
   have h5:=dh h4 h3
   grind
  .have:=ih (λu hu=>h u (by simp[hu])) (m:=m-aW t) kd
   grind
def Ux{l:gI}(h:Po l)(c:Int){x:Rat}(hx:0<=x)(h0:0<=m):jM l m x c<=x:=by
 rw[D9];split
 .next hf=>
  have hs:=zN h0 hf;have hl:=h _ (fO hf);have e:l7 (ix l (dN l m)) c*(x/aW (ix l (dN l m)))=x*(l7 (ix l (dN l m)) c/aW (ix l (dN l m))):=by grind
  rw[e];have h4:=Am hs (KF hl c);have h6:=dh h4 hx;grind
 omega
end
section
variable {A B D n:Nat} {m:Rat} {e:eH}
def qZ{α:Type}{f:α->Rat}{v:Rat}(h0:0<=v):∀{l:List α}{k:Nat},(∀a∈l,f a<=v)->l.length<=k->aI l f<=(k:Rat)*v
 |[],k,_,_=>by have:((0:Nat):Rat)<=(k:Rat):=bp.mpr (bo _);exact cj this h0
 |a::l,k,h,hk=>by
  obtain⟨k,rfl⟩:∃j,k=j+1:=⟨k-1,by simp at hk;omega⟩
  have h1:=qZ h0 (l:=l) (k:=k) (λb hb=>h b (by simp[hb])) (by simpa using hk);have h2:=h a kc;show f a+aI l f<=_;rw[gj];have:((1:Nat):Rat)=1:=rfl;grind
def ah1(h:ED A uQ n e)(hb:EB n e)(h0:0<=m){p:List Nat×gI}(hp:p∈e.ps):kU e m p<=vQ:=by have ht:=Nl h.rk;have h2:(dF e.rk:Rat)<=((1000:Nat):Rat):=bp.mpr hb.rn;have h3:=bj h2 Oc;have h4:=qZ (f:=yU e m) (v:=((1000:Nat):Rat)*uQ) (cj (bp.mpr (bo 1000)) Oc) (l:=p.1) (k:=1000) (λc _=>cK (aq8 h.rk.D.nn c h0) (cK ht h3)) (hb.m p hp).1;have h5:=FC (k:=1000*1000) jj;grind[kU]
def aq9(h:ED A uQ n e)(hb:EB n e)(h0:0<=m){p:List Nat×gI}(hp:p∈e.ps):rO e m p<=vQ:=by have h4:=qZ (f:=rts e m) (v:=1) jj (l:=p.1) (k:=1000) (λc _=>Ux h.rk.D.nn c jj h0) (hb.m p hp).1;have h5:=QL (k:=1000) jj;grind[rO]
def ah2(hD:Bz D)(hA:A∣D)(h:ED A uQ n e)(hb:EB n e):EOk D n e:=by
 have hn:=hb.nb;have hps:=hb.ps;refine⟨jb,Xu hD hA h.rk hb.r1 (by have:=hb.rn;omega),hb.r0,jb,λp hp=>⟨by have:=(hb.m p hp).1;omega,(hb.m p hp).2⟩,λp hp=>⟨Xu hD hA (h.ps p hp) (hb.p p hp).2.1 (hb.p p hp).2.2,(hb.p p hp).1⟩,?_⟩;have h1:∀l:List (List Nat×gI),(∀p∈l,dF p.2<=10000)->H8 l<=l.length*10000:=λl=>by
  induction l with
  |nil=>intro _;exact cL 0
  |cons p l ih=>
   grind[H8]
 have h2:=h1 e.ps λp hp=>(hb.p p hp).2.2;have h3:=hb.rn;grind[uK]
def ah3(hA0:0<A)(hB0:0<B)(hAB:A∣B)(hD:Bz D)(hBD:B*Bo A e m∣D)(h:ED A uQ n e)(hb:EB n e)(hm:dS B m)(h0:0<=m)(h1:m<=vQ):MOk D e m:=by
 have hB:B∣D:=bO (aR _ _) hBD;have hA:A∣D:=bO hAB hB;have hr:B*vY A e.rk m∣D:=bO (cH _ (aR _ _)) hBD;have hr0:=cw hB0 (qX hA0 h.rk.D h0);refine⟨(qY hD hB hm h0 h1).sz hD (by grind[uY]),?_,λp hp=>?_⟩
 .have hl:=left_le h0 h.rk.D.nn;exact KQ hA0 hD hA h.rk (by have:=hb.rn;omega) hB hm h0 h1 hB0 hr (Z7 hA0 hB0 hAB h.rk.D hm) hl.1 (cK hl.2 h1)
 .have hg:=nM h.nn h0 p;have hgD:=Xq hA0 hB0 hAB h hm h0 p;have hgl:=ah1 h hb h0 hp;have hl:=left_le hg (h.ps p hp).D.nn;have hd:B*vY A e.rk m*vY A p.2 (kU e m p)∣D:=by refine bO ?_ hBD;rw[fX];exact cH _ (cH _ (Di A e m hp))
  exact⟨KQ hA0 hD hA (h.ps p hp) (hb.p p hp).2.2 hr hgD hg hgl hr0 hd (Z7 hA0 hr0 (bO hAB (aR _ _)) (h.ps p hp).D hgD) hl.1 (cK hl.2 hgl),(qY hD hr hgD hg hgl).sz hD (by grind[uY])⟩
def ah4(hA0:0<A)(hB0:0<B)(hAB:A∣B)(hD:Bz D)(hBD:B*Bo A e m∣D)(h:ED A uQ n e)(hb:EB n e)(hm:dS B m)(h0:0<=m)(h1:m<=vQ):ROk D e m:=by
 have hB:B∣D:=bO (aR _ _) hBD;have hA:A∣D:=bO hAB hB;have hr:B*vY A e.rk m∣D:=bO (cH _ (aR _ _)) hBD;have hr0:=qX hA0 h.rk.D h0;have hr1:vY A e.rk m∣D:=bO (gL _ _) hr;have h1v:=QL (k:=1) jj;refine⟨?_,λp hp=>?_⟩
 .exact KQ (R:=1) hA0 hD hA h.rk (by have:=hb.rn;omega) hB hm h0 h1 jj kd ⟨1,by grind⟩ jj h1v
 .have hg:=nM h.nn h0 p;have hgD:=Xq hA0 hB0 hAB h hm h0 p;have hgl:=ah1 h hb h0 hp;have hR:=Ja h.nn h0 p;have hRD:=ab3 hA0 h h0 p;have hRl:=aq9 h hb h0 hp;have hd:vY A e.rk m*vY A p.2 (kU e m p)∣D:=by refine bO ?_ (bO (gL _ _) hBD);exact cH _ (Di A e m hp)
  exact⟨KQ hA0 hD hA (h.ps p hp) (hb.p p hp).2.2 hr hgD hg hgl hr0 hd hRD hR hRl,(qY hD hr1 hRD hR hRl).sz hD (by grind[uY])⟩
end
section
variable {E:Env} [Zw E] {p:Nat→Prop} {σ:St} {K:V→St→Prop}
def Xv{v:B}{a:iw}(ha:dV p σ.h v a)(h1:a.length<=1000000)(h2:a.flatten.length<=1000000){v':V}{σ':St}(hm:ag2 a.flatten σ=some (v',σ')):aC E 133 [.c v] σ K=K v' σ':=
 Qu (by have h:=(alG ha h1 h2).trans hm;unfold WJ;rw[abp rfl];unfold alI ag5;simp only[Nat.reduceEqDiff,reduceIte,h])
def QM{v:B}{a:iw}(ha:dV p σ.h v a)(h1:a.length<=1000000)(h2:a.flatten.length<=1000000){v':V}{σ':St}(hm:ag1 (vV a) σ=some (v',σ')):aC E 91 [.agg [v]] σ K=K v' σ':=
 Qu (by have h:=(alF ha h1 h2).trans hm;unfold WJ;rw[abp rfl];unfold alI ag5;simp only[Nat.reduceEqDiff,reduceIte,h])
end
def QN{E:Env}[Zw E]{σ:St}(hW:WF σ){p:Nat->Prop}{v:B}{a:iw}(ha:dV p σ.h v a)(h1:a.length<=1000000)(h2:a.flatten.length<=1000000):
  aC E 91 [.agg [v]] σ λr σ'=>(∃u,r=.c u/\zJ σ'.h u (vV a).length (λi=>[.int .i64 (ix (vV a) i)]) 1 3 σ.aj σ'.aj)/\Fr σ σ':=by
 by_cases h0:(vV a).length=0
 .rw[QM ha h1 h2 (v':=.c .aV) (σ':=σ) (ab h0)]
  exact⟨⟨_,rfl,.inl ⟨h0,rfl⟩⟩,Fr.refl hW⟩
 .rw[QM ha h1 h2 (ae h0)]
  exact⟨⟨_,rfl,.inr ⟨jb,_,rfl,aA _ _ _,jp,cg _⟩⟩,fr⟩
def amn{a:iw}{n:Nat}(ha:∀t∈a,∀x∈t,x.k=-1\/0<=x.k/\x.k<n){i:Nat}(hi:i<(vV a).length):B.int .i64 (ix (vV a) i)=Pq (lW a) i:=by unfold Pq lW;rw[Xt Int.toNat hi];have:=tK ha _ (lJ hi);grind
def Oe(a:iw):(lW a).length=(vV a).length:=cY _
structure TS(σ:St)(tb bs:Nat)(t:dO):Prop where
 b:σ.h tb=some ⟨jP (aU t.length bs) (aW t),none⟩
 o:N7 σ.h bs t
 lo:tb<bs
 hi:t.length=0\/bs<σ.aj
def TS.lt{σ:St}(hW:WF σ){tb bs:Nat}{t:dO}(h:TS σ tb bs t):tb<σ.aj:=hW.lt h.b
def TS.on{σ σ':St}{tb bs:Nat}{t:dO}(h:TS σ tb bs t)(h1:∀b,tb<=b->b<σ.aj->σ'.h b=σ.h b)(hW:WF σ)(hle:σ.aj<=σ'.aj):TS σ' tb bs t:=by have h0:=h.lt hW;have hlo:=h.lo;have hhi:=h.hi;refine⟨by rw[h1 tb jp h0];exact h.b,?_,hlo,jb⟩;refine(vT ?_).trans h.o;grind
theorem TS.fr{σ σ':St}{tb bs:Nat}{t:dO}(h:TS σ tb bs t)(hW:WF σ)(hf:Fr σ σ'):TS σ' tb bs t:=h.on (λb _ hb=>hf.old b hb) hW hf.le
def TS.fre{σ σ':St}{ex:List Nat}{tb bs:Nat}{t:dO}(h:TS σ tb bs t)(hW:WF σ)(hf:aT ex σ σ')(hx:∀b∈ex,b<tb):TS σ' tb bs t:=h.on (λb h1 h2=>hf.old b h2 λhm=>by grind) hW hf.le
def Z9{σ:St}(hW:WF σ){tb bs:Nat}{t:dO}(hT:TS σ tb bs t)(hl:t.length<=1000000)(k:Int)(q:Rat)(hs:Sz (aW t))(hq:Sz q):
  aC EN 93 [.c (.ptr tb 0),.c (.int .i64 k),.agg [.bool (rn q),.str (rs q),.str (rd q)]] σ λ_ σ'=>(∃bs',TS σ' tb bs' (t++[(k,q)]))/\(∀b,b<tb->σ'.h b=σ.h b)/\WF σ'/\σ.aj<=σ'.aj:=by
 have h0:=hT.lo
 have hlt:=hT.lt hW
 have:=ahP (G:=λ_=>jP (aU t.length bs) (aW t)) (n:=1) (r:=0) hW (by rw[hT.b];rfl) jj (λ_=>rfl) rfl rfl rfl hT.o (.inr jb) hT.hi hl k q hs hq
 refine this.mono ?_
 rintro _ σ' ⟨nx,h1,h2,h3,h4,h5⟩
 have hle:=h5.le
 refine⟨⟨nx,?_,?_,jb,.inr h2⟩,λb hb=>h5.old b jb kd,h5.wf,hle⟩
 .rw[h3,QH,aD];rfl
 .unfold N7
  rw[aD,bY]
  show σ'.h nx=some _
  grind[Go.Proofs.Xe.lZ,Go.Proofs.Xe.bZ,Go.Proofs.Xe.ji,Go.Proofs.Xe.gK,Go.Proofs.Xe.gJ]
def amo(U:Nat->B)(Lf:Nat->dO)(p:Nat->Prop)(h:Tr Bk)(i:Nat):Prop:=aY p h 4 (U i) (Lf i).length λc=>zH (ix (Lf i) c)
def Xw(U:Nat->B)(Lf:Nat->dO)(i:Nat):List B:=jP (U i) (aW (Lf i))
abbrev aac(U:Nat->B)(Lf:Nat->dO)(h:Tr Bk)(b n lo hi:Nat):Prop:=NF (amo U Lf) h b n (Xw U Lf) 4 157 lo hi
def Uy(U:Nat->B)(Lf:Nat->dO)(j:Nat):QK (amo U Lf) j:=λ_ _ _ _ hp hk hq=>aY.keep hp hk hq
def Uz(U:Nat->B)(Lf:Nat->dO):LG (Xw U Lf) 4:=λ_=>rfl
section
variable {U:Nat→B} {Lf:Nat→dO} {h h' : Tr Bk} {b n lo hi:Nat}
def aac.push(ho:aac U Lf h b n lo hi){σ1:St}(hW:WF σ1){tb bs nx n':Nat}{t:dO}(hL:Lf n=t)(hT:TS σ1 tb bs t)(ht:hi<=tb)(h5:lo<=hi)(hh:∀b,lo<=b->b<hi->σ1.h b=h b)(h3:σ1.aj<=nx)(h4:nx<n')
  (hb:h' nx=some ⟨bK n (Xw U Lf)++jP (aU t.length bs) (aW t),some (4,157)⟩) (hk:∀c,lo<=c->c<σ1.aj->n=0\/c≠b->h' c=σ1.h c):aac (aN U n (aU t.length bs)) Lf h' nx (n+1) lo n':=by
 have hlt:=hT.lt hW
 have hlo:=hT.lo
 have hx:aY (λb=>hi<=b/\b<σ1.aj) σ1.h 4 (aU t.length bs) t.length λj=>zH (ix t j):=hT.o.hlp (by rcases hT.hi with h0|h0;exact .inl h0;omega)
 refine NF.push ho (λj _=>Uy _ Lf j) (λj hj p h hq=>?_) (hi1:=σ1.aj) (h1:=σ1.h) ?_ hh jb h3 h4 h5 hb ?_ hk (λi hi=>?_) (Uz _ _)
 .grind[amo,aQ]
 .grind[amo,aP]
 .grind[Xw,aP]
 grind[Xw,aQ]
def aac.ara(ho:aac U Lf h b n lo hi){l:gI}(hl:l.length=n)(hL:∀i,i<n->Lf i=ix l i):yx (λb=>lo<=b/\b<hi) h (aU n b) l:=by
 have hel:=λi (hi:i<n)=>ho.el (λj _=>Uy U Lf j) hi;refine⟨U,?_,by cases n<;>trivial,λi hi=>?_⟩
 .rw[hl];refine(ho.hlp jj (λi hi=>?_) λb h1 h2=>⟨h1,h2⟩).congr λi hi=>by grind[Xw]
  unfold Xw jP;simp only[cT,et,Ae,Fj,(hel i hi).kn,dT]
 .rw[hl]at hi;rw[<-hL i hi];exact hel i hi
end
def lsS(cs:List C5)(a:iw)(j:Nat):(Nat->Rat)×gI:=(a.take j).foldl ltS ((λi:Nat=>(ix cs i).a.q),[])
def Aw(f:Nat->Rat)(t:JV)(l:Nat):(Nat->Rat)×dO:=(t.take l).foldl lpS (f,[])
theorem Og{cs:List C5}{a:iw}{j:Nat}(h:j<a.length):lsS cs a (j+1)=ltS (lsS cs a j) (ix a j):=by grind[lsS,bJ]
def Ig(cs:List C5)(a:iw):lsS cs a a.length=lsA cs a:=by grind[lsS,lsA]
def Az(cs:List C5)(a:iw):∀j,j<=a.length->(lsS cs a j).2.length=j
 |0,_=>rfl
 |j+1,h=>by rw[Og jb];unfold ltS;rw[aD,Az cs a j jb];rfl
def aad{α:Type}[Inhabited α]{l:List α}{x:α}{n:Nat}(h:l.length=n):ix (l++[x]) n=x:=by grind[gK]
def nN(m k:Nat)(F:Nat->Rat):bU m (aN (λi=>if i<k then F i else 0) k (F k))=bU m λi=>if i<k+1 then F i else 0:=dw λi _=>by grind[aN]
def tN(m:Nat)(F:Nat->Rat):bU m (λi=>if i<m then F i else 0)=bU m F:=dw λi hi=>ab hi
def ru(m:Nat)(F:Nat->Rat):bU m (λ_=>0)=bU m λi=>if i<0 then F i else 0:=dw λi _=>rfl
def ah5{s:(Nat->Rat)×dO}{x:Ah}{kk:Nat}(h1:¬x.k=-1)(hk:x.k=Int.ofNat kk):lpS s x=(aN s.1 kk (s.1 kk-if x.b=true then jO (s.1 kk) x.a.q else s.1 kk),s.2++[(Int.ofNat kk,if x.b=true then jO (s.1 kk) x.a.q else s.1 kk)]):=by unfold lpS;rw[ae h1,hk];refine Prod.ext ?_ rfl;grind[aN]
def UA{cs:List C5}{a:iw}{i:Nat}:∀{j},i<j->j<=a.length->ix (lsS cs a j).2 i=(Aw (lsS cs a i).1 (ix a i) (ix a i).length).2
 |j+1,hi,hj=>by
  rw[Og jb];unfold ltS;by_cases e:i=j
  .subst e;have:=Az cs a i jb;exact(aad this).trans (by unfold Aw;rw[ck])
  .show ix ((lsS cs a j).2++[_]) i=_;rw[gJ _ _ (by rw[Az cs a j jb];omega)];exact UA jb jb
def Xx{f:Nat->Rat}{t:JV}{l:Nat}(h:l<t.length):Aw f t (l+1)=lpS (Aw f t l) (ix t l):=by grind[Aw,bJ]
def KR(f:Nat->Rat)(t:JV):∀l,l<=t.length->(Aw f t l).2.length=l
 |0,_=>rfl
 |l+1,h=>by rw[Xx jb];unfold lpS;split<;>simp[KR f t l jb]
def ah6{cs:List C5}{a:iw}{j:Nat}(h:j<a.length):(lsS cs a (j+1)).1=(Aw (lsS cs a j).1 (ix a j) (ix a j).length).1:=by grind[Og,ltS,Aw]
def aek(ms:List Nat)(f:Nat->Rat){i:Nat}(h:i<ms.length):yP (ms.take (i+1)) f=yP (ms.take i) f++[(((ix ms i:Nat):Int),f (ix ms i))]:=by grind[yP,bJ]
def ah7:∀{l:List Int}{lo hi:Int},l.Pairwise (· < ·)->(∀x∈l,lo<=x/\x<hi)->l.length<=(hi-lo).toNat
 |[],_,_,_,_=>bo _
 |a::l,lo,hi,hp,h=>by
  rw[List.pairwise_cons]at hp;have h1:=h a kc;have:=ah7 (lo:=a+1) (hi:=hi) hp.2 λx hx=>by grind
  grind
def FD{a:iw}{n:Nat}(ha:∀t∈a,∀x∈t,x.k=-1\/0<=x.k/\x.k<n):(lW a).length<=n:=by have:=ah7 (abl a) (tK ha);rw[Oe];omega
theorem KT(cs:List C5)(r:Nat):∀k,(Ep cs r k).length<=k
 |0=>cL 0
 |k+1=>by have:=KT cs r k;unfold Ep;rw[aD];split<;>simp<;>omega
section
variable {A n:Nat}
def arb(hA:0<A):Pv (Ie A) where
 min:=λa b ha hb=>by grind[jO]
 sub:=λa b ha hb=>by
  have h1:=ha.2;have h2:=hb.2;unfold jO;split
  .grind[dS.zero]
  .exact⟨ha.1.sub hb.1,by grind,by grind⟩
 zero:=⟨dS.zero A,be,Oc⟩
def Oh(hA:Bz A){q:Rat}(h:Ie A q):Sz q:=by have hU:=FC (k:=1) jj;have:((1:Nat):Rat)=1:=rfl;exact(qY hA (im A) h.1 h.2.1 kd).sz hA (by grind[uY])
def UC(hA:Bz A){t:dO}(h:zL (Ie A) n t)(hl:t.length<=10000):Sz (aW t):=by have hU:=FC (k:=10000) jj;have h1:=Uw h;have h2:(t.length:Rat)<=((10000:Nat):Rat):=bp.mpr hl;have h3:=bj h2 Oc;exact(qY hA (im A) (Dh λp hp=>⟨(h p hp).2.1,(h p hp).2.2.1⟩) (Ak λp hp=>(h p hp).2.2.1) kd).sz hA (by grind[uY])
def ard{P:Rat->Prop}(hP:Pv P){f:Nat->Rat}(hf:∀i,P (f i)){t:JV}(ht:∀x∈t,Px P n x)(l:Nat):(∀i,P ((Aw f t l).1 i))/\zL P n (Aw f t l).2:=
 ZX hP (t.take l) hf (λ_ h=>by cases h) λx hx=>ht x (eh hx)
def arf{P:Rat->Prop}(hP:Pv P){cs:List C5}(hc:∀i,P (ix cs i).a.q){a:iw}(ha:∀t∈a,∀x∈t,Px P n x)(j:Nat)(i:Nat):P ((lsS cs a j).1 i):=
 (ZY hP (a.take j) hc (λ_ h=>by cases h) λt ht=>ha t (eh ht)).1 i
end
def arh(p q:Rat):IW p q=jO p q:=by
 unfold IW jO;by_cases h:p<=q
 .rw[ab h,ab (vP.mpr h)]
 .rw[ae h,ae λe=>h (vP.mp e)]
structure ah8(A:Nat)(cs:List C5)(a:iw):Prop where
 nc:cs.length<=1000
 na:a.length<=1000
 nt:∀t,t<a.length->(ix a t).length<=1000
 nf:a.flatten.length<=1000000
 fc:∀i,i<cs.length->(ix cs i).a.fits 1000000
 fp:∀t,t<a.length->∀l,l<(ix a t).length->(ix (ix a t) l).a.fits 1000000
 c:∀i,Ie A (ix cs i).a.q
 p:∀t∈a,∀x∈t,Px (Ie A) cs.length x
end Go.Proofs.Xe
