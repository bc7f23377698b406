import Derived.Test.YtchhojplceoifaaGreatDoorYc22
set_option linter.all false
namespace Go.Proofs.Xe
open Go.RowKit Go.Proofs.Ins
def eX(D:Nat)(q:Rat):Prop:=∃a:Int,q=(a:Rat)/(D:Rat)
theorem iI{D:Nat}(h:0<D):(D:Rat)≠0:=λe=>by simp_all
section
variable {A B D:Nat} {p q x s:Rat}
theorem eX.zero(D:Nat):eX D 0:=⟨0,by grind⟩
theorem eX.add(h:eX D p)(h':eX D q):eX D (p+q):=by obtain⟨a,rfl⟩:=h;obtain⟨b,rfl⟩:=h';exact⟨a+b,by grind⟩
def eX.neg(h:eX D p):eX D (-p):=by obtain⟨a,rfl⟩:=h;exact⟨-a,by grind⟩
def eX.sub(h:eX D p)(h':eX D q):eX D (p-q):=by rw[jt];exact h.add h'.neg
def eX.up(h:eX A p){k:Nat}(hk:0<k):eX (A*k) p:=by
 obtain⟨a,rfl⟩:=h;refine⟨a*k,?_⟩;have h1:=iI hk;have e2:((a*(k:Int):Int):Rat)=(a:Rat)*(k:Rat):=by rw[df];rfl
 grind
def eX.dvd(h:eX A p)(hd:A∣B)(hB:0<B):eX B p:=by obtain⟨k,rfl⟩:=hd;exact h.up (fq λe=>by grind)
theorem eX.sum{α:Type}{f:α->Rat}:∀{l:List α},(∀a∈l,eX D (f a))->eX D (aK l f)
 |[],_=>eX.zero D
 |a::l,h=>(h a kc).add (eX.sum λb hb=>h b (by simp[hb]))
def nuA(A:Nat)(s:Rat):Nat:=(s*A).num.natAbs
def U6(hA:0<A)(hs:eX A s)(h0:0<s):s=(nuA A s:Rat)/(A:Rat)/\0<nuA A s:=by
 obtain⟨u,rfl⟩:=hs;have hA:=iI hA;have e:(u:Rat)/(A:Rat)*(A:Rat)=(u:Rat):=by grind
 unfold nuA;rw[e,Rat.num_intCast];have hu:0<u:=by
  have h1:(0:Rat)<=(A:Rat):=by grind
  have h2:=Rat.mul_pos h0 (show(0:Rat)<(A:Rat) by grind);rw[e]at h2;exact Rat.intCast_pos.mp h2
 have e2:((u.natAbs:Nat):Rat)=(u:Rat):=by
  have:((u.natAbs:Int):Rat)=(u:Rat):=by grind
  exact this
 grind
def eX.share(hA:0<A)(hB:0<B)(hp:eX A p)(hx:eX B x)(hs:eX A s)(h0:0<s):eX (B*nuA A s) (p*(x/s)):=by obtain⟨e,hn⟩:=U6 hA hs h0;obtain⟨c,rfl⟩:=hp;obtain⟨z,rfl⟩:=hx;generalize nuA A s=n at*;refine⟨c*z,?_⟩;grind
def Zk.of(hD:0<D)(h:eX D q)(h1:0<=q)(h2:q<=((256^uK:Nat):Rat)):Zk D 1 q:=by
 obtain⟨a,rfl⟩:=h;refine⟨a,rfl,?_⟩;have hD':=iI hD;have h3:(0:Rat)<(D:Rat):=by grind
 have e:(a:Rat)/(D:Rat)*(D:Rat)=(a:Rat):=by grind
 have h4:=br h2 (et h3);have h5:=ck h1 (et h3);rw[e]at h4 h5;rw[<-fh]at h4;have h4:((a:Int):Rat)<=(((256^uK*D:Nat):Int):Rat):=h4;have h4:=gi.mp h4;have h5:=Rat.intCast_nonneg.mp h5;grind
end
def wL(A:Nat)(l:gQ)(m:Rat):Nat:=if dY l m<l.length then nuA A (aW (ix l (dY l m)))else 1
def KC(A:Nat)(l:gQ):Prop:=∀t∈l,∀p∈t,eX A p.2/\0<=p.2
section
variable {A B:Nat} {l:gQ} {m:Rat}
def DK{t:dZ}(h:∀p∈t,eX A p.2/\0<=p.2):eX A (aW t):=by
 induction t with
 |nil=>exact eX.zero A
 |cons p t ih=>exact(h p kc).1.add (ih λq hq=>h q (by simp[hq]))
def aaD{t:dZ}(h:∀p∈t,eX A p.2/\0<=p.2)(c:Int):eX A (mF t c):=by
 induction t with
 |nil=>exact eX.zero A
 |cons p t ih=>
  refine eX.add ?_ (ih λq hq=>h q (by simp[hq]))
  grind[eX.zero]
def KC.nn(h:KC A l):P7 l:=λt ht p hp=>(h t ht p hp).2
def aix(h:KC A l)(k:Nat):eX A (BX l k):=by
 unfold BX;have:∀l:gQ,KC A l->eX A (nT l):=λl=>by
  induction l with
  |nil=>intro _;exact eX.zero A
  |cons t l ih=>intro h;exact(DK (h t kc)).add (ih λu hu=>h u (by simp[hu]))
 exact this _ λt ht=>h t (eA ht)
def ase(h:KC A l)(c:Int):eX A (Ip l c):=by
 induction l with
 |nil=>exact eX.zero A
 |cons t l ih=>exact(aaD (h t kc) c).add (ih λu hu=>h u (by simp[hu]))
def Ah(hm:0<=m)(hf:dY l m<l.length):0<aW (ix l (dY l m)):=by have:=UZ l m hm;grind
def rP(hA:0<A)(h:KC A l)(hm:0<=m):0<wL A l m:=by
 unfold wL;split
 .next hf=>exact(U6 hA (DK (h _ (gy hf))) (Ah hm hf)).2
 .omega
def aaE(hA:0<A)(hB:0<B)(hd:A∣B)(h:KC A l)(hm:eX B m):eX B (jB l m):=by rw[Oo];exact hm.sub ((aix h _).dvd hd hB)
def aiy(hA:0<A)(h:KC A l)(h0:0<=m){R:Nat}(hR:0<R){x:Rat}(hx:eX R x)(hf:dY l m<l.length){q:Rat}(hq:eX A q):eX (R*wL A l m) (q*(x/aW (ix l (dY l m)))):=by unfold wL;rw[ab hf];exact eX.share hA hR hq hx (DK (h _ (gy hf))) (Ah h0 hf)
def ao8(hA:0<A)(hB:0<B)(hd:A∣B)(h:KC A l)(hm:eX B m)(h0:0<=m)(c:Int):eX (B*wL A l m) (iH l m c):=by
 have hc:=rP hA h h0;rw[Ju];refine eX.add ((ase (λt ht=>h t (eA ht)) c).dvd (bO hd (aR _ _)) (cn hB hc)) ?_;split
 .next hf=>exact aiy hA h h0 hB (aaE hA hB hd h hm) hf (aaD (h _ (gy hf)) c)
 .exact eX.zero _
def ao9(hA:0<A)(h:KC A l)(h0:0<=m){R:Nat}(hR:0<R){x:Rat}(hx:eX R x)(c:Int):eX (R*wL A l m) (jM l m x c):=by
 rw[EC];split
 .next hf=>exact aiy hA h h0 hR hx hf (aaD (h _ (gy hf)) c)
 .exact eX.zero _
end
def aeR(A:Nat)(e:fJ)(x:Rat):List (List Nat×gQ)->Nat
 |[]=>1
 |p::l=>wL A p.2 (kY e x p)*aeR A e x l
def BZ(A:Nat)(e:fJ)(x:Rat):Nat:=wL A e.rk x*aeR A e x e.ps
structure ED(A:Nat)(U:Rat)(n:Nat)(e:fJ):Prop where
 rk:yg (λq=>eX A q/\0<=q/\q<=U) n e.rk
 ps:∀p∈e.ps,yg (λq=>eX A q/\0<=q/\q<=U) n p.2
section
variable {A B n:Nat} {U m:Rat} {e:fJ}
def _root_.Go.Proofs.Ins.yg.D{l:gQ}(h:yg (λq=>eX A q/\0<=q/\q<=U) n l):KC A l:=λt ht p hp=>⟨(h t ht p hp).2.1,(h t ht p hp).2.2.1⟩
def ED.nn(h:ED A U n e):BU e:=⟨h.rk.D.nn,λp hp=>(h.ps p hp).D.nn⟩
def apa(hA:0<A)(hB:0<B)(hd:A∣B)(h:ED A U n e)(hm:eX B m)(h0:0<=m)(c:Nat):eX (B*wL A e.rk m) (Az e m c):=ao8 hA hB hd h.rk.D hm h0 _
def apb(hA:0<A)(h:ED A U n e)(h0:0<=m)(c:Nat):eX (wL A e.rk m) (rts e m c):=by have:=ao9 (R:=1) hA h.rk.D h0 jj (x:=1) ⟨1,by grind⟩ c;rwa[Nat.one_mul]at this
def XU(hA:0<A)(hB:0<B)(hd:A∣B)(h:ED A U n e)(hm:eX B m)(h0:0<=m)(p:List Nat×gQ):eX (B*wL A e.rk m) (kY e m p):=eX.sum λc _=>apa hA hB hd h hm h0 c
def acH(hA:0<A)(h:ED A U n e)(h0:0<=m)(p:List Nat×gQ):eX (wL A e.rk m) (sF e m p):=eX.sum λc _=>apb hA h h0 c
def DL(A:Nat)(e:fJ)(x:Rat):∀{l:List (List Nat×gQ)}{p:List Nat×gQ},p∈l->wL A p.2 (kY e x p)∣aeR A e x l
 |q::l,p,h=>by
  rcases bA.mp h with rfl|h
  .exact aR _ _
  .exact bO (DL A e x h) (gR _ _)
def XV(hA:0<A)(h:ED A U n e)(h0:0<=m):∀{l:List (List Nat×gQ)},(∀p∈l,p∈e.ps)->0<aeR A e m l
 |[],_=>Nat.zero_lt_one
 |p::l,hl=>cn (rP hA (h.ps p (hl p kc)).D (nU h.nn h0 p)) (XV hA h h0 λq hq=>hl q (by simp[hq]))
def Iz(hA:0<A)(h:ED A U n e)(h0:0<=m):0<BZ A e m:=cn (rP hA h.rk.D h0) (XV hA h h0 λ_ h=>h)
def aiz(hA:0<A)(hB:0<B)(hd:A∣B)(h:ED A U n e)(hm:eX B m)(h0:0<=m)(c:Nat):eX (B*BZ A e m) (ug e m c):=by
 have hp:=cn hB (Iz hA h h0);have hp1:=cn hB (rP hA h.rk.D h0);unfold ug;refine eX.add ?_ (eX.sum λp hp'=>?_)
 .split
  .exact eX.zero _
  .exact(apa hA hB hd h hm h0 c).dvd (cL _ (aR _ _)) hp
 .refine(ao8 hA hp1 (bO hd (aR _ _)) (h.ps p hp').D (XU hA hB hd h hm h0 p) (nU h.nn h0 p) c).dvd ?_ hp;rw[gb];exact cL _ (cL _ (DL A e m hp'))
def aiA(hA:0<A)(h:ED A U n e)(h0:0<=m)(c:Nat):eX (BZ A e m) (x9 e m c):=by
 have hp:=Iz hA h h0;unfold x9;refine eX.add ?_ (eX.sum λp hp'=>?_)
 .split
  .exact eX.zero _
  .exact(apb hA h h0 c).dvd (aR _ _) hp
 .exact(ao9 hA (h.ps p hp').D (nU h.nn h0 p) (rP hA h.rk.D h0) (acH hA h h0 p) c).dvd (cL _ (DL A e m hp')) hp
end
end Go.Proofs.Xe
namespace Go.Proofs.Ins
def zL(l:Lg):fM:=(l.e.toNat,l.k.toNat)
def aY(g:gB):GL:=⟨λi=>dU (ix g.e i),λi=>(ix g.e i).c.length,λi c=>(ix (ix g.e i).c c).h,g.d.map λd=>(d.w.q,d.l.map zL)⟩
theorem acI{q:Rat}(h:¬sg q<0):0<=q:=by grind[sg]
def am5:P9 (λq=>0<=q) where
 min:=λa b ha hb=>by grind[jO]
 sub:=λa b ha hb=>by grind[jO]
 zero:=bh
structure EZ(n:Nat)(i:Nat)(e:BQ):Prop where
 nc:e.c.length<=24
 na:e.a.length<=12
 m:0<=e.m.q
 c:∀k,k<e.c.length->0<=(ix e.c k).r/\(ix e.c k).r<=7/\0<=(ix e.c k).a.q/\((ix e.c k).h=-1\/0<=(ix e.c k).h/\(ix e.c k).h<n/\(ix e.c k).h≠i)
 a:∀k,k<e.a.length->(ix e.a k).length<=24/\(∀t,t<(ix e.a k).length->(ix (ix e.a k) t).length<=24)/\∀t∈ix e.a k,∀x∈t,Qa (λq=>0<=q) e.c.length x/\(x.k≠-1->zT e.a k x.k=false)
def avI{e:BQ}{n i:Nat}(h:FX e=0)(hh:∀k,k<e.c.length->¬((n:Int)<=(ix e.c k).h\/(ix e.c k).h=(i:Int))):EZ n i e:=by
 unfold FX at h;split at h
 .cases h
 next h0=>
 split at h
 .cases h
 next h1=>
 split at h
 .omega
 next h2=>
 have h2:ES (λi=>Un (ix e.c i)) e.c.length=0:=bo h2;refine⟨jb,jb,acI h1,λk hk=>?_,λk hk=>?_⟩
 .grind[iR,Un,acI]
 .have ha:=iR h k hk;unfold Xc at ha;split at ha
  .cases ha
  next hl=>
  have hl:=Df.mp (by simpa using hl);refine⟨hl.1,hl.2,λt ht x hx=>?_⟩;obtain⟨j,hj,rfl⟩:=aM ht;obtain⟨p,hp,rfl⟩:=aM hx;have hT:=iR ha j hj;unfold arD at hT;rw[fE hj]at hT;have hP:=iR hT p hp;rw[fE hp]at hP;generalize (ix e.a k)[j][p]=x at*;unfold Z8 at hP;split at hP
  .cases hP
  next c1=>
  split at hP
  .cases hP
  next c2=>
  split at hP
  .cases hP
  next c3=>
  split at hP
  .cases hP
  next c4=>
  refine⟨⟨jb,λhq=>?_⟩,λhn=>by grind⟩;grind[acI]
structure GZ(g:gB):Prop where
 ne:g.e.length<=8
 nd:g.d.length<=16
 e:∀i,i<g.e.length->EZ g.e.length i (ix g.e i)
 l:∀d,d<g.d.length->(ix g.d d).l.length<=8/\0<=(ix g.d d).w.q/\∀k,k<(ix g.d d).l.length->∃e j:Nat,ix (ix g.d d).l k=⟨(e:Int),(j:Int)⟩/\e<g.e.length/\j<(ix g.e e).c.length/\H8 (nG g.d d k) (ix (ix g.d d).l k)=false/\holdL g.e (ix (ix g.d d).l k)=holdL g.e (ix (ix g.d d).l 0)
def OC{g:gB}(h:NQ g=0):GZ g:=by
 unfold NQ at h;split at h
 .cases h
 next h0=>
 split at h
 .omega
 next h1=>
 split at h
 .omega
 next h2=>
 have h1:ES (λi=>FX (ix g.e i)) g.e.length=0:=bo h1;have h2:ES (λi=>ES (Uo g i) (ix g.e i).c.length) g.e.length=0:=bo h2;refine⟨jb,jb,λi hi=>avI (iR h1 i hi) λk hk hx=>?_,λd hd=>?_⟩
 .grind[iR,Uo]
 .have hD:=iR h d hd;unfold PY at hD;split at hD
  .cases hD
  next d0=>
  split at hD
  .cases hD
  next d1=>
  refine⟨jb,acI d1,λk hk=>?_⟩;have hL:=iR hD k hk;unfold Z9 at hL;dsimp only at hL;split at hL
  .cases hL
  next hr=>
  split at hL
  .cases hL
  next hm=>
  split at hL
  .cases hL
  next hh=>
  have hm:H8 (nG g.d d k) (ix (ix g.d d).l k)=false:=by simpa using hm
  have hh:holdL g.e (ix (ix g.d d).l k)=holdL g.e (ix (ix g.d d).l 0):=bo hh;revert hm hh;generalize hx:ix (ix g.d d).l k=x at*;obtain⟨e,j⟩:=x;dsimp only at hr;intro hm hh;refine⟨e.toNat,j.toNat,?_,jb,jb,hm,hh⟩;rw[ff jb,ff jb]
def OD{α β:Type}[Inhabited α](f:α->List β):∀l:List α,(∀k,k<l.length->(f (ix l k)).Nodup/\∀j,j<k->∀x,x∈f (ix l k)->x∉f (ix l j))->(l.flatMap f).Nodup:=by
 intro l;have key:∀k,k<=l.length->(∀k,k<l.length->(f (ix l k)).Nodup/\∀j,j<k->∀x,x∈f (ix l k)->x∉f (ix l j))->((l.take k).flatMap f).Nodup:=by
  intro k;induction k with
  |zero=>simp
  |succ k ih=>
   intro hk h
   rw[bU jb,cU,gC]
   have hs:[ix l k].flatMap f=f (ix l k):=by simp
   rw[hs]
   refine⟨ih jb h,(h k jb).1,λa ha b hb e=>?_⟩
   subst e
   obtain⟨y,hy,hay⟩:=cF.mp ha
   obtain⟨j,hj,rfl⟩:=aM hy
   grind[fE]
 grind[List.take_length]
def XW{α β:Type}[Inhabited α][Inhabited β](f:α->β){l:List α}{i:Nat}(h:i<l.length):ix (l.map f) i=f (ix l i):=by grind[fE]
section
variable {n i:Nat} {e:BQ}
theorem EZ.prt(h:EZ n i e){k:Nat}(hk:k<e.a.length):∀t∈ix e.a k,∀x∈t,x.k=-1\/0<=x.k/\x.k<e.c.length:=λt ht x hx=>(((h.a k hk).2.2 t ht x hx).1).1
def aiB{α:Type}[Inhabited α]{l:List α}{k:Nat}(h:l.length<=k):ix l k=default:=by grind[ix]
def R3.avJ:(default:R3).q=0:=by rfl
def EZ.amt(h:EZ n i e)(k:Nat):0<=(ix e.c k).a.q:=by
 by_cases hk:k<e.c.length
 .exact(h.c k hk).2.2.1
 .rw[aiB jb];rfl
def Ls{cs:List C5}{k:Nat}{t:dZ}:t∈rkL cs k↔∃r,r<8/\t=EU cs r k:=by grind[rkL]
def Lu(h:EZ n i e):BU (dU e)/\InE e.c.length (dU e):=by
 have hA:∀k,k<e.a.length->yg (λq=>0<=q) e.c.length (sJ e.c (ix e.a k)).2:=λk hk=>acG am5 h.amt λt ht x hx=>((h.a k hk).2.2 t ht x hx).1;refine⟨⟨λt ht p hp=>?_,λp hp t ht q hq=>?_⟩,⟨λt ht p hp=>?_,λp hp t ht q hq=>?_,?_,λi hi=>?_⟩⟩
 .obtain⟨r,-,rfl⟩:=Ls.mp ht;exact(OB (P:=λq=>0<=q) (λi _=>h.amt i) r _ jp p hp).2
 .obtain⟨a,ha,rfl⟩:=cV.mp hp;obtain⟨k,hk,rfl⟩:=aM ha;rw[<-fE hk]at ht;exact(hA k hk t ht q hq).2
 .obtain⟨r,-,rfl⟩:=Ls.mp ht;exact(OB (P:=λq=>0<=q) (λi _=>h.amt i) r _ jp p hp).1
 .obtain⟨a,ha,rfl⟩:=cV.mp hp;obtain⟨k,hk,rfl⟩:=aM ha;rw[<-fE hk]at ht;exact(hA k hk t ht q hq).1
 .show((e.a.map (sJ e.c)).flatMap (·.1)).Nodup;rw[iA];refine OD (λa=>(sJ e.c a).1) e.a λk hk=>⟨aaC (h.prt hk),λj hj x hx hx2=>?_⟩
  have h1:=(yh (h.prt hk)).mp hx;have h2:=(yh (h.prt (by omega:j<e.a.length))).mp hx2;obtain⟨t,ht,hm⟩:=eV.mp h1;obtain⟨y,hy,ey⟩:=eV.mp hm;have ey:y.k=(x:Int):=by grind
  have:=((h.a k hk).2.2 t ht y hy).2 jb;rw[ey]at this;unfold zT at this;rw[List.any_eq_false]at this;refine this (ix e.a j) ?_ h2;rw[<-Uj (l:=e.a) hj];grind[lM]
 .obtain⟨p,hp,hi⟩:=cF.mp hi;obtain⟨a,ha,rfl⟩:=cV.mp hp;obtain⟨k,hk,rfl⟩:=aM ha;rw[<-fE hk]at hi;have h1:=(yh (h.prt hk)).mp hi;have:=uz (h.prt hk) i (qV.mpr ⟨jb,h1⟩);omega
end
def aaF{g:gB}(h:GZ g):Jy g.e.length (aY g):=by
 refine⟨λi hi=>(Lu (h.e i hi)).1,λi hi=>(Lu (h.e i hi)).2,λi c hi hc=>?_,λl hl=>?_,?_,λd hd=>?_⟩
 .have:=((h.e i hi).c c hc).2.2.2;show(ix (ix g.e i).c c).h=-1\/0<=(ix (ix g.e i).c c).h/\(ix (ix g.e i).c c).h<(g.e.length:Int);omega
 .obtain⟨d,hd,hl⟩:=cF.mp hl;obtain⟨d',hd',rfl⟩:=cV.mp hd;obtain⟨j,hj,rfl⟩:=aM hd';obtain⟨x,hx,rfl⟩:=cV.mp hl;rw[<-fE hj]at hx;obtain⟨k,hk,rfl⟩:=aM hx;obtain⟨a,b,e1,h1,h2,-⟩:=(h.l j hj).2.2 k hk;rw[<-fE hk,e1];exact⟨h1,h2⟩
 .show((g.d.map λd=>(d.w.q,d.l.map zL)).flatMap (·.2)).Nodup;rw[iA];have key:∀d,d<g.d.length->∀k,k<(ix g.d d).l.length->∀y∈nG g.d d k,(0<=y.e/\0<=y.k)->zL y≠zL (ix (ix g.d d).l k):=λd hd k hk y hy hn e=>by obtain⟨a,b,e1,h1,h2,h3,-⟩:=(h.l d hd).2.2 k hk;grind[Go.Proofs.Ins.H8,Go.Proofs.Ins.zL]
  have nn:∀d,d<g.d.length->∀y∈(ix g.d d).l,0<=y.e/\0<=y.k:=λd hd y hy=>by obtain⟨k,hk,rfl⟩:=aM hy;obtain⟨a,b,e1,-⟩:=(h.l d hd).2.2 k hk;grind[fE]
  refine OD (λd:wV=>d.l.map zL) g.d λd hd=>⟨?_,λj hj x hx hx2=>?_⟩
  .have:(List.range (ix g.d d).l.length).Pairwise (· < ·):=List.pairwise_lt_range;rw[iS,List.pairwise_map,jn];intro a b ha hb hab;have:=key d hd b hb (ix (ix g.d d).l a) (List.mem_append_right _ ?_) ?_
   .grind[fE]
   .rw[<-Uj (l:=(ix g.d d).l) hab];grind[lM]
   grind[lM]
  .obtain⟨y,hy,rfl⟩:=cV.mp hx;obtain⟨z,hz,e⟩:=cV.mp hx2;obtain⟨k,hk,rfl⟩:=aM hy;rw[<-fE hk]at e;refine key d hd k hk z (iz _ (cF.mpr ⟨ix g.d j,?_,hz⟩)) (nn j jb z hz) e;rw[<-Uj (l:=g.d) hj];grind[lM]
 .obtain⟨d',hd',rfl⟩:=cV.mp hd;obtain⟨j,hj,rfl⟩:=aM hd';rw[<-fE hj];exact(h.l j hj).2.1
end Go.Proofs.Ins
namespace Go.Proofs.Xe
open Go.RowKit Go.Proofs.Ins
def vQ:Rat:=((256^uK:Nat):Rat)
def uQ:Rat:=((256^900:Nat):Rat)
def OE:0<=uQ:=by have:((0:Nat):Rat)<=((256^900:Nat):Rat):=bz.mpr (bj _);exact this
def pow_two{a b c:Nat}(h:a+b=c):256^a*256^b=256^c:=by rw[<-h,eg]
def F7{k:Nat}(h:k<=256^100):(k:Rat)*uQ<=vQ:=by
 unfold uQ vQ;rw[<-fh];refine bz.mpr ?_;calc k*256^900<=256^100*256^900:=bw _ h
  _=256^uK:=pow_two (show 100+900=uK from rfl)
def Rx{k:Nat}(h:k<=256^100):(k:Rat)<=vQ:=by unfold vQ;exact bz.mpr (aw h (bB jj jj))
abbrev IB(A:Nat)(q:Rat):Prop:=eX A q/\0<=q/\q<=uQ
section
variable {A n:Nat} {l:gQ}
def U7{t:dZ}(h:Ag (IB A) n t):aW t<=(t.length:Rat)*uQ:=by
 induction t with
 |nil=>show(0:Rat)<=_;simp
 |cons p t ih=>
  have h1:=ih λq hq=>h q (by simp[hq])
  have h2:=(h p kc).2.2.2
  rw[bX,gp]
  grind[aW]
def NR:∀{l:gQ},yg (IB A) n l->nT l<=(dQ l:Rat)*uQ
 |[],_=>by show(0:Rat)<=((0:Nat):Rat)*uQ;simp
 |t::l,h=>by have h1:=NR (l:=l) λu hu=>h u (by simp[hu]);have h2:=U7 (h t kc);show aW t+nT l<=((t.length+dQ l:Nat):Rat)*uQ;grind
theorem DN:∀{l:gQ},P7 l->0<=nT l
 |[],_=>bh
 |t::l,h=>by have:=DN (l:=l) λu hu=>h u (by simp[hu]);have:=Ba (h t kc);show 0<=aW t+nT l;grind
def aiC:∀{l:gQ}{j:Nat},P7 l->j<l.length->aW (ix l j)<=nT l
 |t::l,0,h,_=>by have:=DN (l:=l) λu hu=>h u (by simp[hu]);show aW t<=aW t+nT l;grind
 |t::l,j+1,h,hj=>by have:=aiC (l:=l) (j:=j) (λu hu=>h u (by simp[hu])) (by simpa using hj);have:=Ba (h t kc);show aW (ix l j)<=aW t+nT l;grind
theorem aaG:∀{l:gQ}(k:Nat),P7 l->0<=BX l k/\BX l k<=nT l
 |[],k,h=>by unfold BX;rw[List.take_nil];exact⟨bh,bh⟩
 |t::l,0,h=>⟨bh,DN h⟩
 |t::l,k+1,h=>by obtain⟨h1,h2⟩:=aaG (l:=l) k λu hu=>h u (by simp[hu]);have:=Ba (h t kc);unfold BX at h1 h2⊢;rw[gh];show 0<=aW t+nT _/\aW t+nT _<=aW t+nT l;grind
end
structure EB(n:Nat)(e:fJ):Prop where
 nb:n<=1000
 r0:0<e.rk.length
 r1:e.rk.length<=1000
 rn:dQ e.rk<=1000
 ps:e.ps.length<=1000
 m:∀p∈e.ps,p.1.length<=1000/\∀i∈p.1,i<n
 p:∀p∈e.ps,0<p.2.length/\p.2.length<=1000/\dQ p.2<=10000
section
variable {A B R D n:Nat} {l:gQ} {m x:Rat}
theorem rQ(hD:Cb D)(hB:B∣D){q:Rat}(h:eX B q)(h0:0<=q)(h1:q<=vQ):Zk D 1 q:=Zk.of hD.1 (h.dvd hB hD.1) h0 h1
theorem vN:2<=256^uK:=aw (by decide:2<=256^1) (bB jj jj)
def EH:∀{l:gQ}{t:dZ},t∈l->t.length<=dQ l
 |u::l,t,h=>by
  unfold dQ;rcases bA.mp h with rfl|h
  .omega
  .have:=EH h;omega
def XY(hD:Cb D)(hA:A∣D)(h:yg (IB A) n l)(hl:l.length<=1000)(hn:dQ l<=10000):Oq D n l:=by
 have hU:=F7 (k:=10000) jj;have hU1:=F7 (k:=1) jj;have hz:∀t∈l,∀p∈t,Zk D 1 p.2:=λt ht p hp=>by have:=(h t ht p hp).2;grind[Go.Proofs.Xe.rQ]
 refine⟨jb,λt ht=>by have:=EH ht;omega,λt ht=>?_,λt ht p hp=>(h t ht p hp).1,λt ht p hp=>(hz t ht p hp).sz hD (by grind[vN]),hz⟩;have h1:=U7 (h t ht);have h2:(t.length:Rat)<=((10000:Nat):Rat):=bz.mpr (by have:=EH ht;omega);have h3:=br h2 OE;refine(rQ hD hA (DK λp hp=>⟨(h t ht p hp).2.1,(h t ht p hp).2.2.1⟩) (Ba λp hp=>(h t ht p hp).2.2.1) kd).sz hD (by grind[vN])
def LC(hA0:0<A)(hD:Cb D)(hA:A∣D)(h:yg (IB A) n l)(hn:dQ l<=10000)(hB:B∣D)(hm:eX B m)(h0:0<=m)(h1:m<=vQ)(hR0:0<R)(hR:R*wL A l m∣D)(hx:eX R x)(hx0:0<=x)(hx1:x<=vQ):Ot D l m x:=by
 have hnn:=h.D.nn;have hR1:R∣D:=bO (aR _ _) hR;have hU:=F7 (k:=10000) jj;have h2:(dQ l:Rat)<=((10000:Nat):Rat):=bz.mpr hn;have h3:=br h2 OE;have ht:=NR h;have hu:=vN;have hzx:=rQ hD hR1 hx hx0 hx1;refine⟨λk _=>?_,h0,hzx.sz hD jb,λhf=>?_,λhf p hp=>?_⟩
 .have hc:=aaG k hnn;exact((rQ hD hB hm h0 h1).sub (rQ hD hA (aix h.D k) hc.1 kd)).sz hD jb
 .have hs:=Ah h0 hf;have:=aiC hnn hf;exact hzx.au0 (rQ hD hA (DK (h.D _ (gy hf))) (et hs) kd) hD jb jb kd
 .have hs:=Ah h0 hf;have hpp:=h.D _ (gy hf) p hp;have hps:p.2<=aW (ix l (dY l m)):=by
   have:∀t:dZ,(∀q∈t,0<=q.2)->p∈t->p.2<=aW t:=λt=>by
    induction t with
    |nil=>simp
    |cons q t ih=>
     intro hq hp
     show p.2<=q.2+aW t
     have h4:=hq q kc
     have h5:0<=aW t:=Ba λr hr=>hq r (by simp[hr])
     grind
   exact this _ (λq hq=>(h.D _ (gy hf) q hq).2) hp
  have e:p.2*(x/aW (ix l (dY l m)))=x*(p.2/aW (ix l (dY l m))):=by grind
  have h4:=Bc hs hps;have h5:=aav hpp.2 hs;have h6:=dp h4 hx0;refine rQ hD hR (aiy hA0 h.D h0 hR0 hx hf hpp.1) ?_ ?_
  .grind[Rat.mul_nonneg]
  grind
def left_le(h0:0<=m)(h:P7 l):0<=jB l m/\jB l m<=m:=by grind[Go.Proofs.Xe.UZ,Go.Proofs.Xe.Oo,Go.Proofs.Xe.aaG]
def asf{l:gQ}(h:P7 l)(c:Int):∀{m:Rat},0<=m->iH l m c<=nT l:=by
 induction l with
 |nil=>intro m _;rfl
 |cons t l ih=>
  intro m hm
  have hl:=DN (l:=l) λu hu=>h u (by simp[hu])
  have h2:=Lc (h t kc) c
  have h3:=Eu (h t kc) c
  unfold iH
  show _<=aW t+nT l
  split
  .next hlt=>
   have h4:=Bc (a:=m) (b:=aW t) kd (et hlt)
   have h5:=dp h4 h3
   grind
  .have:=ih (λu hu=>h u (by simp[hu])) (m:=m-aW t) kd
   grind
def U8{l:gQ}(h:P7 l)(c:Int){x:Rat}(hx:0<=x)(h0:0<=m):jM l m x c<=x:=by
 rw[EC];split
 .next hf=>
  have hs:=Ah h0 hf;have hl:=h _ (gy hf);have e:mF (ix l (dY l m)) c*(x/aW (ix l (dY l m)))=x*(mF (ix l (dY l m)) c/aW (ix l (dY l m))):=by grind
  rw[e];have h4:=Bc hs (Lc hl c);have h6:=dp h4 hx;grind
 omega
end
section
variable {A B D n:Nat} {m:Rat} {e:fJ}
def rU{α:Type}{f:α->Rat}{v:Rat}(h0:0<=v):∀{l:List α}{k:Nat},(∀a∈l,f a<=v)->l.length<=k->aK l f<=(k:Rat)*v
 |[],k,_,_=>by have:((0:Nat):Rat)<=(k:Rat):=bz.mpr (bj _);exact ck this h0
 |a::l,k,h,hk=>by
  obtain⟨k,rfl⟩:∃j,k=j+1:=⟨k-1,by simp at hk;omega⟩
  have h1:=rU h0 (l:=l) (k:=k) (λb hb=>h b (by simp[hb])) (by simpa using hk);have h2:=h a kc;show f a+aK l f<=_;rw[gp];have:((1:Nat):Rat)=1:=rfl;grind
def aiD(h:ED A uQ n e)(hb:EB n e)(h0:0<=m){p:List Nat×gQ}(hp:p∈e.ps):kY e m p<=vQ:=by have ht:=NR h.rk;have h2:(dQ e.rk:Rat)<=((1000:Nat):Rat):=bz.mpr hb.rn;have h3:=br h2 OE;have h4:=rU (f:=Az e m) (v:=((1000:Nat):Rat)*uQ) (ck (bz.mpr (bj 1000)) OE) (l:=p.1) (k:=1000) (λc _=>cQ (asf h.rk.D.nn c h0) (cQ ht h3)) (hb.m p hp).1;have h5:=F7 (k:=1000*1000) jj;grind[kY]
def asg(h:ED A uQ n e)(hb:EB n e)(h0:0<=m){p:List Nat×gQ}(hp:p∈e.ps):sF e m p<=vQ:=by have h4:=rU (f:=rts e m) (v:=1) jj (l:=p.1) (k:=1000) (λc _=>U8 h.rk.D.nn c jj h0) (hb.m p hp).1;have h5:=Rx (k:=1000) jj;grind[sF]
def aiE(hD:Cb D)(hA:A∣D)(h:ED A uQ n e)(hb:EB n e):EOk D n e:=by
 have hn:=hb.nb;have hps:=hb.ps;refine⟨jb,XY hD hA h.rk hb.r1 (by have:=hb.rn;omega),hb.r0,jb,λp hp=>⟨by have:=(hb.m p hp).1;omega,(hb.m p hp).2⟩,λp hp=>⟨XY hD hA (h.ps p hp) (hb.p p hp).2.1 (hb.p p hp).2.2,(hb.p p hp).1⟩,?_⟩;have h1:∀l:List (List Nat×gQ),(∀p∈l,dQ p.2<=10000)->Ir l<=l.length*10000:=λl=>by
  induction l with
  |nil=>intro _;exact cT 0
  |cons p l ih=>
   grind[Ir]
 have h2:=h1 e.ps λp hp=>(hb.p p hp).2.2;have h3:=hb.rn;grind[uK]
def aiF(hA0:0<A)(hB0:0<B)(hAB:A∣B)(hD:Cb D)(hBD:B*BZ A e m∣D)(h:ED A uQ n e)(hb:EB n e)(hm:eX B m)(h0:0<=m)(h1:m<=vQ):MOk D e m:=by
 have hB:B∣D:=bO (aR _ _) hBD;have hA:A∣D:=bO hAB hB;have hr:B*wL A e.rk m∣D:=bO (cL _ (aR _ _)) hBD;have hr0:=cn hB0 (rP hA0 h.rk.D h0);refine⟨(rQ hD hB hm h0 h1).sz hD (by grind[vN]),?_,λp hp=>?_⟩
 .have hl:=left_le h0 h.rk.D.nn;exact LC hA0 hD hA h.rk (by have:=hb.rn;omega) hB hm h0 h1 hB0 hr (aaE hA0 hB0 hAB h.rk.D hm) hl.1 (cQ hl.2 h1)
 .have hg:=nU h.nn h0 p;have hgD:=XU hA0 hB0 hAB h hm h0 p;have hgl:=aiD h hb h0 hp;have hl:=left_le hg (h.ps p hp).D.nn;have hd:B*wL A e.rk m*wL A p.2 (kY e m p)∣D:=by refine bO ?_ hBD;rw[gb];exact cL _ (cL _ (DL A e m hp))
  exact⟨LC hA0 hD hA (h.ps p hp) (hb.p p hp).2.2 hr hgD hg hgl hr0 hd (aaE hA0 hr0 (bO hAB (aR _ _)) (h.ps p hp).D hgD) hl.1 (cQ hl.2 hgl),(rQ hD hr hgD hg hgl).sz hD (by grind[vN])⟩
def aiG(hA0:0<A)(hB0:0<B)(hAB:A∣B)(hD:Cb D)(hBD:B*BZ A e m∣D)(h:ED A uQ n e)(hb:EB n e)(hm:eX B m)(h0:0<=m)(h1:m<=vQ):ROk D e m:=by
 have hB:B∣D:=bO (aR _ _) hBD;have hA:A∣D:=bO hAB hB;have hr:B*wL A e.rk m∣D:=bO (cL _ (aR _ _)) hBD;have hr0:=rP hA0 h.rk.D h0;have hr1:wL A e.rk m∣D:=bO (gR _ _) hr;have h1v:=Rx (k:=1) jj;refine⟨?_,λp hp=>?_⟩
 .exact LC (R:=1) hA0 hD hA h.rk (by have:=hb.rn;omega) hB hm h0 h1 jj kd ⟨1,by grind⟩ jj h1v
 .have hg:=nU h.nn h0 p;have hgD:=XU hA0 hB0 hAB h hm h0 p;have hgl:=aiD h hb h0 hp;have hR:=Js h.nn h0 p;have hRD:=acH hA0 h h0 p;have hRl:=asg h hb h0 hp;have hd:wL A e.rk m*wL A p.2 (kY e m p)∣D:=by refine bO ?_ (bO (gR _ _) hBD);exact cL _ (DL A e m hp)
  exact⟨LC hA0 hD hA (h.ps p hp) (hb.p p hp).2.2 hr hgD hg hgl hr0 hd hRD hR hRl,(rQ hD hr1 hRD hR hRl).sz hD (by grind[vN])⟩
end
section
variable {E:Env} [aaf E] {p:Nat→Prop} {σ:St} {K:V→St→Prop}
def XZ{v:B}{a:iy}(ha:fC p σ.h v a)(h1:a.length<=1000000)(h2:a.flatten.length<=1000000){v':V}{σ':St}(hm:ahA a.flatten σ=some (v',σ')):aC E 181 [.c v] σ K=K v' σ':=
 Q5 (by have h:=(amm ha h1 h2).trans hm;unfold Xm;rw[abW rfl];unfold amo ahD;simp only[Nat.reduceEqDiff,reduceIte,h])
def Ry{v:B}{a:iy}(ha:fC p σ.h v a)(h1:a.length<=1000000)(h2:a.flatten.length<=1000000){v':V}{σ':St}(hm:ahz (wI a) σ=some (v',σ')):aC E 140 [.agg [v]] σ K=K v' σ':=
 Q5 (by have h:=(aml ha h1 h2).trans hm;unfold Xm;rw[abW rfl];unfold amo ahD;simp only[Nat.reduceEqDiff,reduceIte,h])
end
def Rz{E:Env}[aaf E]{σ:St}(hW:WF σ){p:Nat->Prop}{v:B}{a:iy}(ha:fC p σ.h v a)(h1:a.length<=1000000)(h2:a.flatten.length<=1000000):
  aC E 140 [.agg [v]] σ λr σ'=>(∃u,r=.c u/\Ad σ'.h u (wI a).length (λi=>[.int .i64 (ix (wI a) i)]) 1 3 σ.aj σ'.aj)/\Fr σ σ':=by
 by_cases h0:(wI a).length=0
 .rw[Ry ha h1 h2 (v':=.c .aX) (σ':=σ) (ab h0)]
  exact⟨⟨_,rfl,.inl ⟨h0,rfl⟩⟩,Fr.refl hW⟩
 .rw[Ry ha h1 h2 (ae h0)]
  exact⟨⟨_,rfl,.inr ⟨jb,_,rfl,aA _ _ _,jp,ce _⟩⟩,fr⟩
def am6{a:iy}{n:Nat}(ha:∀t∈a,∀x∈t,x.k=-1\/0<=x.k/\x.k<n){i:Nat}(hi:i<(wI a).length):B.int .i64 (ix (wI a) i)=P8 (lZ a) i:=by unfold P8 lZ;rw[XW Int.toNat hi];have:=uz ha _ (lM hi);grind
def OG(a:iy):(lZ a).length=(wI a).length:=de _
structure TS(σ:St)(tb bs:Nat)(t:dZ):Prop where
 b:σ.h tb=some ⟨jP (aS t.length bs) (aW t),none⟩
 o:Oy σ.h bs t
 lo:tb<bs
 hi:t.length=0\/bs<σ.aj
def TS.lt{σ:St}(hW:WF σ){tb bs:Nat}{t:dZ}(h:TS σ tb bs t):tb<σ.aj:=hW.lt h.b
def TS.on{σ σ':St}{tb bs:Nat}{t:dZ}(h:TS σ tb bs t)(h1:∀b,tb<=b->b<σ.aj->σ'.h b=σ.h b)(hW:WF σ)(hle:σ.aj<=σ'.aj):TS σ' tb bs t:=by have h0:=h.lt hW;have hlo:=h.lo;have hhi:=h.hi;refine⟨by rw[h1 tb jp h0];exact h.b,?_,hlo,jb⟩;refine(wF ?_).trans h.o;grind
theorem TS.fr{σ σ':St}{tb bs:Nat}{t:dZ}(h:TS σ tb bs t)(hW:WF σ)(hf:Fr σ σ'):TS σ' tb bs t:=h.on (λb _ hb=>hf.old b hb) hW hf.le
def TS.fre{σ σ':St}{ex:List Nat}{tb bs:Nat}{t:dZ}(h:TS σ tb bs t)(hW:WF σ)(hf:aU ex σ σ')(hx:∀b∈ex,b<tb):TS σ' tb bs t:=h.on (λb h1 h2=>hf.old b h2 λhm=>by grind) hW hf.le
def aaH{σ:St}(hW:WF σ){tb bs:Nat}{t:dZ}(hT:TS σ tb bs t)(hl:t.length<=1000000)(k:Int)(q:Rat)(hs:Sz (aW t))(hq:Sz q):
  aC EN 142 [.c (.ptr tb 0),.c (.int .i64 k),.agg [.bool (rn q),.str (rs q),.str (rd q)]] σ λ_ σ'=>(∃bs',TS σ' tb bs' (t++[(k,q)]))/\(∀b,b<tb->σ'.h b=σ.h b)/\WF σ'/\σ.aj<=σ'.aj:=by
 have h0:=hT.lo
 have hlt:=hT.lt hW
 have:=ais (G:=λ_=>jP (aS t.length bs) (aW t)) (n:=1) (r:=0) hW (by rw[hT.b];rfl) jj (λ_=>rfl) rfl rfl rfl hT.o (.inr jb) hT.hi hl k q hs hq
 refine this.mono ?_
 rintro _ σ' ⟨nx,h1,h2,h3,h4,h5⟩
 have hle:=h5.le
 refine⟨⟨nx,?_,?_,jb,.inr h2⟩,λb hb=>h5.old b jb kd,h5.wf,hle⟩
 .rw[h3,Ru,aD];rfl
 .unfold Oy
  rw[aD,cf]
  show σ'.h nx=some _
  grind[Go.Proofs.Xe.l9,Go.Proofs.Xe.dh,Go.Proofs.Xe.jk,Go.Proofs.Xe.gX,Go.Proofs.Xe.gW]
def am7(U:Nat->B)(Lf:Nat->dZ)(p:Nat->Prop)(h:Tr Bk)(i:Nat):Prop:=aZ p h 4 (U i) (Lf i).length λc=>Aa (ix (Lf i) c)
def X0(U:Nat->B)(Lf:Nat->dZ)(i:Nat):List B:=jP (U i) (aW (Lf i))
abbrev aaI(U:Nat->B)(Lf:Nat->dZ)(h:Tr Bk)(b n lo hi:Nat):Prop:=NF (am7 U Lf) h b n (X0 U Lf) 4 199 lo hi
def U9(U:Nat->B)(Lf:Nat->dZ)(j:Nat):QK (am7 U Lf) j:=λ_ _ _ _ hp hk hq=>aZ.keep hp hk hq
def Va(U:Nat->B)(Lf:Nat->dZ):LG (X0 U Lf) 4:=λ_=>rfl
section
variable {U:Nat→B} {Lf:Nat→dZ} {h h' : Tr Bk} {b n lo hi:Nat}
def aaI.push(ho:aaI U Lf h b n lo hi){σ1:St}(hW:WF σ1){tb bs nx n':Nat}{t:dZ}(hL:Lf n=t)(hT:TS σ1 tb bs t)(ht:hi<=tb)(h5:lo<=hi)(hh:∀b,lo<=b->b<hi->σ1.h b=h b)(h3:σ1.aj<=nx)(h4:nx<n')
  (hb:h' nx=some ⟨bJ n (X0 U Lf)++jP (aS t.length bs) (aW t),some (4,199)⟩) (hk:∀c,lo<=c->c<σ1.aj->n=0\/c≠b->h' c=σ1.h c):aaI (aN U n (aS t.length bs)) Lf h' nx (n+1) lo n':=by
 have hlt:=hT.lt hW
 have hlo:=hT.lo
 have hx:aZ (λb=>hi<=b/\b<σ1.aj) σ1.h 4 (aS t.length bs) t.length λj=>Aa (ix t j):=hT.o.hlp (by rcases hT.hi with h0|h0;exact .inl h0;omega)
 refine NF.push ho (λj _=>U9 _ Lf j) (λj hj p h hq=>?_) (hi1:=σ1.aj) (h1:=σ1.h) ?_ hh jb h3 h4 h5 hb ?_ hk (λi hi=>?_) (Va _ _)
 .grind[am7,aQ]
 .grind[am7,aP]
 .grind[X0,aP]
 grind[X0,aQ]
def aaI.ash(ho:aaI U Lf h b n lo hi){l:gQ}(hl:l.length=n)(hL:∀i,i<n->Lf i=ix l i):yP (λb=>lo<=b/\b<hi) h (aS n b) l:=by
 have hel:=λi (hi:i<n)=>ho.el (λj _=>U9 U Lf j) hi;refine⟨U,?_,by cases n<;>trivial,λi hi=>?_⟩
 .rw[hl];refine(ho.hlp jj (λi hi=>?_) λb h1 h2=>⟨h1,h2⟩).congr λi hi=>by grind[X0]
  unfold X0 jP;simp only[cW,eC,AQ,FW,(hel i hi).kn,eo]
 .rw[hl]at hi;rw[<-hL i hi];exact hel i hi
end
def lsS(cs:List C5)(a:iy)(j:Nat):(Nat->Rat)×gQ:=(a.take j).foldl ltS ((λi:Nat=>(ix cs i).a.q),[])
def Bj(f:Nat->Rat)(t:Kz)(l:Nat):(Nat->Rat)×dZ:=(t.take l).foldl lpS (f,[])
theorem OH{cs:List C5}{a:iy}{j:Nat}(h:j<a.length):lsS cs a (j+1)=ltS (lsS cs a j) (ix a j):=by grind[lsS,bU]
def IC(cs:List C5)(a:iy):lsS cs a a.length=lsA cs a:=by grind[lsS,lsA]
def Bl(cs:List C5)(a:iy):∀j,j<=a.length->(lsS cs a j).2.length=j
 |0,_=>rfl
 |j+1,h=>by rw[OH jb];unfold ltS;rw[aD,Bl cs a j jb];rfl
def aaJ{α:Type}[Inhabited α]{l:List α}{x:α}{n:Nat}(h:l.length=n):ix (l++[x]) n=x:=by grind[gX]
def oZ(m k:Nat)(F:Nat->Rat):bY m (aN (λi=>if i<k then F i else 0) k (F k))=bY m λi=>if i<k+1 then F i else 0:=dH λi _=>by grind[aN]
def wM(m:Nat)(F:Nat->Rat):bY m (λi=>if i<m then F i else 0)=bY m F:=dH λi hi=>ab hi
def uP(m:Nat)(F:Nat->Rat):bY m (λ_=>0)=bY m λi=>if i<0 then F i else 0:=dH λi _=>rfl
def aiH{s:(Nat->Rat)×dZ}{x:AV}{kk:Nat}(h1:¬x.k=-1)(hk:x.k=Int.ofNat kk):lpS s x=(aN s.1 kk (s.1 kk-if x.b=true then jO (s.1 kk) x.a.q else s.1 kk),s.2++[(Int.ofNat kk,if x.b=true then jO (s.1 kk) x.a.q else s.1 kk)]):=by unfold lpS;rw[ae h1,hk];refine Prod.ext ?_ rfl;grind[aN]
def Vb{cs:List C5}{a:iy}{i:Nat}:∀{j},i<j->j<=a.length->ix (lsS cs a j).2 i=(Bj (lsS cs a i).1 (ix a i) (ix a i).length).2
 |j+1,hi,hj=>by
  rw[OH jb];unfold ltS;by_cases e:i=j
  .subst e;have:=Bl cs a i jb;exact(aaJ this).trans (by unfold Bj;rw[cC])
  .show ix ((lsS cs a j).2++[_]) i=_;rw[gW _ _ (by rw[Bl cs a j jb];omega)];exact Vb jb jb
def X3{f:Nat->Rat}{t:Kz}{l:Nat}(h:l<t.length):Bj f t (l+1)=lpS (Bj f t l) (ix t l):=by grind[Bj,bU]
def LH(f:Nat->Rat)(t:Kz):∀l,l<=t.length->(Bj f t l).2.length=l
 |0,_=>rfl
 |l+1,h=>by rw[X3 jb];unfold lpS;split<;>simp[LH f t l jb]
def aiI{cs:List C5}{a:iy}{j:Nat}(h:j<a.length):(lsS cs a (j+1)).1=(Bj (lsS cs a j).1 (ix a j) (ix a j).length).1:=by grind[OH,ltS,Bj]
def aeS(ms:List Nat)(f:Nat->Rat){i:Nat}(h:i<ms.length):zD (ms.take (i+1)) f=zD (ms.take i) f++[(((ix ms i:Nat):Int),f (ix ms i))]:=by grind[zD,bU]
def aiJ:∀{l:List Int}{lo hi:Int},l.Pairwise (· < ·)->(∀x∈l,lo<=x/\x<hi)->l.length<=(hi-lo).toNat
 |[],_,_,_,_=>bj _
 |a::l,lo,hi,hp,h=>by
  rw[List.pairwise_cons]at hp;have h1:=h a kc;have:=aiJ (lo:=a+1) (hi:=hi) hp.2 λx hx=>by grind
  grind
def F8{a:iy}{n:Nat}(ha:∀t∈a,∀x∈t,x.k=-1\/0<=x.k/\x.k<n):(lZ a).length<=n:=by have:=aiJ (abS a) (uz ha);rw[OG];omega
theorem LJ(cs:List C5)(r:Nat):∀k,(EU cs r k).length<=k
 |0=>cT 0
 |k+1=>by have:=LJ cs r k;unfold EU;rw[aD];split<;>simp<;>omega
section
variable {A n:Nat}
def asi(hA:0<A):P9 (IB A) where
 min:=λa b ha hb=>by grind[jO]
 sub:=λa b ha hb=>by
  have h1:=ha.2;have h2:=hb.2;unfold jO;split
  .grind[eX.zero]
  .exact⟨ha.1.sub hb.1,by grind,by grind⟩
 zero:=⟨eX.zero A,bh,OE⟩
def OI(hA:Cb A){q:Rat}(h:IB A q):Sz q:=by have hU:=F7 (k:=1) jj;have:((1:Nat):Rat)=1:=rfl;exact(rQ hA (gS A) h.1 h.2.1 kd).sz hA (by grind[vN])
def Vd(hA:Cb A){t:dZ}(h:Ag (IB A) n t)(hl:t.length<=10000):Sz (aW t):=by have hU:=F7 (k:=10000) jj;have h1:=U7 h;have h2:(t.length:Rat)<=((10000:Nat):Rat):=bz.mpr hl;have h3:=br h2 OE;exact(rQ hA (gS A) (DK λp hp=>⟨(h p hp).2.1,(h p hp).2.2.1⟩) (Ba λp hp=>(h p hp).2.2.1) kd).sz hA (by grind[vN])
def asj{P:Rat->Prop}(hP:P9 P){f:Nat->Rat}(hf:∀i,P (f i)){t:Kz}(ht:∀x∈t,Qa P n x)(l:Nat):(∀i,P ((Bj f t l).1 i))/\Ag P n (Bj f t l).2:=
 aaA hP (t.take l) hf (λ_ h=>by cases h) λx hx=>ht x (eA hx)
def asl{P:Rat->Prop}(hP:P9 P){cs:List C5}(hc:∀i,P (ix cs i).a.q){a:iy}(ha:∀t∈a,∀x∈t,Qa P n x)(j:Nat)(i:Nat):P ((lsS cs a j).1 i):=
 (aaB hP (a.take j) hc (λ_ h=>by cases h) λt ht=>ha t (eA ht)).1 i
end
def asn(p q:Rat):Ji p q=jO p q:=by
 unfold Ji jO;by_cases h:p<=q
 .rw[ab h,ab (wC.mpr h)]
 .rw[ae h,ae λe=>h (wC.mp e)]
structure aiK(A:Nat)(cs:List C5)(a:iy):Prop where
 nc:cs.length<=1000
 na:a.length<=1000
 nt:∀t,t<a.length->(ix a t).length<=1000
 nf:a.flatten.length<=1000000
 fc:∀i,i<cs.length->(ix cs i).a.fits 1000000
 fp:∀t,t<a.length->∀l,l<(ix a t).length->(ix (ix a t) l).a.fits 1000000
 c:∀i,IB A (ix cs i).a.q
 p:∀t∈a,∀x∈t,Qa (IB A) cs.length x
end Go.Proofs.Xe
