import Derived.Test.YtchhojplceoifaaGreatDoorYa22
set_option linter.all false
namespace Go.Proofs.Xe
open Go.RowKit Go.Proofs.Ins
def eX(D:Nat)(q:Rat):Prop:=∃a:Int,q=(a:Rat)/(D:Rat)
theorem iI{D:Nat}(h:0<D):(D:Rat)≠0:=λe=>by simp_all
section
variable {A B D:Nat} {p q x s:Rat}
theorem eX.zero(D:Nat):eX D 0:=⟨0,by grind⟩
theorem eX.add(h:eX D p)(h':eX D q):eX D (p+q):=by obtain⟨a,rfl⟩:=h;obtain⟨b,rfl⟩:=h';exact⟨a+b,by grind⟩
def eX.neg(h:eX D p):eX D (-p):=by obtain⟨a,rfl⟩:=h;exact⟨-a,by grind⟩
def eX.sub(h:eX D p)(h':eX D q):eX D (p-q):=by rw[jt];exact h.add h'.neg
def eX.up(h:eX A p){k:Nat}(hk:0<k):eX (A*k) p:=by
 obtain⟨a,rfl⟩:=h;refine⟨a*k,?_⟩;have h1:=iI hk;have e2:((a*(k:Int):Int):Rat)=(a:Rat)*(k:Rat):=by rw[df];rfl
 grind
def eX.dvd(h:eX A p)(hd:A∣B)(hB:0<B):eX B p:=by obtain⟨k,rfl⟩:=hd;exact h.up (fq λe=>by grind)
theorem eX.sum{α:Type}{f:α->Rat}:∀{l:List α},(∀a∈l,eX D (f a))->eX D (aK l f)
 |[],_=>eX.zero D
 |a::l,h=>(h a kc).add (eX.sum λb hb=>h b (by simp[hb]))
def nuA(A:Nat)(s:Rat):Nat:=(s*A).num.natAbs
def UR(hA:0<A)(hs:eX A s)(h0:0<s):s=(nuA A s:Rat)/(A:Rat)/\0<nuA A s:=by
 obtain⟨u,rfl⟩:=hs;have hA:=iI hA;have e:(u:Rat)/(A:Rat)*(A:Rat)=(u:Rat):=by grind
 unfold nuA;rw[e,Rat.num_intCast];have hu:0<u:=by
  have h1:(0:Rat)<=(A:Rat):=by grind
  have h2:=Rat.mul_pos h0 (show(0:Rat)<(A:Rat) by grind);rw[e]at h2;exact Rat.intCast_pos.mp h2
 have e2:((u.natAbs:Nat):Rat)=(u:Rat):=by
  have:((u.natAbs:Int):Rat)=(u:Rat):=by grind
  exact this
 grind
def eX.share(hA:0<A)(hB:0<B)(hp:eX A p)(hx:eX B x)(hs:eX A s)(h0:0<s):eX (B*nuA A s) (p*(x/s)):=by obtain⟨e,hn⟩:=UR hA hs h0;obtain⟨c,rfl⟩:=hp;obtain⟨z,rfl⟩:=hx;generalize nuA A s=n at*;refine⟨c*z,?_⟩;grind
def Zk.of(hD:0<D)(h:eX D q)(h1:0<=q)(h2:q<=((256^uK:Nat):Rat)):Zk D 1 q:=by
 obtain⟨a,rfl⟩:=h;refine⟨a,rfl,?_⟩;have hD':=iI hD;have h3:(0:Rat)<(D:Rat):=by grind
 have e:(a:Rat)/(D:Rat)*(D:Rat)=(a:Rat):=by grind
 have h4:=br h2 (eo h3);have h5:=ck h1 (eo h3);rw[e]at h4 h5;rw[<-fg]at h4;have h4:((a:Int):Rat)<=(((256^uK*D:Nat):Int):Rat):=h4;have h4:=gi.mp h4;have h5:=Rat.intCast_nonneg.mp h5;grind
end
def wK(A:Nat)(l:gU)(m:Rat):Nat:=if dY l m<l.length then nuA A (aX (ix l (dY l m)))else 1
def Kv(A:Nat)(l:gU):Prop:=∀t∈l,∀p∈t,eX A p.2/\0<=p.2
section
variable {A B:Nat} {l:gU} {m:Rat}
def Dz{t:dZ}(h:∀p∈t,eX A p.2/\0<=p.2):eX A (aX t):=by
 induction t with
 |nil=>exact eX.zero A
 |cons p t ih=>exact(h p kc).1.add (ih λq hq=>h q (by simp[hq]))
def aau{t:dZ}(h:∀p∈t,eX A p.2/\0<=p.2)(c:Int):eX A (l9 t c):=by
 induction t with
 |nil=>exact eX.zero A
 |cons p t ih=>
  refine eX.add ?_ (ih λq hq=>h q (by simp[hq]))
  grind[eX.zero]
def Kv.nn(h:Kv A l):PV l:=λt ht p hp=>(h t ht p hp).2
def ait(h:Kv A l)(k:Nat):eX A (BN l k):=by
 unfold BN;have:∀l:gU,Kv A l->eX A (nR l):=λl=>by
  induction l with
  |nil=>intro _;exact eX.zero A
  |cons t l ih=>intro h;exact(Dz (h t kc)).add (ih λu hu=>h u (by simp[hu]))
 exact this _ λt ht=>h t (et ht)
def ar1(h:Kv A l)(c:Int):eX A (Ig l c):=by
 induction l with
 |nil=>exact eX.zero A
 |cons t l ih=>exact(aau (h t kc) c).add (ih λu hu=>h u (by simp[hu]))
def Ad(hm:0<=m)(hf:dY l m<l.length):0<aX (ix l (dY l m)):=by have:=UL l m hm;grind
def rM(hA:0<A)(h:Kv A l)(hm:0<=m):0<wK A l m:=by
 unfold wK;split
 .next hf=>exact(UR hA (Dz (h _ (gy hf))) (Ad hm hf)).2
 .omega
def aav(hA:0<A)(hB:0<B)(hd:A∣B)(h:Kv A l)(hm:eX B m):eX B (jB l m):=by rw[Oh];exact hm.sub ((ait h _).dvd hd hB)
def aiu(hA:0<A)(h:Kv A l)(h0:0<=m){R:Nat}(hR:0<R){x:Rat}(hx:eX R x)(hf:dY l m<l.length){q:Rat}(hq:eX A q):eX (R*wK A l m) (q*(x/aX (ix l (dY l m)))):=by unfold wK;rw[ab hf];exact eX.share hA hR hq hx (Dz (h _ (gy hf))) (Ad h0 hf)
def aoY(hA:0<A)(hB:0<B)(hd:A∣B)(h:Kv A l)(hm:eX B m)(h0:0<=m)(c:Int):eX (B*wK A l m) (iH l m c):=by
 have hc:=rM hA h h0;rw[Jl];refine eX.add ((ar1 (λt ht=>h t (et ht)) c).dvd (bO hd (aR _ _)) (cw hB hc)) ?_;split
 .next hf=>exact aiu hA h h0 hB (aav hA hB hd h hm) hf (aau (h _ (gy hf)) c)
 .exact eX.zero _
def aoZ(hA:0<A)(h:Kv A l)(h0:0<=m){R:Nat}(hR:0<R){x:Rat}(hx:eX R x)(c:Int):eX (R*wK A l m) (jM l m x c):=by
 rw[En];split
 .next hf=>exact aiu hA h h0 hR hx hf (aau (h _ (gy hf)) c)
 .exact eX.zero _
end
def aeM(A:Nat)(e:fH)(x:Rat):List (List Nat×gU)->Nat
 |[]=>1
 |p::l=>wK A p.2 (kX e x p)*aeM A e x l
def BO(A:Nat)(e:fH)(x:Rat):Nat:=wK A e.rk x*aeM A e x e.ps
structure ED(A:Nat)(U:Rat)(n:Nat)(e:fH):Prop where
 rk:xZ (λq=>eX A q/\0<=q/\q<=U) n e.rk
 ps:∀p∈e.ps,xZ (λq=>eX A q/\0<=q/\q<=U) n p.2
section
variable {A B n:Nat} {U m:Rat} {e:fH}
def _root_.Go.Proofs.Ins.xZ.D{l:gU}(h:xZ (λq=>eX A q/\0<=q/\q<=U) n l):Kv A l:=λt ht p hp=>⟨(h t ht p hp).2.1,(h t ht p hp).2.2.1⟩
def ED.nn(h:ED A U n e):BM e:=⟨h.rk.D.nn,λp hp=>(h.ps p hp).D.nn⟩
def ao0(hA:0<A)(hB:0<B)(hd:A∣B)(h:ED A U n e)(hm:eX B m)(h0:0<=m)(c:Nat):eX (B*wK A e.rk m) (Ap e m c):=aoY hA hB hd h.rk.D hm h0 _
def ao1(hA:0<A)(h:ED A U n e)(h0:0<=m)(c:Nat):eX (wK A e.rk m) (rts e m c):=by have:=aoZ (R:=1) hA h.rk.D h0 jj (x:=1) ⟨1,by grind⟩ c;rwa[Nat.one_mul]at this
def XO(hA:0<A)(hB:0<B)(hd:A∣B)(h:ED A U n e)(hm:eX B m)(h0:0<=m)(p:List Nat×gU):eX (B*wK A e.rk m) (kX e m p):=eX.sum λc _=>ao0 hA hB hd h hm h0 c
def acA(hA:0<A)(h:ED A U n e)(h0:0<=m)(p:List Nat×gU):eX (wK A e.rk m) (su e m p):=eX.sum λc _=>ao1 hA h h0 c
def DC(A:Nat)(e:fH)(x:Rat):∀{l:List (List Nat×gU)}{p:List Nat×gU},p∈l->wK A p.2 (kX e x p)∣aeM A e x l
 |q::l,p,h=>by
  rcases bA.mp h with rfl|h
  .exact aR _ _
  .exact bO (DC A e x h) (gR _ _)
def XP(hA:0<A)(h:ED A U n e)(h0:0<=m):∀{l:List (List Nat×gU)},(∀p∈l,p∈e.ps)->0<aeM A e m l
 |[],_=>Nat.zero_lt_one
 |p::l,hl=>cw (rM hA (h.ps p (hl p kc)).D (nS h.nn h0 p)) (XP hA h h0 λq hq=>hl q (by simp[hq]))
def Io(hA:0<A)(h:ED A U n e)(h0:0<=m):0<BO A e m:=cw (rM hA h.rk.D h0) (XP hA h h0 λ_ h=>h)
def aiv(hA:0<A)(hB:0<B)(hd:A∣B)(h:ED A U n e)(hm:eX B m)(h0:0<=m)(c:Nat):eX (B*BO A e m) (tX e m c):=by
 have hp:=cw hB (Io hA h h0);have hp1:=cw hB (rM hA h.rk.D h0);unfold tX;refine eX.add ?_ (eX.sum λp hp'=>?_)
 .split
  .exact eX.zero _
  .exact(ao0 hA hB hd h hm h0 c).dvd (cK _ (aR _ _)) hp
 .refine(aoY hA hp1 (bO hd (aR _ _)) (h.ps p hp').D (XO hA hB hd h hm h0 p) (nS h.nn h0 p) c).dvd ?_ hp;rw[gb];exact cK _ (cK _ (DC A e m hp'))
def aiw(hA:0<A)(h:ED A U n e)(h0:0<=m)(c:Nat):eX (BO A e m) (xX e m c):=by
 have hp:=Io hA h h0;unfold xX;refine eX.add ?_ (eX.sum λp hp'=>?_)
 .split
  .exact eX.zero _
  .exact(ao1 hA h h0 c).dvd (aR _ _) hp
 .exact(aoZ hA (h.ps p hp').D (nS h.nn h0 p) (rM hA h.rk.D h0) (acA hA h h0 p) c).dvd (cK _ (DC A e m hp')) hp
end
end Go.Proofs.Xe
namespace Go.Proofs.Ins
def zH(l:Lg):fK:=(l.e.toNat,l.k.toNat)
def aZ(g:gB):GL:=⟨λi=>dU (ix g.e i),λi=>(ix g.e i).c.length,λi c=>(ix (ix g.e i).c c).h,g.d.map λd=>(d.w.q,d.l.map zH)⟩
theorem acB{q:Rat}(h:¬sg q<0):0<=q:=by grind[sg]
def am0:PX (λq=>0<=q) where
 min:=λa b ha hb=>by grind[jO]
 sub:=λa b ha hb=>by grind[jO]
 zero:=bh
structure EZ(n:Nat)(i:Nat)(e:BK):Prop where
 nc:e.c.length<=24
 na:e.a.length<=12
 m:0<=e.m.q
 c:∀k,k<e.c.length->0<=(ix e.c k).r/\(ix e.c k).r<=7/\0<=(ix e.c k).a.q/\((ix e.c k).h=-1\/0<=(ix e.c k).h/\(ix e.c k).h<n/\(ix e.c k).h≠i)
 a:∀k,k<e.a.length->(ix e.a k).length<=24/\(∀t,t<(ix e.a k).length->(ix (ix e.a k) t).length<=24)/\∀t∈ix e.a k,∀x∈t,PY (λq=>0<=q) e.c.length x/\(x.k≠-1->zN e.a k x.k=false)
def avv{e:BK}{n i:Nat}(h:Kt e=0)(hh:∀k,k<e.c.length->¬((n:Int)<=(ix e.c k).h\/(ix e.c k).h=(i:Int))):EZ n i e:=by
 unfold Kt at h;split at h
 .cases h
 next h0=>
 split at h
 .cases h
 next h1=>
 split at h
 .omega
 next h2=>
 have h2:F9 (λi=>Ue (ix e.c i)) e.c.length=0:=bo h2;refine⟨jb,jb,acB h1,λk hk=>?_,λk hk=>?_⟩
 .grind[iR,Ue,acB]
 .have ha:=iR h k hk;unfold WX at ha;split at ha
  .cases ha
  next hl=>
  have hl:=CX.mp (by simpa using hl);refine⟨hl.1,hl.2,λt ht x hx=>?_⟩;obtain⟨j,hj,rfl⟩:=aM ht;obtain⟨p,hp,rfl⟩:=aM hx;have hT:=iR ha j hj;unfold arq at hT;rw[fD hj]at hT;have hP:=iR hT p hp;rw[fD hp]at hP;generalize (ix e.a k)[j][p]=x at*;unfold ZU at hP;split at hP
  .cases hP
  next c1=>
  split at hP
  .cases hP
  next c2=>
  split at hP
  .cases hP
  next c3=>
  split at hP
  .cases hP
  next c4=>
  refine⟨⟨jb,λhq=>?_⟩,λhn=>by grind⟩;grind[acB]
structure GZ(g:gB):Prop where
 ne:g.e.length<=8
 nd:g.d.length<=16
 e:∀i,i<g.e.length->EZ g.e.length i (ix g.e i)
 l:∀d,d<g.d.length->(ix g.d d).l.length<=8/\0<=(ix g.d d).w.q/\∀k,k<(ix g.d d).l.length->∃e j:Nat,ix (ix g.d d).l k=⟨(e:Int),(j:Int)⟩/\e<g.e.length/\j<(ix g.e e).c.length/\Hr (ni g.d d k) (ix (ix g.d d).l k)=false/\holdL g.e (ix (ix g.d d).l k)=holdL g.e (ix (ix g.d d).l 0)
def Ox{g:gB}(h:PO g=0):GZ g:=by
 unfold PO at h;split at h
 .cases h
 next h0=>
 split at h
 .omega
 next h1=>
 split at h
 .omega
 next h2=>
 have h1:F9 (λi=>Kt (ix g.e i)) g.e.length=0:=bo h1;have h2:F9 (λi=>F9 (WY g i) (ix g.e i).c.length) g.e.length=0:=bo h2;refine⟨jb,jb,λi hi=>avv (iR h1 i hi) λk hk hx=>?_,λd hd=>?_⟩
 .grind[iR,WY]
 .have hD:=iR h d hd;unfold Uf at hD;split at hD
  .cases hD
  next d0=>
  split at hD
  .cases hD
  next d1=>
  refine⟨jb,acB d1,λk hk=>?_⟩;have hL:=iR hD k hk;unfold aej at hL;dsimp only at hL;split at hL
  .cases hL
  next hr=>
  split at hL
  .cases hL
  next hm=>
  split at hL
  .cases hL
  next hh=>
  have hm:Hr (ni g.d d k) (ix (ix g.d d).l k)=false:=by simpa using hm
  have hh:holdL g.e (ix (ix g.d d).l k)=holdL g.e (ix (ix g.d d).l 0):=bo hh;revert hm hh;generalize hx:ix (ix g.d d).l k=x at*;obtain⟨e,j⟩:=x;dsimp only at hr;intro hm hh;refine⟨e.toNat,j.toNat,?_,jb,jb,hm,hh⟩;rw[fM jb,fM jb]
def Oy{α β:Type}[Inhabited α](f:α->List β):∀l:List α,(∀k,k<l.length->(f (ix l k)).Nodup/\∀j,j<k->∀x,x∈f (ix l k)->x∉f (ix l j))->(l.flatMap f).Nodup:=by
 intro l;have key:∀k,k<=l.length->(∀k,k<l.length->(f (ix l k)).Nodup/\∀j,j<k->∀x,x∈f (ix l k)->x∉f (ix l j))->((l.take k).flatMap f).Nodup:=by
  intro k;induction k with
  |zero=>simp
  |succ k ih=>
   intro hk h
   rw[bP jb,cU,gC]
   have hs:[ix l k].flatMap f=f (ix l k):=by simp
   rw[hs]
   refine⟨ih jb h,(h k jb).1,λa ha b hb e=>?_⟩
   subst e
   obtain⟨y,hy,hay⟩:=cF.mp ha
   obtain⟨j,hj,rfl⟩:=aM hy
   grind[fD]
 grind[List.take_length]
def XQ{α β:Type}[Inhabited α][Inhabited β](f:α->β){l:List α}{i:Nat}(h:i<l.length):ix (l.map f) i=f (ix l i):=by grind[fD]
section
variable {n i:Nat} {e:BK}
theorem EZ.prt(h:EZ n i e){k:Nat}(hk:k<e.a.length):∀t∈ix e.a k,∀x∈t,x.k=-1\/0<=x.k/\x.k<e.c.length:=λt ht x hx=>(((h.a k hk).2.2 t ht x hx).1).1
def aix{α:Type}[Inhabited α]{l:List α}{k:Nat}(h:l.length<=k):ix l k=default:=by grind[ix]
def R3.avw:(default:R3).q=0:=by rfl
def EZ.amt(h:EZ n i e)(k:Nat):0<=(ix e.c k).a.q:=by
 by_cases hk:k<e.c.length
 .exact(h.c k hk).2.2.1
 .rw[aix jb];rfl
def Lp{cs:List C5}{k:Nat}{t:dZ}:t∈rkL cs k↔∃r,r<8/\t=EH cs r k:=by grind[rkL]
def Lr(h:EZ n i e):BM (dU e)/\InE e.c.length (dU e):=by
 have hA:∀k,k<e.a.length->xZ (λq=>0<=q) e.c.length (sF e.c (ix e.a k)).2:=λk hk=>acz am0 h.amt λt ht x hx=>((h.a k hk).2.2 t ht x hx).1;refine⟨⟨λt ht p hp=>?_,λp hp t ht q hq=>?_⟩,⟨λt ht p hp=>?_,λp hp t ht q hq=>?_,?_,λi hi=>?_⟩⟩
 .obtain⟨r,-,rfl⟩:=Lp.mp ht;exact(Ov (P:=λq=>0<=q) (λi _=>h.amt i) r _ jp p hp).2
 .obtain⟨a,ha,rfl⟩:=cV.mp hp;obtain⟨k,hk,rfl⟩:=aM ha;rw[<-fD hk]at ht;exact(hA k hk t ht q hq).2
 .obtain⟨r,-,rfl⟩:=Lp.mp ht;exact(Ov (P:=λq=>0<=q) (λi _=>h.amt i) r _ jp p hp).1
 .obtain⟨a,ha,rfl⟩:=cV.mp hp;obtain⟨k,hk,rfl⟩:=aM ha;rw[<-fD hk]at ht;exact(hA k hk t ht q hq).1
 .show((e.a.map (sF e.c)).flatMap (·.1)).Nodup;rw[iA];refine Oy (λa=>(sF e.c a).1) e.a λk hk=>⟨aat (h.prt hk),λj hj x hx hx2=>?_⟩
  have h1:=(x9 (h.prt hk)).mp hx;have h2:=(x9 (h.prt (by omega:j<e.a.length))).mp hx2;obtain⟨t,ht,hm⟩:=eQ.mp h1;obtain⟨y,hy,ey⟩:=eQ.mp hm;have ey:y.k=(x:Int):=by grind
  have:=((h.a k hk).2.2 t ht y hy).2 jb;rw[ey]at this;unfold zN at this;rw[List.any_eq_false]at this;refine this (ix e.a j) ?_ h2;rw[<-Ua (l:=e.a) hj];grind[lM]
 .obtain⟨p,hp,hi⟩:=cF.mp hi;obtain⟨a,ha,rfl⟩:=cV.mp hp;obtain⟨k,hk,rfl⟩:=aM ha;rw[<-fD hk]at hi;have h1:=(x9 (h.prt hk)).mp hi;have:=uy (h.prt hk) i (qQ.mpr ⟨jb,h1⟩);omega
end
def aaw{g:gB}(h:GZ g):Jp g.e.length (aZ g):=by
 refine⟨λi hi=>(Lr (h.e i hi)).1,λi hi=>(Lr (h.e i hi)).2,λi c hi hc=>?_,λl hl=>?_,?_,λd hd=>?_⟩
 .have:=((h.e i hi).c c hc).2.2.2;show(ix (ix g.e i).c c).h=-1\/0<=(ix (ix g.e i).c c).h/\(ix (ix g.e i).c c).h<(g.e.length:Int);omega
 .obtain⟨d,hd,hl⟩:=cF.mp hl;obtain⟨d',hd',rfl⟩:=cV.mp hd;obtain⟨j,hj,rfl⟩:=aM hd';obtain⟨x,hx,rfl⟩:=cV.mp hl;rw[<-fD hj]at hx;obtain⟨k,hk,rfl⟩:=aM hx;obtain⟨a,b,e1,h1,h2,-⟩:=(h.l j hj).2.2 k hk;rw[<-fD hk,e1];exact⟨h1,h2⟩
 .show((g.d.map λd=>(d.w.q,d.l.map zH)).flatMap (·.2)).Nodup;rw[iA];have key:∀d,d<g.d.length->∀k,k<(ix g.d d).l.length->∀y∈ni g.d d k,(0<=y.e/\0<=y.k)->zH y≠zH (ix (ix g.d d).l k):=λd hd k hk y hy hn e=>by obtain⟨a,b,e1,h1,h2,h3,-⟩:=(h.l d hd).2.2 k hk;grind[Go.Proofs.Ins.Hr,Go.Proofs.Ins.zH]
  have nn:∀d,d<g.d.length->∀y∈(ix g.d d).l,0<=y.e/\0<=y.k:=λd hd y hy=>by obtain⟨k,hk,rfl⟩:=aM hy;obtain⟨a,b,e1,-⟩:=(h.l d hd).2.2 k hk;grind[fD]
  refine Oy (λd:yu=>d.l.map zH) g.d λd hd=>⟨?_,λj hj x hx hx2=>?_⟩
  .have:(List.range (ix g.d d).l.length).Pairwise (· < ·):=List.pairwise_lt_range;rw[iS,List.pairwise_map,jn];intro a b ha hb hab;have:=key d hd b hb (ix (ix g.d d).l a) (List.mem_append_right _ ?_) ?_
   .grind[fD]
   .rw[<-Ua (l:=(ix g.d d).l) hab];grind[lM]
   grind[lM]
  .obtain⟨y,hy,rfl⟩:=cV.mp hx;obtain⟨z,hz,e⟩:=cV.mp hx2;obtain⟨k,hk,rfl⟩:=aM hy;rw[<-fD hk]at e;refine key d hd k hk z (iz _ (cF.mpr ⟨ix g.d j,?_,hz⟩)) (nn j jb z hz) e;rw[<-Ua (l:=g.d) hj];grind[lM]
 .obtain⟨d',hd',rfl⟩:=cV.mp hd;obtain⟨j,hj,rfl⟩:=aM hd';rw[<-fD hj];exact(h.l j hj).2.1
end Go.Proofs.Ins
namespace Go.Proofs.Xe
open Go.RowKit Go.Proofs.Ins
def vQ:Rat:=((256^uK:Nat):Rat)
def uQ:Rat:=((256^900:Nat):Rat)
def Oz:0<=uQ:=by have:((0:Nat):Rat)<=((256^900:Nat):Rat):=bz.mpr (bj _);exact this
def pow_two{a b c:Nat}(h:a+b=c):256^a*256^b=256^c:=by rw[<-h,eg]
def FQ{k:Nat}(h:k<=256^100):(k:Rat)*uQ<=vQ:=by
 unfold uQ vQ;rw[<-fg];refine bz.mpr ?_;calc k*256^900<=256^100*256^900:=bw _ h
  _=256^uK:=pow_two (show 100+900=uK from rfl)
def Rj{k:Nat}(h:k<=256^100):(k:Rat)<=vQ:=by unfold vQ;exact bz.mpr (aw h (bB jj jj))
abbrev Ip(A:Nat)(q:Rat):Prop:=eX A q/\0<=q/\q<=uQ
section
variable {A n:Nat} {l:gU}
def UU{t:dZ}(h:Ac (Ip A) n t):aX t<=(t.length:Rat)*uQ:=by
 induction t with
 |nil=>show(0:Rat)<=_;simp
 |cons p t ih=>
  have h1:=ih λq hq=>h q (by simp[hq])
  have h2:=(h p kc).2.2.2
  rw[bX,gp]
  grind[aX]
def NJ:∀{l:gU},xZ (Ip A) n l->nR l<=(dQ l:Rat)*uQ
 |[],_=>by show(0:Rat)<=((0:Nat):Rat)*uQ;simp
 |t::l,h=>by have h1:=NJ (l:=l) λu hu=>h u (by simp[hu]);have h2:=UU (h t kc);show aX t+nR l<=((t.length+dQ l:Nat):Rat)*uQ;grind
theorem DF:∀{l:gU},PV l->0<=nR l
 |[],_=>bh
 |t::l,h=>by have:=DF (l:=l) λu hu=>h u (by simp[hu]);have:=AU (h t kc);show 0<=aX t+nR l;grind
def aiy:∀{l:gU}{j:Nat},PV l->j<l.length->aX (ix l j)<=nR l
 |t::l,0,h,_=>by have:=DF (l:=l) λu hu=>h u (by simp[hu]);show aX t<=aX t+nR l;grind
 |t::l,j+1,h,hj=>by have:=aiy (l:=l) (j:=j) (λu hu=>h u (by simp[hu])) (by simpa using hj);have:=AU (h t kc);show aX (ix l j)<=aX t+nR l;grind
theorem aax:∀{l:gU}(k:Nat),PV l->0<=BN l k/\BN l k<=nR l
 |[],k,h=>by unfold BN;rw[List.take_nil];exact⟨bh,bh⟩
 |t::l,0,h=>⟨bh,DF h⟩
 |t::l,k+1,h=>by obtain⟨h1,h2⟩:=aax (l:=l) k λu hu=>h u (by simp[hu]);have:=AU (h t kc);unfold BN at h1 h2⊢;rw[gh];show 0<=aX t+nR _/\aX t+nR _<=aX t+nR l;grind
end
structure EB(n:Nat)(e:fH):Prop where
 nb:n<=1000
 r0:0<e.rk.length
 r1:e.rk.length<=1000
 rn:dQ e.rk<=1000
 ps:e.ps.length<=1000
 m:∀p∈e.ps,p.1.length<=1000/\∀i∈p.1,i<n
 p:∀p∈e.ps,0<p.2.length/\p.2.length<=1000/\dQ p.2<=10000
section
variable {A B R D n:Nat} {l:gU} {m x:Rat}
theorem rO(hD:BR D)(hB:B∣D){q:Rat}(h:eX B q)(h0:0<=q)(h1:q<=vQ):Zk D 1 q:=Zk.of hD.1 (h.dvd hB hD.1) h0 h1
theorem vO:2<=256^uK:=aw (by decide:2<=256^1) (bB jj jj)
def Ep:∀{l:gU}{t:dZ},t∈l->t.length<=dQ l
 |u::l,t,h=>by
  unfold dQ;rcases bA.mp h with rfl|h
  .omega
  .have:=Ep h;omega
def XR(hD:BR D)(hA:A∣D)(h:xZ (Ip A) n l)(hl:l.length<=1000)(hn:dQ l<=10000):Oi D n l:=by
 have hU:=FQ (k:=10000) jj;have hU1:=FQ (k:=1) jj;have hz:∀t∈l,∀p∈t,Zk D 1 p.2:=λt ht p hp=>by have:=(h t ht p hp).2;grind[Go.Proofs.Xe.rO]
 refine⟨jb,λt ht=>by have:=Ep ht;omega,λt ht=>?_,λt ht p hp=>(h t ht p hp).1,λt ht p hp=>(hz t ht p hp).sz hD (by grind[vO]),hz⟩;have h1:=UU (h t ht);have h2:(t.length:Rat)<=((10000:Nat):Rat):=bz.mpr (by have:=Ep ht;omega);have h3:=br h2 Oz;refine(rO hD hA (Dz λp hp=>⟨(h t ht p hp).2.1,(h t ht p hp).2.2.1⟩) (AU λp hp=>(h t ht p hp).2.2.1) kd).sz hD (by grind[vO])
def Ls(hA0:0<A)(hD:BR D)(hA:A∣D)(h:xZ (Ip A) n l)(hn:dQ l<=10000)(hB:B∣D)(hm:eX B m)(h0:0<=m)(h1:m<=vQ)(hR0:0<R)(hR:R*wK A l m∣D)(hx:eX R x)(hx0:0<=x)(hx1:x<=vQ):Oj D l m x:=by
 have hnn:=h.D.nn;have hR1:R∣D:=bO (aR _ _) hR;have hU:=FQ (k:=10000) jj;have h2:(dQ l:Rat)<=((10000:Nat):Rat):=bz.mpr hn;have h3:=br h2 Oz;have ht:=NJ h;have hu:=vO;have hzx:=rO hD hR1 hx hx0 hx1;refine⟨λk _=>?_,h0,hzx.sz hD jb,λhf=>?_,λhf p hp=>?_⟩
 .have hc:=aax k hnn;exact((rO hD hB hm h0 h1).sub (rO hD hA (ait h.D k) hc.1 kd)).sz hD jb
 .have hs:=Ad h0 hf;have:=aiy hnn hf;exact hzx.auO (rO hD hA (Dz (h.D _ (gy hf))) (eo hs) kd) hD jb jb kd
 .have hs:=Ad h0 hf;have hpp:=h.D _ (gy hf) p hp;have hps:p.2<=aX (ix l (dY l m)):=by
   have:∀t:dZ,(∀q∈t,0<=q.2)->p∈t->p.2<=aX t:=λt=>by
    induction t with
    |nil=>simp
    |cons q t ih=>
     intro hq hp
     show p.2<=q.2+aX t
     have h4:=hq q kc
     have h5:0<=aX t:=AU λr hr=>hq r (by simp[hr])
     grind
   exact this _ (λq hq=>(h.D _ (gy hf) q hq).2) hp
  have e:p.2*(x/aX (ix l (dY l m)))=x*(p.2/aX (ix l (dY l m))):=by grind
  have h4:=AV hs hps;have h5:=aam hpp.2 hs;have h6:=dp h4 hx0;refine rO hD hR (aiu hA0 h.D h0 hR0 hx hf hpp.1) ?_ ?_
  .grind[Rat.mul_nonneg]
  grind
def left_le(h0:0<=m)(h:PV l):0<=jB l m/\jB l m<=m:=by grind[Go.Proofs.Xe.UL,Go.Proofs.Xe.Oh,Go.Proofs.Xe.aax]
def ar2{l:gU}(h:PV l)(c:Int):∀{m:Rat},0<=m->iH l m c<=nR l:=by
 induction l with
 |nil=>intro m _;rfl
 |cons t l ih=>
  intro m hm
  have hl:=DF (l:=l) λu hu=>h u (by simp[hu])
  have h2:=KZ (h t kc) c
  have h3:=Eh (h t kc) c
  unfold iH
  show _<=aX t+nR l
  split
  .next hlt=>
   have h4:=AV (a:=m) (b:=aX t) kd (eo hlt)
   have h5:=dp h4 h3
   grind
  .have:=ih (λu hu=>h u (by simp[hu])) (m:=m-aX t) kd
   grind
def UW{l:gU}(h:PV l)(c:Int){x:Rat}(hx:0<=x)(h0:0<=m):jM l m x c<=x:=by
 rw[En];split
 .next hf=>
  have hs:=Ad h0 hf;have hl:=h _ (gy hf);have e:l9 (ix l (dY l m)) c*(x/aX (ix l (dY l m)))=x*(l9 (ix l (dY l m)) c/aX (ix l (dY l m))):=by grind
  rw[e];have h4:=AV hs (KZ hl c);have h6:=dp h4 hx;grind
 omega
end
section
variable {A B D n:Nat} {m:Rat} {e:fH}
def rP{α:Type}{f:α->Rat}{v:Rat}(h0:0<=v):∀{l:List α}{k:Nat},(∀a∈l,f a<=v)->l.length<=k->aK l f<=(k:Rat)*v
 |[],k,_,_=>by have:((0:Nat):Rat)<=(k:Rat):=bz.mpr (bj _);exact ck this h0
 |a::l,k,h,hk=>by
  obtain⟨k,rfl⟩:∃j,k=j+1:=⟨k-1,by simp at hk;omega⟩
  have h1:=rP h0 (l:=l) (k:=k) (λb hb=>h b (by simp[hb])) (by simpa using hk);have h2:=h a kc;show f a+aK l f<=_;rw[gp];have:((1:Nat):Rat)=1:=rfl;grind
def aiz(h:ED A uQ n e)(hb:EB n e)(h0:0<=m){p:List Nat×gU}(hp:p∈e.ps):kX e m p<=vQ:=by have ht:=NJ h.rk;have h2:(dQ e.rk:Rat)<=((1000:Nat):Rat):=bz.mpr hb.rn;have h3:=br h2 Oz;have h4:=rP (f:=Ap e m) (v:=((1000:Nat):Rat)*uQ) (ck (bz.mpr (bj 1000)) Oz) (l:=p.1) (k:=1000) (λc _=>cQ (ar2 h.rk.D.nn c h0) (cQ ht h3)) (hb.m p hp).1;have h5:=FQ (k:=1000*1000) jj;grind[kX]
def ar4(h:ED A uQ n e)(hb:EB n e)(h0:0<=m){p:List Nat×gU}(hp:p∈e.ps):su e m p<=vQ:=by have h4:=rP (f:=rts e m) (v:=1) jj (l:=p.1) (k:=1000) (λc _=>UW h.rk.D.nn c jj h0) (hb.m p hp).1;have h5:=Rj (k:=1000) jj;grind[su]
def aiA(hD:BR D)(hA:A∣D)(h:ED A uQ n e)(hb:EB n e):EOk D n e:=by
 have hn:=hb.nb;have hps:=hb.ps;refine⟨jb,XR hD hA h.rk hb.r1 (by have:=hb.rn;omega),hb.r0,jb,λp hp=>⟨by have:=(hb.m p hp).1;omega,(hb.m p hp).2⟩,λp hp=>⟨XR hD hA (h.ps p hp) (hb.p p hp).2.1 (hb.p p hp).2.2,(hb.p p hp).1⟩,?_⟩;have h1:∀l:List (List Nat×gU),(∀p∈l,dQ p.2<=10000)->Ii l<=l.length*10000:=λl=>by
  induction l with
  |nil=>intro _;exact cT 0
  |cons p l ih=>
   grind[Ii]
 have h2:=h1 e.ps λp hp=>(hb.p p hp).2.2;have h3:=hb.rn;grind[uK]
def aiB(hA0:0<A)(hB0:0<B)(hAB:A∣B)(hD:BR D)(hBD:B*BO A e m∣D)(h:ED A uQ n e)(hb:EB n e)(hm:eX B m)(h0:0<=m)(h1:m<=vQ):MOk D e m:=by
 have hB:B∣D:=bO (aR _ _) hBD;have hA:A∣D:=bO hAB hB;have hr:B*wK A e.rk m∣D:=bO (cK _ (aR _ _)) hBD;have hr0:=cw hB0 (rM hA0 h.rk.D h0);refine⟨(rO hD hB hm h0 h1).sz hD (by grind[vO]),?_,λp hp=>?_⟩
 .have hl:=left_le h0 h.rk.D.nn;exact Ls hA0 hD hA h.rk (by have:=hb.rn;omega) hB hm h0 h1 hB0 hr (aav hA0 hB0 hAB h.rk.D hm) hl.1 (cQ hl.2 h1)
 .have hg:=nS h.nn h0 p;have hgD:=XO hA0 hB0 hAB h hm h0 p;have hgl:=aiz h hb h0 hp;have hl:=left_le hg (h.ps p hp).D.nn;have hd:B*wK A e.rk m*wK A p.2 (kX e m p)∣D:=by refine bO ?_ hBD;rw[gb];exact cK _ (cK _ (DC A e m hp))
  exact⟨Ls hA0 hD hA (h.ps p hp) (hb.p p hp).2.2 hr hgD hg hgl hr0 hd (aav hA0 hr0 (bO hAB (aR _ _)) (h.ps p hp).D hgD) hl.1 (cQ hl.2 hgl),(rO hD hr hgD hg hgl).sz hD (by grind[vO])⟩
def aiC(hA0:0<A)(hB0:0<B)(hAB:A∣B)(hD:BR D)(hBD:B*BO A e m∣D)(h:ED A uQ n e)(hb:EB n e)(hm:eX B m)(h0:0<=m)(h1:m<=vQ):ROk D e m:=by
 have hB:B∣D:=bO (aR _ _) hBD;have hA:A∣D:=bO hAB hB;have hr:B*wK A e.rk m∣D:=bO (cK _ (aR _ _)) hBD;have hr0:=rM hA0 h.rk.D h0;have hr1:wK A e.rk m∣D:=bO (gR _ _) hr;have h1v:=Rj (k:=1) jj;refine⟨?_,λp hp=>?_⟩
 .exact Ls (R:=1) hA0 hD hA h.rk (by have:=hb.rn;omega) hB hm h0 h1 jj kd ⟨1,by grind⟩ jj h1v
 .have hg:=nS h.nn h0 p;have hgD:=XO hA0 hB0 hAB h hm h0 p;have hgl:=aiz h hb h0 hp;have hR:=Jj h.nn h0 p;have hRD:=acA hA0 h h0 p;have hRl:=ar4 h hb h0 hp;have hd:wK A e.rk m*wK A p.2 (kX e m p)∣D:=by refine bO ?_ (bO (gR _ _) hBD);exact cK _ (DC A e m hp)
  exact⟨Ls hA0 hD hA (h.ps p hp) (hb.p p hp).2.2 hr hgD hg hgl hr0 hd hRD hR hRl,(rO hD hr1 hRD hR hRl).sz hD (by grind[vO])⟩
end
section
variable {E:Env} [ZY E] {p:Nat→Prop} {σ:St} {K:V→St→Prop}
def XT{v:B}{a:iG}(ha:fA p σ.h v a)(h1:a.length<=1000000)(h2:a.flatten.length<=1000000){v':V}{σ':St}(hm:ahx a.flatten σ=some (v',σ')):aC E 181 [.c v] σ K=K v' σ':=
 QN (by have h:=(amh ha h1 h2).trans hm;unfold Xh;rw[abP rfl];unfold amj ahA;simp only[Nat.reduceEqDiff,reduceIte,h])
def Rk{v:B}{a:iG}(ha:fA p σ.h v a)(h1:a.length<=1000000)(h2:a.flatten.length<=1000000){v':V}{σ':St}(hm:ahw (wH a) σ=some (v',σ')):aC E 140 [.agg [v]] σ K=K v' σ':=
 QN (by have h:=(amg ha h1 h2).trans hm;unfold Xh;rw[abP rfl];unfold amj ahA;simp only[Nat.reduceEqDiff,reduceIte,h])
end
def Rl{E:Env}[ZY E]{σ:St}(hW:WF σ){p:Nat->Prop}{v:B}{a:iG}(ha:fA p σ.h v a)(h1:a.length<=1000000)(h2:a.flatten.length<=1000000):
  aC E 140 [.agg [v]] σ λr σ'=>(∃u,r=.c u/\zZ σ'.h u (wH a).length (λi=>[.int .i64 (ix (wH a) i)]) 1 3 σ.aj σ'.aj)/\Fr σ σ':=by
 by_cases h0:(wH a).length=0
 .rw[Rk ha h1 h2 (v':=.c .aW) (σ':=σ) (ab h0)]
  exact⟨⟨_,rfl,.inl ⟨h0,rfl⟩⟩,Fr.refl hW⟩
 .rw[Rk ha h1 h2 (ae h0)]
  exact⟨⟨_,rfl,.inr ⟨jb,_,rfl,aA _ _ _,jp,ce _⟩⟩,fr⟩
def am1{a:iG}{n:Nat}(ha:∀t∈a,∀x∈t,x.k=-1\/0<=x.k/\x.k<n){i:Nat}(hi:i<(wH a).length):B.int .i64 (ix (wH a) i)=PW (lY a) i:=by unfold PW lY;rw[XQ Int.toNat hi];have:=uy ha _ (lM hi);grind
def OA(a:iG):(lY a).length=(wH a).length:=de _
structure TS(σ:St)(tb bs:Nat)(t:dZ):Prop where
 b:σ.h tb=some ⟨jP (aS t.length bs) (aX t),none⟩
 o:Oq σ.h bs t
 lo:tb<bs
 hi:t.length=0\/bs<σ.aj
def TS.lt{σ:St}(hW:WF σ){tb bs:Nat}{t:dZ}(h:TS σ tb bs t):tb<σ.aj:=hW.lt h.b
def TS.on{σ σ':St}{tb bs:Nat}{t:dZ}(h:TS σ tb bs t)(h1:∀b,tb<=b->b<σ.aj->σ'.h b=σ.h b)(hW:WF σ)(hle:σ.aj<=σ'.aj):TS σ' tb bs t:=by have h0:=h.lt hW;have hlo:=h.lo;have hhi:=h.hi;refine⟨by rw[h1 tb jp h0];exact h.b,?_,hlo,jb⟩;refine(wF ?_).trans h.o;grind
theorem TS.fr{σ σ':St}{tb bs:Nat}{t:dZ}(h:TS σ tb bs t)(hW:WF σ)(hf:Fr σ σ'):TS σ' tb bs t:=h.on (λb _ hb=>hf.old b hb) hW hf.le
def TS.fre{σ σ':St}{ex:List Nat}{tb bs:Nat}{t:dZ}(h:TS σ tb bs t)(hW:WF σ)(hf:aU ex σ σ')(hx:∀b∈ex,b<tb):TS σ' tb bs t:=h.on (λb h1 h2=>hf.old b h2 λhm=>by grind) hW hf.le
def aay{σ:St}(hW:WF σ){tb bs:Nat}{t:dZ}(hT:TS σ tb bs t)(hl:t.length<=1000000)(k:Int)(q:Rat)(hs:Sz (aX t))(hq:Sz q):
  aC EN 142 [.c (.ptr tb 0),.c (.int .i64 k),.agg [.bool (rn q),.str (rs q),.str (rd q)]] σ λ_ σ'=>(∃bs',TS σ' tb bs' (t++[(k,q)]))/\(∀b,b<tb->σ'.h b=σ.h b)/\WF σ'/\σ.aj<=σ'.aj:=by
 have h0:=hT.lo
 have hlt:=hT.lt hW
 have:=aio (G:=λ_=>jP (aS t.length bs) (aX t)) (n:=1) (r:=0) hW (by rw[hT.b];rfl) jj (λ_=>rfl) rfl rfl rfl hT.o (.inr jb) hT.hi hl k q hs hq
 refine this.mono ?_
 rintro _ σ' ⟨nx,h1,h2,h3,h4,h5⟩
 have hle:=h5.le
 refine⟨⟨nx,?_,?_,jb,.inr h2⟩,λb hb=>h5.old b jb kd,h5.wf,hle⟩
 .rw[h3,Rh,aD];rfl
 .unfold Oq
  rw[aD,cf]
  show σ'.h nx=some _
  grind[Go.Proofs.Xe.l7,Go.Proofs.Xe.dA,Go.Proofs.Xe.jm,Go.Proofs.Xe.gY,Go.Proofs.Xe.gX]
def am2(U:Nat->B)(Lf:Nat->dZ)(p:Nat->Prop)(h:Tr Bk)(i:Nat):Prop:=aY p h 4 (U i) (Lf i).length λc=>zX (ix (Lf i) c)
def XU(U:Nat->B)(Lf:Nat->dZ)(i:Nat):List B:=jP (U i) (aX (Lf i))
abbrev aaz(U:Nat->B)(Lf:Nat->dZ)(h:Tr Bk)(b n lo hi:Nat):Prop:=NF (am2 U Lf) h b n (XU U Lf) 4 199 lo hi
def UY(U:Nat->B)(Lf:Nat->dZ)(j:Nat):QK (am2 U Lf) j:=λ_ _ _ _ hp hk hq=>aY.keep hp hk hq
def UZ(U:Nat->B)(Lf:Nat->dZ):LG (XU U Lf) 4:=λ_=>rfl
section
variable {U:Nat→B} {Lf:Nat→dZ} {h h' : Tr Bk} {b n lo hi:Nat}
def aaz.push(ho:aaz U Lf h b n lo hi){σ1:St}(hW:WF σ1){tb bs nx n':Nat}{t:dZ}(hL:Lf n=t)(hT:TS σ1 tb bs t)(ht:hi<=tb)(h5:lo<=hi)(hh:∀b,lo<=b->b<hi->σ1.h b=h b)(h3:σ1.aj<=nx)(h4:nx<n')
  (hb:h' nx=some ⟨bV n (XU U Lf)++jP (aS t.length bs) (aX t),some (4,199)⟩) (hk:∀c,lo<=c->c<σ1.aj->n=0\/c≠b->h' c=σ1.h c):aaz (aN U n (aS t.length bs)) Lf h' nx (n+1) lo n':=by
 have hlt:=hT.lt hW
 have hlo:=hT.lo
 have hx:aY (λb=>hi<=b/\b<σ1.aj) σ1.h 4 (aS t.length bs) t.length λj=>zX (ix t j):=hT.o.hlp (by rcases hT.hi with h0|h0;exact .inl h0;omega)
 refine NF.push ho (λj _=>UY _ Lf j) (λj hj p h hq=>?_) (hi1:=σ1.aj) (h1:=σ1.h) ?_ hh jb h3 h4 h5 hb ?_ hk (λi hi=>?_) (UZ _ _)
 .grind[am2,aQ]
 .grind[am2,aP]
 .grind[XU,aP]
 grind[XU,aQ]
def aaz.ar5(ho:aaz U Lf h b n lo hi){l:gU}(hl:l.length=n)(hL:∀i,i<n->Lf i=ix l i):yM (λb=>lo<=b/\b<hi) h (aS n b) l:=by
 have hel:=λi (hi:i<n)=>ho.el (λj _=>UY U Lf j) hi;refine⟨U,?_,by cases n<;>trivial,λi hi=>?_⟩
 .rw[hl];refine(ho.hlp jj (λi hi=>?_) λb h1 h2=>⟨h1,h2⟩).congr λi hi=>by grind[XU]
  unfold XU jP;simp only[cW,eA,Aw,FD,(hel i hi).kn,eh]
 .rw[hl]at hi;rw[<-hL i hi];exact hel i hi
end
def lsS(cs:List C5)(a:iG)(j:Nat):(Nat->Rat)×gU:=(a.take j).foldl ltS ((λi:Nat=>(ix cs i).a.q),[])
def Bc(f:Nat->Rat)(t:Kr)(l:Nat):(Nat->Rat)×dZ:=(t.take l).foldl lpS (f,[])
theorem OB{cs:List C5}{a:iG}{j:Nat}(h:j<a.length):lsS cs a (j+1)=ltS (lsS cs a j) (ix a j):=by grind[lsS,bP]
def Iq(cs:List C5)(a:iG):lsS cs a a.length=lsA cs a:=by grind[lsS,lsA]
def Bd(cs:List C5)(a:iG):∀j,j<=a.length->(lsS cs a j).2.length=j
 |0,_=>rfl
 |j+1,h=>by rw[OB jb];unfold ltS;rw[aD,Bd cs a j jb];rfl
def aaA{α:Type}[Inhabited α]{l:List α}{x:α}{n:Nat}(h:l.length=n):ix (l++[x]) n=x:=by grind[gY]
def oV(m k:Nat)(F:Nat->Rat):bZ m (aN (λi=>if i<k then F i else 0) k (F k))=bZ m λi=>if i<k+1 then F i else 0:=dH λi _=>by grind[aN]
def wL(m:Nat)(F:Nat->Rat):bZ m (λi=>if i<m then F i else 0)=bZ m F:=dH λi hi=>ab hi
def uP(m:Nat)(F:Nat->Rat):bZ m (λ_=>0)=bZ m λi=>if i<0 then F i else 0:=dH λi _=>rfl
def aiD{s:(Nat->Rat)×dZ}{x:AB}{kk:Nat}(h1:¬x.k=-1)(hk:x.k=Int.ofNat kk):lpS s x=(aN s.1 kk (s.1 kk-if x.b=true then jO (s.1 kk) x.a.q else s.1 kk),s.2++[(Int.ofNat kk,if x.b=true then jO (s.1 kk) x.a.q else s.1 kk)]):=by unfold lpS;rw[ae h1,hk];refine Prod.ext ?_ rfl;grind[aN]
def U2{cs:List C5}{a:iG}{i:Nat}:∀{j},i<j->j<=a.length->ix (lsS cs a j).2 i=(Bc (lsS cs a i).1 (ix a i) (ix a i).length).2
 |j+1,hi,hj=>by
  rw[OB jb];unfold ltS;by_cases e:i=j
  .subst e;have:=Bd cs a i jb;exact(aaA this).trans (by unfold Bc;rw[cC])
  .show ix ((lsS cs a j).2++[_]) i=_;rw[gX _ _ (by rw[Bd cs a j jb];omega)];exact U2 jb jb
def XV{f:Nat->Rat}{t:Kr}{l:Nat}(h:l<t.length):Bc f t (l+1)=lpS (Bc f t l) (ix t l):=by grind[Bc,bP]
def Lu(f:Nat->Rat)(t:Kr):∀l,l<=t.length->(Bc f t l).2.length=l
 |0,_=>rfl
 |l+1,h=>by rw[XV jb];unfold lpS;split<;>simp[Lu f t l jb]
def aiE{cs:List C5}{a:iG}{j:Nat}(h:j<a.length):(lsS cs a (j+1)).1=(Bc (lsS cs a j).1 (ix a j) (ix a j).length).1:=by grind[OB,ltS,Bc]
def aeN(ms:List Nat)(f:Nat->Rat){i:Nat}(h:i<ms.length):zk (ms.take (i+1)) f=zk (ms.take i) f++[(((ix ms i:Nat):Int),f (ix ms i))]:=by grind[zk,bP]
def aiF:∀{l:List Int}{lo hi:Int},l.Pairwise (· < ·)->(∀x∈l,lo<=x/\x<hi)->l.length<=(hi-lo).toNat
 |[],_,_,_,_=>bj _
 |a::l,lo,hi,hp,h=>by
  rw[List.pairwise_cons]at hp;have h1:=h a kc;have:=aiF (lo:=a+1) (hi:=hi) hp.2 λx hx=>by grind
  grind
def FT{a:iG}{n:Nat}(ha:∀t∈a,∀x∈t,x.k=-1\/0<=x.k/\x.k<n):(lY a).length<=n:=by have:=aiF (abL a) (uy ha);rw[OA];omega
theorem LC(cs:List C5)(r:Nat):∀k,(EH cs r k).length<=k
 |0=>cT 0
 |k+1=>by have:=LC cs r k;unfold EH;rw[aD];split<;>simp<;>omega
section
variable {A n:Nat}
def ar6(hA:0<A):PX (Ip A) where
 min:=λa b ha hb=>by grind[jO]
 sub:=λa b ha hb=>by
  have h1:=ha.2;have h2:=hb.2;unfold jO;split
  .grind[eX.zero]
  .exact⟨ha.1.sub hb.1,by grind,by grind⟩
 zero:=⟨eX.zero A,bh,Oz⟩
def OC(hA:BR A){q:Rat}(h:Ip A q):Sz q:=by have hU:=FQ (k:=1) jj;have:((1:Nat):Rat)=1:=rfl;exact(rO hA (gS A) h.1 h.2.1 kd).sz hA (by grind[vO])
def U3(hA:BR A){t:dZ}(h:Ac (Ip A) n t)(hl:t.length<=10000):Sz (aX t):=by have hU:=FQ (k:=10000) jj;have h1:=UU h;have h2:(t.length:Rat)<=((10000:Nat):Rat):=bz.mpr hl;have h3:=br h2 Oz;exact(rO hA (gS A) (Dz λp hp=>⟨(h p hp).2.1,(h p hp).2.2.1⟩) (AU λp hp=>(h p hp).2.2.1) kd).sz hA (by grind[vO])
def ar7{P:Rat->Prop}(hP:PX P){f:Nat->Rat}(hf:∀i,P (f i)){t:Kr}(ht:∀x∈t,PY P n x)(l:Nat):(∀i,P ((Bc f t l).1 i))/\Ac P n (Bc f t l).2:=
 aar hP (t.take l) hf (λ_ h=>by cases h) λx hx=>ht x (et hx)
def ar8{P:Rat->Prop}(hP:PX P){cs:List C5}(hc:∀i,P (ix cs i).a.q){a:iG}(ha:∀t∈a,∀x∈t,PY P n x)(j:Nat)(i:Nat):P ((lsS cs a j).1 i):=
 (aas hP (a.take j) hc (λ_ h=>by cases h) λt ht=>ha t (et ht)).1 i
end
def asa(p q:Rat):Ja p q=jO p q:=by
 unfold Ja jO;by_cases h:p<=q
 .rw[ab h,ab (wC.mpr h)]
 .rw[ae h,ae λe=>h (wC.mp e)]
structure aiG(A:Nat)(cs:List C5)(a:iG):Prop where
 nc:cs.length<=1000
 na:a.length<=1000
 nt:∀t,t<a.length->(ix a t).length<=1000
 nf:a.flatten.length<=1000000
 fc:∀i,i<cs.length->(ix cs i).a.fits 1000000
 fp:∀t,t<a.length->∀l,l<(ix a t).length->(ix (ix a t) l).a.fits 1000000
 c:∀i,Ip A (ix cs i).a.q
 p:∀t∈a,∀x∈t,PY (Ip A) cs.length x
end Go.Proofs.Xe
