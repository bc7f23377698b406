import Derived.Test.YtchhojplceoifaaGreatDoorYb22
set_option linter.all false
namespace Go.Proofs.Xe
open Go.RowKit Go.Proofs.Ins
def eX(D:Nat)(q:Rat):Prop:=∃a:Int,q=(a:Rat)/(D:Rat)
theorem iI{D:Nat}(h:0<D):(D:Rat)≠0:=λe=>by simp_all
section
variable {A B D:Nat} {p q x s:Rat}
theorem eX.zero(D:Nat):eX D 0:=⟨0,by grind⟩
theorem eX.add(h:eX D p)(h':eX D q):eX D (p+q):=by obtain⟨a,rfl⟩:=h;obtain⟨b,rfl⟩:=h';exact⟨a+b,by grind⟩
def eX.neg(h:eX D p):eX D (-p):=by obtain⟨a,rfl⟩:=h;exact⟨-a,by grind⟩
def eX.sub(h:eX D p)(h':eX D q):eX D (p-q):=by rw[js];exact h.add h'.neg
def eX.up(h:eX A p){k:Nat}(hk:0<k):eX (A*k) p:=by
 obtain⟨a,rfl⟩:=h;refine⟨a*k,?_⟩;have h1:=iI hk;have e2:((a*(k:Int):Int):Rat)=(a:Rat)*(k:Rat):=by rw[de];rfl
 grind
def eX.dvd(h:eX A p)(hd:A∣B)(hB:0<B):eX B p:=by obtain⟨k,rfl⟩:=hd;exact h.up (fq λe=>by grind)
theorem eX.sum{α:Type}{f:α->Rat}:∀{l:List α},(∀a∈l,eX D (f a))->eX D (aK l f)
 |[],_=>eX.zero D
 |a::l,h=>(h a kc).add (eX.sum λb hb=>h b (by simp[hb]))
def nuA(A:Nat)(s:Rat):Nat:=(s*A).num.natAbs
def UR(hA:0<A)(hs:eX A s)(h0:0<s):s=(nuA A s:Rat)/(A:Rat)/\0<nuA A s:=by
 obtain⟨u,rfl⟩:=hs;have hA:=iI hA;have e:(u:Rat)/(A:Rat)*(A:Rat)=(u:Rat):=by grind
 unfold nuA;rw[e,Rat.num_intCast];have hu:0<u:=by
  have h1:(0:Rat)<=(A:Rat):=by grind
  have h2:=Rat.mul_pos h0 (show(0:Rat)<(A:Rat) by grind);rw[e]at h2;exact Rat.intCast_pos.mp h2
 have e2:((u.natAbs:Nat):Rat)=(u:Rat):=by
  have:((u.natAbs:Int):Rat)=(u:Rat):=by grind
  exact this
 grind
def eX.share(hA:0<A)(hB:0<B)(hp:eX A p)(hx:eX B x)(hs:eX A s)(h0:0<s):eX (B*nuA A s) (p*(x/s)):=by obtain⟨e,hn⟩:=UR hA hs h0;obtain⟨c,rfl⟩:=hp;obtain⟨z,rfl⟩:=hx;generalize nuA A s=n at*;refine⟨c*z,?_⟩;grind
def Zk.of(hD:0<D)(h:eX D q)(h1:0<=q)(h2:q<=((256^uK:Nat):Rat)):Zk D 1 q:=by
 obtain⟨a,rfl⟩:=h;refine⟨a,rfl,?_⟩;have hD':=iI hD;have h3:(0:Rat)<(D:Rat):=by grind
 have e:(a:Rat)/(D:Rat)*(D:Rat)=(a:Rat):=by grind
 have h4:=bp h2 (eh h3);have h5:=cj h1 (eh h3);rw[e]at h4 h5;rw[<-fg]at h4;have h4:((a:Int):Rat)<=(((256^uK*D:Nat):Int):Rat):=h4;have h4:=gi.mp h4;have h5:=Rat.intCast_nonneg.mp h5;grind
end
def wK(A:Nat)(l:gQ)(m:Rat):Nat:=if dY l m<l.length then nuA A (aW (ix l (dY l m)))else 1
def Kv(A:Nat)(l:gQ):Prop:=∀t∈l,∀p∈t,eX A p.2/\0<=p.2
section
variable {A B:Nat} {l:gQ} {m:Rat}
def Dy{t:dZ}(h:∀p∈t,eX A p.2/\0<=p.2):eX A (aW t):=by
 induction t with
 |nil=>exact eX.zero A
 |cons p t ih=>exact(h p kc).1.add (ih λq hq=>h q (by simp[hq]))
def aas{t:dZ}(h:∀p∈t,eX A p.2/\0<=p.2)(c:Int):eX A (mF t c):=by
 induction t with
 |nil=>exact eX.zero A
 |cons p t ih=>
  refine eX.add ?_ (ih λq hq=>h q (by simp[hq]))
  grind[eX.zero]
def Kv.nn(h:Kv A l):PV l:=λt ht p hp=>(h t ht p hp).2
def aiq(h:Kv A l)(k:Nat):eX A (BO l k):=by
 unfold BO;have:∀l:gQ,Kv A l->eX A (nP l):=λl=>by
  induction l with
  |nil=>intro _;exact eX.zero A
  |cons t l ih=>intro h;exact(Dy (h t kc)).add (ih λu hu=>h u (by simp[hu]))
 exact this _ λt ht=>h t (eo ht)
def arV(h:Kv A l)(c:Int):eX A (Ih l c):=by
 induction l with
 |nil=>exact eX.zero A
 |cons t l ih=>exact(aas (h t kc) c).add (ih λu hu=>h u (by simp[hu]))
def Ad(hm:0<=m)(hf:dY l m<l.length):0<aW (ix l (dY l m)):=by have:=UL l m hm;grind
def rM(hA:0<A)(h:Kv A l)(hm:0<=m):0<wK A l m:=by
 unfold wK;split
 .next hf=>exact(UR hA (Dy (h _ (gy hf))) (Ad hm hf)).2
 .omega
def aat(hA:0<A)(hB:0<B)(hd:A∣B)(h:Kv A l)(hm:eX B m):eX B (jB l m):=by rw[Oi];exact hm.sub ((aiq h _).dvd hd hB)
def air(hA:0<A)(h:Kv A l)(h0:0<=m){R:Nat}(hR:0<R){x:Rat}(hx:eX R x)(hf:dY l m<l.length){q:Rat}(hq:eX A q):eX (R*wK A l m) (q*(x/aW (ix l (dY l m)))):=by unfold wK;rw[ab hf];exact eX.share hA hR hq hx (Dy (h _ (gy hf))) (Ad h0 hf)
def aoU(hA:0<A)(hB:0<B)(hd:A∣B)(h:Kv A l)(hm:eX B m)(h0:0<=m)(c:Int):eX (B*wK A l m) (iH l m c):=by
 have hc:=rM hA h h0;rw[Jo];refine eX.add ((arV (λt ht=>h t (eo ht)) c).dvd (bL hd (aR _ _)) (cn hB hc)) ?_;split
 .next hf=>exact air hA h h0 hB (aat hA hB hd h hm) hf (aas (h _ (gy hf)) c)
 .exact eX.zero _
def aoV(hA:0<A)(h:Kv A l)(h0:0<=m){R:Nat}(hR:0<R){x:Rat}(hx:eX R x)(c:Int):eX (R*wK A l m) (jM l m x c):=by
 rw[En];split
 .next hf=>exact air hA h h0 hR hx hf (aas (h _ (gy hf)) c)
 .exact eX.zero _
end
def aeI(A:Nat)(e:fH)(x:Rat):List (List Nat×gQ)->Nat
 |[]=>1
 |p::l=>wK A p.2 (kU e x p)*aeI A e x l
def BP(A:Nat)(e:fH)(x:Rat):Nat:=wK A e.rk x*aeI A e x e.ps
structure ED(A:Nat)(U:Rat)(n:Nat)(e:fH):Prop where
 rk:xZ (λq=>eX A q/\0<=q/\q<=U) n e.rk
 ps:∀p∈e.ps,xZ (λq=>eX A q/\0<=q/\q<=U) n p.2
section
variable {A B n:Nat} {U m:Rat} {e:fH}
def _root_.Go.Proofs.Ins.xZ.D{l:gQ}(h:xZ (λq=>eX A q/\0<=q/\q<=U) n l):Kv A l:=λt ht p hp=>⟨(h t ht p hp).2.1,(h t ht p hp).2.2.1⟩
def ED.nn(h:ED A U n e):BN e:=⟨h.rk.D.nn,λp hp=>(h.ps p hp).D.nn⟩
def aoW(hA:0<A)(hB:0<B)(hd:A∣B)(h:ED A U n e)(hm:eX B m)(h0:0<=m)(c:Nat):eX (B*wK A e.rk m) (Ap e m c):=aoU hA hB hd h.rk.D hm h0 _
def aoX(hA:0<A)(h:ED A U n e)(h0:0<=m)(c:Nat):eX (wK A e.rk m) (rts e m c):=by have:=aoV (R:=1) hA h.rk.D h0 jj (x:=1) ⟨1,by grind⟩ c;rwa[Nat.one_mul]at this
def XJ(hA:0<A)(hB:0<B)(hd:A∣B)(h:ED A U n e)(hm:eX B m)(h0:0<=m)(p:List Nat×gQ):eX (B*wK A e.rk m) (kU e m p):=eX.sum λc _=>aoW hA hB hd h hm h0 c
def acw(hA:0<A)(h:ED A U n e)(h0:0<=m)(p:List Nat×gQ):eX (wK A e.rk m) (su e m p):=eX.sum λc _=>aoX hA h h0 c
def Dz(A:Nat)(e:fH)(x:Rat):∀{l:List (List Nat×gQ)}{p:List Nat×gQ},p∈l->wK A p.2 (kU e x p)∣aeI A e x l
 |q::l,p,h=>by
  rcases bz.mp h with rfl|h
  .exact aR _ _
  .exact bL (Dz A e x h) (gP _ _)
def XK(hA:0<A)(h:ED A U n e)(h0:0<=m):∀{l:List (List Nat×gQ)},(∀p∈l,p∈e.ps)->0<aeI A e m l
 |[],_=>Nat.zero_lt_one
 |p::l,hl=>cn (rM hA (h.ps p (hl p kc)).D (nR h.nn h0 p)) (XK hA h h0 λq hq=>hl q (by simp[hq]))
def Ip(hA:0<A)(h:ED A U n e)(h0:0<=m):0<BP A e m:=cn (rM hA h.rk.D h0) (XK hA h h0 λ_ h=>h)
def ais(hA:0<A)(hB:0<B)(hd:A∣B)(h:ED A U n e)(hm:eX B m)(h0:0<=m)(c:Nat):eX (B*BP A e m) (tX e m c):=by
 have hp:=cn hB (Ip hA h h0);have hp1:=cn hB (rM hA h.rk.D h0);unfold tX;refine eX.add ?_ (eX.sum λp hp'=>?_)
 .split
  .exact eX.zero _
  .exact(aoW hA hB hd h hm h0 c).dvd (cK _ (aR _ _)) hp
 .refine(aoU hA hp1 (bL hd (aR _ _)) (h.ps p hp').D (XJ hA hB hd h hm h0 p) (nR h.nn h0 p) c).dvd ?_ hp;rw[gb];exact cK _ (cK _ (Dz A e m hp'))
def ait(hA:0<A)(h:ED A U n e)(h0:0<=m)(c:Nat):eX (BP A e m) (xX e m c):=by
 have hp:=Ip hA h h0;unfold xX;refine eX.add ?_ (eX.sum λp hp'=>?_)
 .split
  .exact eX.zero _
  .exact(aoX hA h h0 c).dvd (aR _ _) hp
 .exact(aoV hA (h.ps p hp').D (nR h.nn h0 p) (rM hA h.rk.D h0) (acw hA h h0 p) c).dvd (cK _ (Dz A e m hp')) hp
end
end Go.Proofs.Xe
namespace Go.Proofs.Ins
def zH(l:Lg):fK:=(l.e.toNat,l.k.toNat)
def aZ(g:gB):GL:=⟨λi=>dU (ix g.e i),λi=>(ix g.e i).c.length,λi c=>(ix (ix g.e i).c c).h,g.d.map λd=>(d.w.q,d.l.map zH)⟩
theorem acy{q:Rat}(h:¬sg q<0):0<=q:=by grind[sg]
def amV:PX (λq=>0<=q) where
 min:=λa b ha hb=>by grind[jO]
 sub:=λa b ha hb=>by grind[jO]
 zero:=be
structure EZ(n:Nat)(i:Nat)(e:BL):Prop where
 nc:e.c.length<=24
 na:e.a.length<=12
 m:0<=e.m.q
 c:∀k,k<e.c.length->0<=(ix e.c k).r/\(ix e.c k).r<=7/\0<=(ix e.c k).a.q/\((ix e.c k).h=-1\/0<=(ix e.c k).h/\(ix e.c k).h<n/\(ix e.c k).h≠i)
 a:∀k,k<e.a.length->(ix e.a k).length<=24/\(∀t,t<(ix e.a k).length->(ix (ix e.a k) t).length<=24)/\∀t∈ix e.a k,∀x∈t,PY (λq=>0<=q) e.c.length x/\(x.k≠-1->zN e.a k x.k=false)
def avt{e:BL}{n i:Nat}(h:Kr e=0)(hh:∀k,k<e.c.length->¬((n:Int)<=(ix e.c k).h\/(ix e.c k).h=(i:Int))):EZ n i e:=by
 unfold Kr at h;split at h
 .cases h
 next h0=>
 split at h
 .cases h
 next h1=>
 split at h
 .omega
 next h2=>
 have h2:Gf (λi=>Ue (ix e.c i)) e.c.length=0:=bj h2;refine⟨jb,jb,acy h1,λk hk=>?_,λk hk=>?_⟩
 .grind[iR,Ue,acy]
 .have ha:=iR h k hk;unfold WT at ha;split at ha
  .cases ha
  next hl=>
  have hl:=CW.mp (by simpa using hl);refine⟨hl.1,hl.2,λt ht x hx=>?_⟩;obtain⟨j,hj,rfl⟩:=aL ht;obtain⟨p,hp,rfl⟩:=aL hx;have hT:=iR ha j hj;unfold arj at hT;rw[fD hj]at hT;have hP:=iR hT p hp;rw[fD hp]at hP;generalize (ix e.a k)[j][p]=x at*;unfold ZR at hP;split at hP
  .cases hP
  next c1=>
  split at hP
  .cases hP
  next c2=>
  split at hP
  .cases hP
  next c3=>
  split at hP
  .cases hP
  next c4=>
  refine⟨⟨jb,λhq=>?_⟩,λhn=>by grind⟩;grind[acy]
structure GZ(g:gB):Prop where
 ne:g.e.length<=8
 nd:g.d.length<=16
 e:∀i,i<g.e.length->EZ g.e.length i (ix g.e i)
 l:∀d,d<g.d.length->(ix g.d d).l.length<=8/\0<=(ix g.d d).w.q/\∀k,k<(ix g.d d).l.length->∃e j:Nat,ix (ix g.d d).l k=⟨(e:Int),(j:Int)⟩/\e<g.e.length/\j<(ix g.e e).c.length/\Ht (nC g.d d k) (ix (ix g.d d).l k)=false/\holdL g.e (ix (ix g.d d).l k)=holdL g.e (ix (ix g.d d).l 0)
def Oy{g:gB}(h:PO g=0):GZ g:=by
 unfold PO at h;split at h
 .cases h
 next h0=>
 split at h
 .omega
 next h1=>
 split at h
 .omega
 next h2=>
 have h1:Gf (λi=>Kr (ix g.e i)) g.e.length=0:=bj h1;have h2:Gf (λi=>Gf (WU g i) (ix g.e i).c.length) g.e.length=0:=bj h2;refine⟨jb,jb,λi hi=>avt (iR h1 i hi) λk hk hx=>?_,λd hd=>?_⟩
 .grind[iR,WU]
 .have hD:=iR h d hd;unfold Uf at hD;split at hD
  .cases hD
  next d0=>
  split at hD
  .cases hD
  next d1=>
  refine⟨jb,acy d1,λk hk=>?_⟩;have hL:=iR hD k hk;unfold aef at hL;dsimp only at hL;split at hL
  .cases hL
  next hr=>
  split at hL
  .cases hL
  next hm=>
  split at hL
  .cases hL
  next hh=>
  have hm:Ht (nC g.d d k) (ix (ix g.d d).l k)=false:=by simpa using hm
  have hh:holdL g.e (ix (ix g.d d).l k)=holdL g.e (ix (ix g.d d).l 0):=bj hh;revert hm hh;generalize hx:ix (ix g.d d).l k=x at*;obtain⟨e,j⟩:=x;dsimp only at hr;intro hm hh;refine⟨e.toNat,j.toNat,?_,jb,jb,hm,hh⟩;rw[fM jb,fM jb]
def Oz{α β:Type}[Inhabited α](f:α->List β):∀l:List α,(∀k,k<l.length->(f (ix l k)).Nodup/\∀j,j<k->∀x,x∈f (ix l k)->x∉f (ix l j))->(l.flatMap f).Nodup:=by
 intro l;have key:∀k,k<=l.length->(∀k,k<l.length->(f (ix l k)).Nodup/\∀j,j<k->∀x,x∈f (ix l k)->x∉f (ix l j))->((l.take k).flatMap f).Nodup:=by
  intro k;induction k with
  |zero=>simp
  |succ k ih=>
   intro hk h
   rw[bP jb,cT,gA]
   have hs:[ix l k].flatMap f=f (ix l k):=by simp
   rw[hs]
   refine⟨ih jb h,(h k jb).1,λa ha b hb e=>?_⟩
   subst e
   obtain⟨y,hy,hay⟩:=cF.mp ha
   obtain⟨j,hj,rfl⟩:=aL hy
   grind[fD]
 grind[List.take_length]
def XL{α β:Type}[Inhabited α][Inhabited β](f:α->β){l:List α}{i:Nat}(h:i<l.length):ix (l.map f) i=f (ix l i):=by grind[fD]
section
variable {n i:Nat} {e:BL}
theorem EZ.prt(h:EZ n i e){k:Nat}(hk:k<e.a.length):∀t∈ix e.a k,∀x∈t,x.k=-1\/0<=x.k/\x.k<e.c.length:=λt ht x hx=>(((h.a k hk).2.2 t ht x hx).1).1
def aiu{α:Type}[Inhabited α]{l:List α}{k:Nat}(h:l.length<=k):ix l k=default:=by grind[ix]
def R3.avu:(default:R3).q=0:=by rfl
def EZ.amt(h:EZ n i e)(k:Nat):0<=(ix e.c k).a.q:=by
 by_cases hk:k<e.c.length
 .exact(h.c k hk).2.2.1
 .rw[aiu jb];rfl
def Lp{cs:List C5}{k:Nat}{t:dZ}:t∈rkL cs k↔∃r,r<8/\t=EH cs r k:=by grind[rkL]
def Lr(h:EZ n i e):BN (dU e)/\InE e.c.length (dU e):=by
 have hA:∀k,k<e.a.length->xZ (λq=>0<=q) e.c.length (sF e.c (ix e.a k)).2:=λk hk=>acv amV h.amt λt ht x hx=>((h.a k hk).2.2 t ht x hx).1;refine⟨⟨λt ht p hp=>?_,λp hp t ht q hq=>?_⟩,⟨λt ht p hp=>?_,λp hp t ht q hq=>?_,?_,λi hi=>?_⟩⟩
 .obtain⟨r,-,rfl⟩:=Lp.mp ht;exact(Ox (P:=λq=>0<=q) (λi _=>h.amt i) r _ jp p hp).2
 .obtain⟨a,ha,rfl⟩:=cU.mp hp;obtain⟨k,hk,rfl⟩:=aL ha;rw[<-fD hk]at ht;exact(hA k hk t ht q hq).2
 .obtain⟨r,-,rfl⟩:=Lp.mp ht;exact(Ox (P:=λq=>0<=q) (λi _=>h.amt i) r _ jp p hp).1
 .obtain⟨a,ha,rfl⟩:=cU.mp hp;obtain⟨k,hk,rfl⟩:=aL ha;rw[<-fD hk]at ht;exact(hA k hk t ht q hq).1
 .show((e.a.map (sF e.c)).flatMap (·.1)).Nodup;rw[iz];refine Oz (λa=>(sF e.c a).1) e.a λk hk=>⟨aar (h.prt hk),λj hj x hx hx2=>?_⟩
  have h1:=(x9 (h.prt hk)).mp hx;have h2:=(x9 (h.prt (by omega:j<e.a.length))).mp hx2;obtain⟨t,ht,hm⟩:=eQ.mp h1;obtain⟨y,hy,ey⟩:=eQ.mp hm;have ey:y.k=(x:Int):=by grind
  have:=((h.a k hk).2.2 t ht y hy).2 jb;rw[ey]at this;unfold zN at this;rw[List.any_eq_false]at this;refine this (ix e.a j) ?_ h2;rw[<-Ua (l:=e.a) hj];grind[lK]
 .obtain⟨p,hp,hi⟩:=cF.mp hi;obtain⟨a,ha,rfl⟩:=cU.mp hp;obtain⟨k,hk,rfl⟩:=aL ha;rw[<-fD hk]at hi;have h1:=(x9 (h.prt hk)).mp hi;have:=uw (h.prt hk) i (qQ.mpr ⟨jb,h1⟩);omega
end
def aau{g:gB}(h:GZ g):Jr g.e.length (aZ g):=by
 refine⟨λi hi=>(Lr (h.e i hi)).1,λi hi=>(Lr (h.e i hi)).2,λi c hi hc=>?_,λl hl=>?_,?_,λd hd=>?_⟩
 .have:=((h.e i hi).c c hc).2.2.2;show(ix (ix g.e i).c c).h=-1\/0<=(ix (ix g.e i).c c).h/\(ix (ix g.e i).c c).h<(g.e.length:Int);omega
 .obtain⟨d,hd,hl⟩:=cF.mp hl;obtain⟨d',hd',rfl⟩:=cU.mp hd;obtain⟨j,hj,rfl⟩:=aL hd';obtain⟨x,hx,rfl⟩:=cU.mp hl;rw[<-fD hj]at hx;obtain⟨k,hk,rfl⟩:=aL hx;obtain⟨a,b,e1,h1,h2,-⟩:=(h.l j hj).2.2 k hk;rw[<-fD hk,e1];exact⟨h1,h2⟩
 .show((g.d.map λd=>(d.w.q,d.l.map zH)).flatMap (·.2)).Nodup;rw[iz];have key:∀d,d<g.d.length->∀k,k<(ix g.d d).l.length->∀y∈nC g.d d k,(0<=y.e/\0<=y.k)->zH y≠zH (ix (ix g.d d).l k):=λd hd k hk y hy hn e=>by obtain⟨a,b,e1,h1,h2,h3,-⟩:=(h.l d hd).2.2 k hk;grind[Go.Proofs.Ins.Ht,Go.Proofs.Ins.zH]
  have nn:∀d,d<g.d.length->∀y∈(ix g.d d).l,0<=y.e/\0<=y.k:=λd hd y hy=>by obtain⟨k,hk,rfl⟩:=aL hy;obtain⟨a,b,e1,-⟩:=(h.l d hd).2.2 k hk;grind[fD]
  refine Oz (λd:yw=>d.l.map zH) g.d λd hd=>⟨?_,λj hj x hx hx2=>?_⟩
  .have:(List.range (ix g.d d).l.length).Pairwise (· < ·):=List.pairwise_lt_range;rw[iN,List.pairwise_map,ja];intro a b ha hb hab;have:=key d hd b hb (ix (ix g.d d).l a) (List.mem_append_right _ ?_) ?_
   .grind[fD]
   .rw[<-Ua (l:=(ix g.d d).l) hab];grind[lK]
   grind[lK]
  .obtain⟨y,hy,rfl⟩:=cU.mp hx;obtain⟨z,hz,e⟩:=cU.mp hx2;obtain⟨k,hk,rfl⟩:=aL hy;rw[<-fD hk]at e;refine key d hd k hk z (iu _ (cF.mpr ⟨ix g.d j,?_,hz⟩)) (nn j jb z hz) e;rw[<-Ua (l:=g.d) hj];grind[lK]
 .obtain⟨d',hd',rfl⟩:=cU.mp hd;obtain⟨j,hj,rfl⟩:=aL hd';rw[<-fD hj];exact(h.l j hj).2.1
end Go.Proofs.Ins
namespace Go.Proofs.Xe
open Go.RowKit Go.Proofs.Ins
def vQ:Rat:=((256^uK:Nat):Rat)
def uQ:Rat:=((256^900:Nat):Rat)
def OA:0<=uQ:=by have:((0:Nat):Rat)<=((256^900:Nat):Rat):=bw.mpr (bh _);exact this
def pow_two{a b c:Nat}(h:a+b=c):256^a*256^b=256^c:=by rw[<-h,ec]
def FQ{k:Nat}(h:k<=256^100):(k:Rat)*uQ<=vQ:=by
 unfold uQ vQ;rw[<-fg];refine bw.mpr ?_;calc k*256^900<=256^100*256^900:=br _ h
  _=256^uK:=pow_two (show 100+900=uK from rfl)
def Rj{k:Nat}(h:k<=256^100):(k:Rat)<=vQ:=by unfold vQ;exact bw.mpr (av h (bA jj jj))
abbrev Iq(A:Nat)(q:Rat):Prop:=eX A q/\0<=q/\q<=uQ
section
variable {A n:Nat} {l:gQ}
def UU{t:dZ}(h:Ac (Iq A) n t):aW t<=(t.length:Rat)*uQ:=by
 induction t with
 |nil=>show(0:Rat)<=_;simp
 |cons p t ih=>
  have h1:=ih λq hq=>h q (by simp[hq])
  have h2:=(h p kc).2.2.2
  rw[bO,gn]
  grind[aW]
def NK:∀{l:gQ},xZ (Iq A) n l->nP l<=(dQ l:Rat)*uQ
 |[],_=>by show(0:Rat)<=((0:Nat):Rat)*uQ;simp
 |t::l,h=>by have h1:=NK (l:=l) λu hu=>h u (by simp[hu]);have h2:=UU (h t kc);show aW t+nP l<=((t.length+dQ l:Nat):Rat)*uQ;grind
theorem DC:∀{l:gQ},PV l->0<=nP l
 |[],_=>be
 |t::l,h=>by have:=DC (l:=l) λu hu=>h u (by simp[hu]);have:=AU (h t kc);show 0<=aW t+nP l;grind
def aiv:∀{l:gQ}{j:Nat},PV l->j<l.length->aW (ix l j)<=nP l
 |t::l,0,h,_=>by have:=DC (l:=l) λu hu=>h u (by simp[hu]);show aW t<=aW t+nP l;grind
 |t::l,j+1,h,hj=>by have:=aiv (l:=l) (j:=j) (λu hu=>h u (by simp[hu])) (by simpa using hj);have:=AU (h t kc);show aW (ix l j)<=aW t+nP l;grind
theorem aav:∀{l:gQ}(k:Nat),PV l->0<=BO l k/\BO l k<=nP l
 |[],k,h=>by unfold BO;rw[List.take_nil];exact⟨be,be⟩
 |t::l,0,h=>⟨be,DC h⟩
 |t::l,k+1,h=>by obtain⟨h1,h2⟩:=aav (l:=l) k λu hu=>h u (by simp[hu]);have:=AU (h t kc);unfold BO at h1 h2⊢;rw[gh];show 0<=aW t+nP _/\aW t+nP _<=aW t+nP l;grind
end
structure EB(n:Nat)(e:fH):Prop where
 nb:n<=1000
 r0:0<e.rk.length
 r1:e.rk.length<=1000
 rn:dQ e.rk<=1000
 ps:e.ps.length<=1000
 m:∀p∈e.ps,p.1.length<=1000/\∀i∈p.1,i<n
 p:∀p∈e.ps,0<p.2.length/\p.2.length<=1000/\dQ p.2<=10000
section
variable {A B R D n:Nat} {l:gQ} {m x:Rat}
theorem rO(hD:BQ D)(hB:B∣D){q:Rat}(h:eX B q)(h0:0<=q)(h1:q<=vQ):Zk D 1 q:=Zk.of hD.1 (h.dvd hB hD.1) h0 h1
theorem vM:2<=256^uK:=av (by decide:2<=256^1) (bA jj jj)
def Ep:∀{l:gQ}{t:dZ},t∈l->t.length<=dQ l
 |u::l,t,h=>by
  unfold dQ;rcases bz.mp h with rfl|h
  .omega
  .have:=Ep h;omega
def XM(hD:BQ D)(hA:A∣D)(h:xZ (Iq A) n l)(hl:l.length<=1000)(hn:dQ l<=10000):Oj D n l:=by
 have hU:=FQ (k:=10000) jj;have hU1:=FQ (k:=1) jj;have hz:∀t∈l,∀p∈t,Zk D 1 p.2:=λt ht p hp=>by have:=(h t ht p hp).2;grind[Go.Proofs.Xe.rO]
 refine⟨jb,λt ht=>by have:=Ep ht;omega,λt ht=>?_,λt ht p hp=>(h t ht p hp).1,λt ht p hp=>(hz t ht p hp).sz hD (by grind[vM]),hz⟩;have h1:=UU (h t ht);have h2:(t.length:Rat)<=((10000:Nat):Rat):=bw.mpr (by have:=Ep ht;omega);have h3:=bp h2 OA;refine(rO hD hA (Dy λp hp=>⟨(h t ht p hp).2.1,(h t ht p hp).2.2.1⟩) (AU λp hp=>(h t ht p hp).2.2.1) kd).sz hD (by grind[vM])
def Ls(hA0:0<A)(hD:BQ D)(hA:A∣D)(h:xZ (Iq A) n l)(hn:dQ l<=10000)(hB:B∣D)(hm:eX B m)(h0:0<=m)(h1:m<=vQ)(hR0:0<R)(hR:R*wK A l m∣D)(hx:eX R x)(hx0:0<=x)(hx1:x<=vQ):Ol D l m x:=by
 have hnn:=h.D.nn;have hR1:R∣D:=bL (aR _ _) hR;have hU:=FQ (k:=10000) jj;have h2:(dQ l:Rat)<=((10000:Nat):Rat):=bw.mpr hn;have h3:=bp h2 OA;have ht:=NK h;have hu:=vM;have hzx:=rO hD hR1 hx hx0 hx1;refine⟨λk _=>?_,h0,hzx.sz hD jb,λhf=>?_,λhf p hp=>?_⟩
 .have hc:=aav k hnn;exact((rO hD hB hm h0 h1).sub (rO hD hA (aiq h.D k) hc.1 kd)).sz hD jb
 .have hs:=Ad h0 hf;have:=aiv hnn hf;exact hzx.auM (rO hD hA (Dy (h.D _ (gy hf))) (eh hs) kd) hD jb jb kd
 .have hs:=Ad h0 hf;have hpp:=h.D _ (gy hf) p hp;have hps:p.2<=aW (ix l (dY l m)):=by
   have:∀t:dZ,(∀q∈t,0<=q.2)->p∈t->p.2<=aW t:=λt=>by
    induction t with
    |nil=>simp
    |cons q t ih=>
     intro hq hp
     show p.2<=q.2+aW t
     have h4:=hq q kc
     have h5:0<=aW t:=AU λr hr=>hq r (by simp[hr])
     grind
   exact this _ (λq hq=>(h.D _ (gy hf) q hq).2) hp
  have e:p.2*(x/aW (ix l (dY l m)))=x*(p.2/aW (ix l (dY l m))):=by grind
  have h4:=AV hs hps;have h5:=aak hpp.2 hs;have h6:=dj h4 hx0;refine rO hD hR (air hA0 h.D h0 hR0 hx hf hpp.1) ?_ ?_
  .grind[Rat.mul_nonneg]
  grind
def left_le(h0:0<=m)(h:PV l):0<=jB l m/\jB l m<=m:=by grind[Go.Proofs.Xe.UL,Go.Proofs.Xe.Oi,Go.Proofs.Xe.aav]
def arW{l:gQ}(h:PV l)(c:Int):∀{m:Rat},0<=m->iH l m c<=nP l:=by
 induction l with
 |nil=>intro m _;rfl
 |cons t l ih=>
  intro m hm
  have hl:=DC (l:=l) λu hu=>h u (by simp[hu])
  have h2:=La (h t kc) c
  have h3:=Eh (h t kc) c
  unfold iH
  show _<=aW t+nP l
  split
  .next hlt=>
   have h4:=AV (a:=m) (b:=aW t) kd (eh hlt)
   have h5:=dj h4 h3
   grind
  .have:=ih (λu hu=>h u (by simp[hu])) (m:=m-aW t) kd
   grind
def UW{l:gQ}(h:PV l)(c:Int){x:Rat}(hx:0<=x)(h0:0<=m):jM l m x c<=x:=by
 rw[En];split
 .next hf=>
  have hs:=Ad h0 hf;have hl:=h _ (gy hf);have e:mF (ix l (dY l m)) c*(x/aW (ix l (dY l m)))=x*(mF (ix l (dY l m)) c/aW (ix l (dY l m))):=by grind
  rw[e];have h4:=AV hs (La hl c);have h6:=dj h4 hx;grind
 omega
end
section
variable {A B D n:Nat} {m:Rat} {e:fH}
def rP{α:Type}{f:α->Rat}{v:Rat}(h0:0<=v):∀{l:List α}{k:Nat},(∀a∈l,f a<=v)->l.length<=k->aK l f<=(k:Rat)*v
 |[],k,_,_=>by have:((0:Nat):Rat)<=(k:Rat):=bw.mpr (bh _);exact cj this h0
 |a::l,k,h,hk=>by
  obtain⟨k,rfl⟩:∃j,k=j+1:=⟨k-1,by simp at hk;omega⟩
  have h1:=rP h0 (l:=l) (k:=k) (λb hb=>h b (by simp[hb])) (by simpa using hk);have h2:=h a kc;show f a+aK l f<=_;rw[gn];have:((1:Nat):Rat)=1:=rfl;grind
def aiw(h:ED A uQ n e)(hb:EB n e)(h0:0<=m){p:List Nat×gQ}(hp:p∈e.ps):kU e m p<=vQ:=by have ht:=NK h.rk;have h2:(dQ e.rk:Rat)<=((1000:Nat):Rat):=bw.mpr hb.rn;have h3:=bp h2 OA;have h4:=rP (f:=Ap e m) (v:=((1000:Nat):Rat)*uQ) (cj (bw.mpr (bh 1000)) OA) (l:=p.1) (k:=1000) (λc _=>cP (arW h.rk.D.nn c h0) (cP ht h3)) (hb.m p hp).1;have h5:=FQ (k:=1000*1000) jj;grind[kU]
def arX(h:ED A uQ n e)(hb:EB n e)(h0:0<=m){p:List Nat×gQ}(hp:p∈e.ps):su e m p<=vQ:=by have h4:=rP (f:=rts e m) (v:=1) jj (l:=p.1) (k:=1000) (λc _=>UW h.rk.D.nn c jj h0) (hb.m p hp).1;have h5:=Rj (k:=1000) jj;grind[su]
def aix(hD:BQ D)(hA:A∣D)(h:ED A uQ n e)(hb:EB n e):EOk D n e:=by
 have hn:=hb.nb;have hps:=hb.ps;refine⟨jb,XM hD hA h.rk hb.r1 (by have:=hb.rn;omega),hb.r0,jb,λp hp=>⟨by have:=(hb.m p hp).1;omega,(hb.m p hp).2⟩,λp hp=>⟨XM hD hA (h.ps p hp) (hb.p p hp).2.1 (hb.p p hp).2.2,(hb.p p hp).1⟩,?_⟩;have h1:∀l:List (List Nat×gQ),(∀p∈l,dQ p.2<=10000)->Ij l<=l.length*10000:=λl=>by
  induction l with
  |nil=>intro _;exact cQ 0
  |cons p l ih=>
   grind[Ij]
 have h2:=h1 e.ps λp hp=>(hb.p p hp).2.2;have h3:=hb.rn;grind[uK]
def aiy(hA0:0<A)(hB0:0<B)(hAB:A∣B)(hD:BQ D)(hBD:B*BP A e m∣D)(h:ED A uQ n e)(hb:EB n e)(hm:eX B m)(h0:0<=m)(h1:m<=vQ):MOk D e m:=by
 have hB:B∣D:=bL (aR _ _) hBD;have hA:A∣D:=bL hAB hB;have hr:B*wK A e.rk m∣D:=bL (cK _ (aR _ _)) hBD;have hr0:=cn hB0 (rM hA0 h.rk.D h0);refine⟨(rO hD hB hm h0 h1).sz hD (by grind[vM]),?_,λp hp=>?_⟩
 .have hl:=left_le h0 h.rk.D.nn;exact Ls hA0 hD hA h.rk (by have:=hb.rn;omega) hB hm h0 h1 hB0 hr (aat hA0 hB0 hAB h.rk.D hm) hl.1 (cP hl.2 h1)
 .have hg:=nR h.nn h0 p;have hgD:=XJ hA0 hB0 hAB h hm h0 p;have hgl:=aiw h hb h0 hp;have hl:=left_le hg (h.ps p hp).D.nn;have hd:B*wK A e.rk m*wK A p.2 (kU e m p)∣D:=by refine bL ?_ hBD;rw[gb];exact cK _ (cK _ (Dz A e m hp))
  exact⟨Ls hA0 hD hA (h.ps p hp) (hb.p p hp).2.2 hr hgD hg hgl hr0 hd (aat hA0 hr0 (bL hAB (aR _ _)) (h.ps p hp).D hgD) hl.1 (cP hl.2 hgl),(rO hD hr hgD hg hgl).sz hD (by grind[vM])⟩
def aiz(hA0:0<A)(hB0:0<B)(hAB:A∣B)(hD:BQ D)(hBD:B*BP A e m∣D)(h:ED A uQ n e)(hb:EB n e)(hm:eX B m)(h0:0<=m)(h1:m<=vQ):ROk D e m:=by
 have hB:B∣D:=bL (aR _ _) hBD;have hA:A∣D:=bL hAB hB;have hr:B*wK A e.rk m∣D:=bL (cK _ (aR _ _)) hBD;have hr0:=rM hA0 h.rk.D h0;have hr1:wK A e.rk m∣D:=bL (gP _ _) hr;have h1v:=Rj (k:=1) jj;refine⟨?_,λp hp=>?_⟩
 .exact Ls (R:=1) hA0 hD hA h.rk (by have:=hb.rn;omega) hB hm h0 h1 jj kd ⟨1,by grind⟩ jj h1v
 .have hg:=nR h.nn h0 p;have hgD:=XJ hA0 hB0 hAB h hm h0 p;have hgl:=aiw h hb h0 hp;have hR:=Jl h.nn h0 p;have hRD:=acw hA0 h h0 p;have hRl:=arX h hb h0 hp;have hd:wK A e.rk m*wK A p.2 (kU e m p)∣D:=by refine bL ?_ (bL (gP _ _) hBD);exact cK _ (Dz A e m hp)
  exact⟨Ls hA0 hD hA (h.ps p hp) (hb.p p hp).2.2 hr hgD hg hgl hr0 hd hRD hR hRl,(rO hD hr1 hRD hR hRl).sz hD (by grind[vM])⟩
end
section
variable {E:Env} [ZW E] {p:Nat→Prop} {σ:St} {K:V→St→Prop}
def XO{v:B}{a:iG}(ha:fA p σ.h v a)(h1:a.length<=1000000)(h2:a.flatten.length<=1000000){v':V}{σ':St}(hm:ahu a.flatten σ=some (v',σ')):aC E 181 [.c v] σ K=K v' σ':=
 QN (by have h:=(amc ha h1 h2).trans hm;unfold Xc;rw[abM rfl];unfold ame ahx;simp only[Nat.reduceEqDiff,reduceIte,h])
def Rk{v:B}{a:iG}(ha:fA p σ.h v a)(h1:a.length<=1000000)(h2:a.flatten.length<=1000000){v':V}{σ':St}(hm:aht (wH a) σ=some (v',σ')):aC E 140 [.agg [v]] σ K=K v' σ':=
 QN (by have h:=(amb ha h1 h2).trans hm;unfold Xc;rw[abM rfl];unfold ame ahx;simp only[Nat.reduceEqDiff,reduceIte,h])
end
def Rl{E:Env}[ZW E]{σ:St}(hW:WF σ){p:Nat->Prop}{v:B}{a:iG}(ha:fA p σ.h v a)(h1:a.length<=1000000)(h2:a.flatten.length<=1000000):
  aC E 140 [.agg [v]] σ λr σ'=>(∃u,r=.c u/\zZ σ'.h u (wH a).length (λi=>[.int .i64 (ix (wH a) i)]) 1 3 σ.aj σ'.aj)/\Fr σ σ':=by
 by_cases h0:(wH a).length=0
 .rw[Rk ha h1 h2 (v':=.c .aX) (σ':=σ) (ab h0)]
  exact⟨⟨_,rfl,.inl ⟨h0,rfl⟩⟩,Fr.refl hW⟩
 .rw[Rk ha h1 h2 (ae h0)]
  exact⟨⟨_,rfl,.inr ⟨jb,_,rfl,aA _ _ _,jp,bX _⟩⟩,fr⟩
def amW{a:iG}{n:Nat}(ha:∀t∈a,∀x∈t,x.k=-1\/0<=x.k/\x.k<n){i:Nat}(hi:i<(wH a).length):B.int .i64 (ix (wH a) i)=PW (lY a) i:=by unfold PW lY;rw[XL Int.toNat hi];have:=uw ha _ (lK hi);grind
def OB(a:iG):(lY a).length=(wH a).length:=dc _
structure TS(σ:St)(tb bs:Nat)(t:dZ):Prop where
 b:σ.h tb=some ⟨jP (aS t.length bs) (aW t),none⟩
 o:Ot σ.h bs t
 lo:tb<bs
 hi:t.length=0\/bs<σ.aj
def TS.lt{σ:St}(hW:WF σ){tb bs:Nat}{t:dZ}(h:TS σ tb bs t):tb<σ.aj:=hW.lt h.b
def TS.on{σ σ':St}{tb bs:Nat}{t:dZ}(h:TS σ tb bs t)(h1:∀b,tb<=b->b<σ.aj->σ'.h b=σ.h b)(hW:WF σ)(hle:σ.aj<=σ'.aj):TS σ' tb bs t:=by have h0:=h.lt hW;have hlo:=h.lo;have hhi:=h.hi;refine⟨by rw[h1 tb jp h0];exact h.b,?_,hlo,jb⟩;refine(wE ?_).trans h.o;grind
theorem TS.fr{σ σ':St}{tb bs:Nat}{t:dZ}(h:TS σ tb bs t)(hW:WF σ)(hf:Fr σ σ'):TS σ' tb bs t:=h.on (λb _ hb=>hf.old b hb) hW hf.le
def TS.fre{σ σ':St}{ex:List Nat}{tb bs:Nat}{t:dZ}(h:TS σ tb bs t)(hW:WF σ)(hf:aU ex σ σ')(hx:∀b∈ex,b<tb):TS σ' tb bs t:=h.on (λb h1 h2=>hf.old b h2 λhm=>by grind) hW hf.le
def aaw{σ:St}(hW:WF σ){tb bs:Nat}{t:dZ}(hT:TS σ tb bs t)(hl:t.length<=1000000)(k:Int)(q:Rat)(hs:Sz (aW t))(hq:Sz q):
  aC EN 142 [.c (.ptr tb 0),.c (.int .i64 k),.agg [.bool (rn q),.str (rs q),.str (rd q)]] σ λ_ σ'=>(∃bs',TS σ' tb bs' (t++[(k,q)]))/\(∀b,b<tb->σ'.h b=σ.h b)/\WF σ'/\σ.aj<=σ'.aj:=by
 have h0:=hT.lo
 have hlt:=hT.lt hW
 have:=aik (G:=λ_=>jP (aS t.length bs) (aW t)) (n:=1) (r:=0) hW (by rw[hT.b];rfl) jj (λ_=>rfl) rfl rfl rfl hT.o (.inr jb) hT.hi hl k q hs hq
 refine this.mono ?_
 rintro _ σ' ⟨nx,h1,h2,h3,h4,h5⟩
 have hle:=h5.le
 refine⟨⟨nx,?_,?_,jb,.inr h2⟩,λb hb=>h5.old b jb kd,h5.wf,hle⟩
 .rw[h3,Rh,az];rfl
 .unfold Ot
  rw[az,ce]
  show σ'.h nx=some _
  grind[Go.Proofs.Xe.l9,Go.Proofs.Xe.dA,Go.Proofs.Xe.jl,Go.Proofs.Xe.gX,Go.Proofs.Xe.gW]
def amX(U:Nat->B)(Lf:Nat->dZ)(p:Nat->Prop)(h:Tr Bk)(i:Nat):Prop:=aY p h 4 (U i) (Lf i).length λc=>zX (ix (Lf i) c)
def XP(U:Nat->B)(Lf:Nat->dZ)(i:Nat):List B:=jP (U i) (aW (Lf i))
abbrev aax(U:Nat->B)(Lf:Nat->dZ)(h:Tr Bk)(b n lo hi:Nat):Prop:=NF (amX U Lf) h b n (XP U Lf) 4 199 lo hi
def UY(U:Nat->B)(Lf:Nat->dZ)(j:Nat):QK (amX U Lf) j:=λ_ _ _ _ hp hk hq=>aY.keep hp hk hq
def UZ(U:Nat->B)(Lf:Nat->dZ):LG (XP U Lf) 4:=λ_=>rfl
section
variable {U:Nat→B} {Lf:Nat→dZ} {h h' : Tr Bk} {b n lo hi:Nat}
def aax.push(ho:aax U Lf h b n lo hi){σ1:St}(hW:WF σ1){tb bs nx n':Nat}{t:dZ}(hL:Lf n=t)(hT:TS σ1 tb bs t)(ht:hi<=tb)(h5:lo<=hi)(hh:∀b,lo<=b->b<hi->σ1.h b=h b)(h3:σ1.aj<=nx)(h4:nx<n')
  (hb:h' nx=some ⟨bU n (XP U Lf)++jP (aS t.length bs) (aW t),some (4,199)⟩) (hk:∀c,lo<=c->c<σ1.aj->n=0\/c≠b->h' c=σ1.h c):aax (aN U n (aS t.length bs)) Lf h' nx (n+1) lo n':=by
 have hlt:=hT.lt hW
 have hlo:=hT.lo
 have hx:aY (λb=>hi<=b/\b<σ1.aj) σ1.h 4 (aS t.length bs) t.length λj=>zX (ix t j):=hT.o.hlp (by rcases hT.hi with h0|h0;exact .inl h0;omega)
 refine NF.push ho (λj _=>UY _ Lf j) (λj hj p h hq=>?_) (hi1:=σ1.aj) (h1:=σ1.h) ?_ hh jb h3 h4 h5 hb ?_ hk (λi hi=>?_) (UZ _ _)
 .grind[amX,aQ]
 .grind[amX,aP]
 .grind[XP,aP]
 grind[XP,aQ]
def aax.arY(ho:aax U Lf h b n lo hi){l:gQ}(hl:l.length=n)(hL:∀i,i<n->Lf i=ix l i):yN (λb=>lo<=b/\b<hi) h (aS n b) l:=by
 have hel:=λi (hi:i<n)=>ho.el (λj _=>UY U Lf j) hi;refine⟨U,?_,by cases n<;>trivial,λi hi=>?_⟩
 .rw[hl];refine(ho.hlp jj (λi hi=>?_) λb h1 h2=>⟨h1,h2⟩).congr λi hi=>by grind[XP]
  unfold XP jP;simp only[cV,et,Aw,FD,(hel i hi).kn,eg]
 .rw[hl]at hi;rw[<-hL i hi];exact hel i hi
end
def lsS(cs:List C5)(a:iG)(j:Nat):(Nat->Rat)×gQ:=(a.take j).foldl ltS ((λi:Nat=>(ix cs i).a.q),[])
def Bc(f:Nat->Rat)(t:Kq)(l:Nat):(Nat->Rat)×dZ:=(t.take l).foldl lpS (f,[])
theorem OC{cs:List C5}{a:iG}{j:Nat}(h:j<a.length):lsS cs a (j+1)=ltS (lsS cs a j) (ix a j):=by grind[lsS,bP]
def Ir(cs:List C5)(a:iG):lsS cs a a.length=lsA cs a:=by grind[lsS,lsA]
def Bd(cs:List C5)(a:iG):∀j,j<=a.length->(lsS cs a j).2.length=j
 |0,_=>rfl
 |j+1,h=>by rw[OC jb];unfold ltS;rw[az,Bd cs a j jb];rfl
def aay{α:Type}[Inhabited α]{l:List α}{x:α}{n:Nat}(h:l.length=n):ix (l++[x]) n=x:=by grind[gX]
def oV(m k:Nat)(F:Nat->Rat):bY m (aN (λi=>if i<k then F i else 0) k (F k))=bY m λi=>if i<k+1 then F i else 0:=dH λi _=>by grind[aN]
def wL(m:Nat)(F:Nat->Rat):bY m (λi=>if i<m then F i else 0)=bY m F:=dH λi hi=>ab hi
def uO(m:Nat)(F:Nat->Rat):bY m (λ_=>0)=bY m λi=>if i<0 then F i else 0:=dH λi _=>rfl
def aiA{s:(Nat->Rat)×dZ}{x:AB}{kk:Nat}(h1:¬x.k=-1)(hk:x.k=Int.ofNat kk):lpS s x=(aN s.1 kk (s.1 kk-if x.b=true then jO (s.1 kk) x.a.q else s.1 kk),s.2++[(Int.ofNat kk,if x.b=true then jO (s.1 kk) x.a.q else s.1 kk)]):=by unfold lpS;rw[ae h1,hk];refine Prod.ext ?_ rfl;grind[aN]
def U2{cs:List C5}{a:iG}{i:Nat}:∀{j},i<j->j<=a.length->ix (lsS cs a j).2 i=(Bc (lsS cs a i).1 (ix a i) (ix a i).length).2
 |j+1,hi,hj=>by
  rw[OC jb];unfold ltS;by_cases e:i=j
  .subst e;have:=Bd cs a i jb;exact(aay this).trans (by unfold Bc;rw[cB])
  .show ix ((lsS cs a j).2++[_]) i=_;rw[gW _ _ (by rw[Bd cs a j jb];omega)];exact U2 jb jb
def XQ{f:Nat->Rat}{t:Kq}{l:Nat}(h:l<t.length):Bc f t (l+1)=lpS (Bc f t l) (ix t l):=by grind[Bc,bP]
def Lu(f:Nat->Rat)(t:Kq):∀l,l<=t.length->(Bc f t l).2.length=l
 |0,_=>rfl
 |l+1,h=>by rw[XQ jb];unfold lpS;split<;>simp[Lu f t l jb]
def aiB{cs:List C5}{a:iG}{j:Nat}(h:j<a.length):(lsS cs a (j+1)).1=(Bc (lsS cs a j).1 (ix a j) (ix a j).length).1:=by grind[OC,ltS,Bc]
def aeJ(ms:List Nat)(f:Nat->Rat){i:Nat}(h:i<ms.length):zk (ms.take (i+1)) f=zk (ms.take i) f++[(((ix ms i:Nat):Int),f (ix ms i))]:=by grind[zk,bP]
def aiC:∀{l:List Int}{lo hi:Int},l.Pairwise (· < ·)->(∀x∈l,lo<=x/\x<hi)->l.length<=(hi-lo).toNat
 |[],_,_,_,_=>bh _
 |a::l,lo,hi,hp,h=>by
  rw[List.pairwise_cons]at hp;have h1:=h a kc;have:=aiC (lo:=a+1) (hi:=hi) hp.2 λx hx=>by grind
  grind
def FT{a:iG}{n:Nat}(ha:∀t∈a,∀x∈t,x.k=-1\/0<=x.k/\x.k<n):(lY a).length<=n:=by have:=aiC (abI a) (uw ha);rw[OB];omega
theorem LC(cs:List C5)(r:Nat):∀k,(EH cs r k).length<=k
 |0=>cQ 0
 |k+1=>by have:=LC cs r k;unfold EH;rw[az];split<;>simp<;>omega
section
variable {A n:Nat}
def arZ(hA:0<A):PX (Iq A) where
 min:=λa b ha hb=>by grind[jO]
 sub:=λa b ha hb=>by
  have h1:=ha.2;have h2:=hb.2;unfold jO;split
  .grind[eX.zero]
  .exact⟨ha.1.sub hb.1,by grind,by grind⟩
 zero:=⟨eX.zero A,be,OA⟩
def OD(hA:BQ A){q:Rat}(h:Iq A q):Sz q:=by have hU:=FQ (k:=1) jj;have:((1:Nat):Rat)=1:=rfl;exact(rO hA (gR A) h.1 h.2.1 kd).sz hA (by grind[vM])
def U3(hA:BQ A){t:dZ}(h:Ac (Iq A) n t)(hl:t.length<=10000):Sz (aW t):=by have hU:=FQ (k:=10000) jj;have h1:=UU h;have h2:(t.length:Rat)<=((10000:Nat):Rat):=bw.mpr hl;have h3:=bp h2 OA;exact(rO hA (gR A) (Dy λp hp=>⟨(h p hp).2.1,(h p hp).2.2.1⟩) (AU λp hp=>(h p hp).2.2.1) kd).sz hA (by grind[vM])
def ar0{P:Rat->Prop}(hP:PX P){f:Nat->Rat}(hf:∀i,P (f i)){t:Kq}(ht:∀x∈t,PY P n x)(l:Nat):(∀i,P ((Bc f t l).1 i))/\Ac P n (Bc f t l).2:=
 aap hP (t.take l) hf (λ_ h=>by cases h) λx hx=>ht x (eo hx)
def ar1{P:Rat->Prop}(hP:PX P){cs:List C5}(hc:∀i,P (ix cs i).a.q){a:iG}(ha:∀t∈a,∀x∈t,PY P n x)(j:Nat)(i:Nat):P ((lsS cs a j).1 i):=
 (aaq hP (a.take j) hc (λ_ h=>by cases h) λt ht=>ha t (eo ht)).1 i
end
def ar2(p q:Rat):Jc p q=jO p q:=by
 unfold Jc jO;by_cases h:p<=q
 .rw[ab h,ab (wB.mpr h)]
 .rw[ae h,ae λe=>h (wB.mp e)]
structure aiD(A:Nat)(cs:List C5)(a:iG):Prop where
 nc:cs.length<=1000
 na:a.length<=1000
 nt:∀t,t<a.length->(ix a t).length<=1000
 nf:a.flatten.length<=1000000
 fc:∀i,i<cs.length->(ix cs i).a.fits 1000000
 fp:∀t,t<a.length->∀l,l<(ix a t).length->(ix (ix a t) l).a.fits 1000000
 c:∀i,Iq A (ix cs i).a.q
 p:∀t∈a,∀x∈t,PY (Iq A) cs.length x
end Go.Proofs.Xe
