import Derived.Test.YtjhhfbbndfpdaaaGreatDoorYg30
set_option linter.all false
namespace Go.Proofs.Xe
open Go.RowKit Go.Proofs.Ins
def eG(D:Nat)(q:Rat):Prop:=∃a:Int,q=(a:Rat)/(D:Rat)
theorem iJ{D:Nat}(h:0<D):(D:Rat)≠0:=λe=>by simp_all
section
variable {A B D:Nat} {p q x s:Rat}
theorem eG.zero(D:Nat):eG D 0:=⟨0,by grind⟩
theorem eG.add(h:eG D p)(h':eG D q):eG D (p+q):=by obtain⟨a,rfl⟩:=h;obtain⟨b,rfl⟩:=h';exact⟨a+b,by grind⟩
def eG.neg(h:eG D p):eG D (-p):=by obtain⟨a,rfl⟩:=h;exact⟨-a,by grind⟩
def eG.sub(h:eG D p)(h':eG D q):eG D (p-q):=by rw[fR];exact h.add h'.neg
def eG.up(h:eG A p){k:Nat}(hk:0<k):eG (A*k) p:=by
 obtain⟨a,rfl⟩:=h;refine⟨a*k,?_⟩;have h1:=iJ hk;have e2:((a*(k:Int):Int):Rat)=(a:Rat)*(k:Rat):=by rw[cV];rfl
 grind
def eG.dvd(h:eG A p)(hd:A∣B)(hB:0<B):eG B p:=by obtain⟨k,rfl⟩:=hd;exact h.up (eo λe=>by grind)
theorem eG.sum{α:Type}{f:α->Rat}:∀{l:List α},(∀a∈l,eG D (f a))->eG D (aK l f)
 |[],_=>eG.zero D
 |a::l,h=>(h a kc).add (eG.sum λb hb=>h b (by simp[hb]))
def nuA(A:Nat)(s:Rat):Nat:=(s*A).num.natAbs
def Xl(hA:0<A)(hs:eG A s)(h0:0<s):s=(nuA A s:Rat)/(A:Rat)/\0<nuA A s:=by
 obtain⟨u,rfl⟩:=hs;have hA:=iJ hA;have e:(u:Rat)/(A:Rat)*(A:Rat)=(u:Rat):=by grind
 unfold nuA;rw[e,Rat.num_intCast];have hu:0<u:=by
  have h1:(0:Rat)<=(A:Rat):=by grind
  have h2:=Rat.mul_pos h0 (show(0:Rat)<(A:Rat) by grind);rw[e]at h2;exact Rat.intCast_pos.mp h2
 have e2:((u.natAbs:Nat):Rat)=(u:Rat):=by
  have:((u.natAbs:Int):Rat)=(u:Rat):=by grind
  exact this
 grind
def eG.share(hA:0<A)(hB:0<B)(hp:eG A p)(hx:eG B x)(hs:eG A s)(h0:0<s):eG (B*nuA A s) (p*(x/s)):=by obtain⟨e,hn⟩:=Xl hA hs h0;obtain⟨c,rfl⟩:=hp;obtain⟨z,rfl⟩:=hx;generalize nuA A s=n at*;refine⟨c*z,?_⟩;grind
def Zk.of(hD:0<D)(h:eG D q)(h1:0<=q)(h2:q<=((256^uK:Nat):Rat)):Zk D 1 q:=by
 obtain⟨a,rfl⟩:=h;refine⟨a,rfl,?_⟩;have hD':=iJ hD;have h3:(0:Rat)<(D:Rat):=by grind
 have e:(a:Rat)/(D:Rat)*(D:Rat)=(a:Rat):=by grind
 have h4:=be h2 (ec h3);have h5:=cg h1 (ec h3);rw[e]at h4 h5;rw[<-eI]at h4;have h4:((a:Int):Rat)<=(((256^uK*D:Nat):Int):Rat):=h4;have h4:=fw.mp h4;have h5:=Rat.intCast_nonneg.mp h5;grind
end
def xY(A:Nat)(l:gI)(m:Rat):Nat:=if dS l m<l.length then nuA A (aX (ix l (dS l m)))else 1
def Nz(A:Nat)(l:gI):Prop:=∀t∈l,∀p∈t,eG A p.2/\0<=p.2
section
variable {A B:Nat} {l:gI} {m:Rat}
def EX{t:dJ}(h:∀p∈t,eG A p.2/\0<=p.2):eG A (aX t):=by
 induction t with
 |nil=>exact eG.zero A
 |cons p t ih=>exact(h p kc).1.add (ih λq hq=>h q (by simp[hq]))
def acH{t:dJ}(h:∀p∈t,eG A p.2/\0<=p.2)(c:Int):eG A (gQ t c):=by
 induction t with
 |nil=>exact eG.zero A
 |cons p t ih=>
  refine eG.add ?_ (ih λq hq=>h q (by simp[hq]))
  grind[eG.zero]
def Nz.nn(h:Nz A l):MW l:=λt ht p hp=>(h t ht p hp).2
def ak0(h:Nz A l)(k:Nat):eG A (Dt l k):=by
 unfold Dt;have:∀l:gI,Nz A l->eG A (jR l):=λl=>by
  induction l with
  |nil=>intro _;exact eG.zero A
  |cons t l ih=>intro h;exact(EX (h t kc)).add (ih λu hu=>h u (by simp[hu]))
 exact this _ λt ht=>h t (eg ht)
def avh(h:Nz A l)(c:Int):eG A (ku l c):=by
 induction l with
 |nil=>exact eG.zero A
 |cons t l ih=>exact(acH (h t kc) c).add (ih λu hu=>h u (by simp[hu]))
def BA(hm:0<=m)(hf:dS l m<l.length):0<aX (ix l (dS l m)):=by have:=Xg l m hm;grind
def uh(hA:0<A)(h:Nz A l)(hm:0<=m):0<xY A l m:=by
 unfold xY;split
 .next hf=>exact(Xl hA (EX (h _ (gV hf))) (BA hm hf)).2
 .omega
def acI(hA:0<A)(hB:0<B)(hd:A∣B)(h:Nz A l)(hm:eG B m):eG B (jZ l m):=by rw[QU];exact hm.sub ((ak0 h _).dvd hd hB)
def ak1(hA:0<A)(h:Nz A l)(h0:0<=m){R:Nat}(hR:0<R){x:Rat}(hx:eG R x)(hf:dS l m<l.length){q:Rat}(hq:eG A q):eG (R*xY A l m) (q*(x/aX (ix l (dS l m)))):=by unfold xY;rw[ab hf];exact eG.share hA hR hq hx (EX (h _ (gV hf))) (BA h0 hf)
def arS(hA:0<A)(hB:0<B)(hd:A∣B)(h:Nz A l)(hm:eG B m)(h0:0<=m)(c:Int):eG (B*xY A l m) (iE l m c):=by
 have hc:=uh hA h h0;rw[Lp];refine eG.add ((avh (λt ht=>h t (eg ht)) c).dvd (bN hd (aL _ _)) (bX hB hc)) ?_;split
 .next hf=>exact ak1 hA h h0 hB (acI hA hB hd h hm) hf (acH (h _ (gV hf)) c)
 .exact eG.zero _
def arT(hA:0<A)(h:Nz A l)(h0:0<=m){R:Nat}(hR:0<R){x:Rat}(hx:eG R x)(c:Int):eG (R*xY A l m) (kN l m x c):=by
 rw[FW];split
 .next hf=>exact ak1 hA h h0 hR hx hf (acH (h _ (gV hf)) c)
 .exact eG.zero _
end
def ahg(A:Nat)(e:fC)(x:Rat):List (List Nat×gI)->Nat
 |[]=>1
 |p::l=>xY A p.2 (lU e x p)*ahg A e x l
def Du(A:Nat)(e:fC)(x:Rat):Nat:=xY A e.rk x*ahg A e x e.ps
structure ED(A:Nat)(U:Rat)(n:Nat)(e:fC):Prop where
 rk:yU (λq=>eG A q/\0<=q/\q<=U) n e.rk
 ps:∀p∈e.ps,yU (λq=>eG A q/\0<=q/\q<=U) n p.2
section
variable {A B n:Nat} {U m:Rat} {e:fC}
def _root_.Go.Proofs.Ins.yU.D{l:gI}(h:yU (λq=>eG A q/\0<=q/\q<=U) n l):Nz A l:=λt ht p hp=>⟨(h t ht p hp).2.1,(h t ht p hp).2.2.1⟩
def ED.nn(h:ED A U n e):BZ e:=⟨h.rk.D.nn,λp hp=>(h.ps p hp).D.nn⟩
def ak2(hA:0<A)(hB:0<B)(hd:A∣B)(h:ED A U n e)(hm:eG B m)(h0:0<=m)(c:Nat):eG (B*xY A e.rk m) (AU e m c):=arS hA hB hd h.rk.D hm h0 _
def arU(hA:0<A)(h:ED A U n e)(h0:0<=m)(c:Nat):eG (xY A e.rk m) (rts e m c):=by have:=arT (R:=1) hA h.rk.D h0 jj (x:=1) ⟨1,by grind⟩ c;rwa[Nat.one_mul]at this
def aaf(hA:0<A)(hB:0<B)(hd:A∣B)(h:ED A U n e)(hm:eG B m)(h0:0<=m)(p:List Nat×gI):eG (B*xY A e.rk m) (lU e m p):=eG.sum λc _=>ak2 hA hB hd h hm h0 c
def aeY(hA:0<A)(h:ED A U n e)(h0:0<=m)(p:List Nat×gI):eG (xY A e.rk m) (uG e m p):=eG.sum λc _=>arU hA h h0 c
def E5(A:Nat)(e:fC)(x:Rat):∀{l:List (List Nat×gI)}{p:List Nat×gI},p∈l->xY A p.2 (lU e x p)∣ahg A e x l
 |q::l,p,h=>by
  rcases bw.mp h with rfl|h
  .exact aL _ _
  .exact bN (E5 A e x h) (gk _ _)
def aag(hA:0<A)(h:ED A U n e)(h0:0<=m):∀{l:List (List Nat×gI)},(∀p∈l,p∈e.ps)->0<ahg A e m l
 |[],_=>Nat.zero_lt_one
 |p::l,hl=>bX (uh hA (h.ps p (hl p kc)).D (oG h.nn h0 p)) (aag hA h h0 λq hq=>hl q (by simp[hq]))
def JI(hA:0<A)(h:ED A U n e)(h0:0<=m):0<Du A e m:=bX (uh hA h.rk.D h0) (aag hA h h0 λ_ h=>h)
def ak3(hA:0<A)(hB:0<B)(hd:A∣B)(h:ED A U n e)(hm:eG B m)(h0:0<=m)(c:Nat):eG (B*Du A e m) (uI e m c):=by
 have hp:=bX hB (JI hA h h0);have hp1:=bX hB (uh hA h.rk.D h0);unfold uI;refine eG.add ?_ (eG.sum λp hp'=>?_)
 .split
  .exact eG.zero _
  .exact(ak2 hA hB hd h hm h0 c).dvd (cD _ (aL _ _)) hp
 .refine(arS hA hp1 (bN hd (aL _ _)) (h.ps p hp').D (aaf hA hB hd h hm h0 p) (oG h.nn h0 p) c).dvd ?_ hp;rw[eN];exact cD _ (cD _ (E5 A e m hp'))
def ak4(hA:0<A)(h:ED A U n e)(h0:0<=m)(c:Nat):eG (Du A e m) (yT e m c):=by
 have hp:=JI hA h h0;unfold yT;refine eG.add ?_ (eG.sum λp hp'=>?_)
 .split
  .exact eG.zero _
  .exact(arU hA h h0 c).dvd (aL _ _) hp
 .exact(arT hA (h.ps p hp').D (oG h.nn h0 p) (uh hA h.rk.D h0) (aeY hA h h0 p) c).dvd (cD _ (E5 A e m hp')) hp
end
end Go.Proofs.Xe
namespace Go.Proofs.Ins
def BD(l:Lg):gJ:=(l.e.toNat,l.k.toNat)
def bI(g:fH):GL:=⟨λi=>bZ (ix g.e i),λi=>(ix g.e i).c.length,λi c=>(ix (ix g.e i).c c).h,g.d.map λd=>(d.w.q,d.l.map BD)⟩
theorem aeZ{q:Rat}(h:¬sg q<0):0<=q:=by grind[sg]
def apX:TK (λq=>0<=q) where
 min:=λa b ha hb=>by grind[kS]
 sub:=λa b ha hb=>by grind[kS]
 zero:=aR
structure EZ(n:Nat)(i:Nat)(e:vZ):Prop where
 nc:e.c.length<=24
 na:e.a.length<=12
 m:0<=e.m.q
 c:∀k,k<e.c.length->0<=(ix e.c k).r/\(ix e.c k).r<=7/\0<=(ix e.c k).a.q/\((ix e.c k).h=-1\/0<=(ix e.c k).h/\(ix e.c k).h<n/\(ix e.c k).h≠i)
 a:∀k,k<e.a.length->(ix e.a k).length<=24/\(∀t,t<(ix e.a k).length->(ix (ix e.a k) t).length<=24)/\∀t∈ix e.a k,∀x∈t,TL (λq=>0<=q) e.c.length x/\(x.k≠-1->Bf e.a k x.k=false)
def azg{e:vZ}{n i:Nat}(h:Dp e=0)(hh:∀k,k<e.c.length->¬((n:Int)<=(ix e.c k).h\/(ix e.c k).h=(i:Int))):EZ n i e:=by
 unfold Dp at h;split at h
 .cases h
 next h0=>
 split at h
 .cases h
 next h1=>
 split at h
 .omega
 next h2=>
 have h2:Dn (λi=>Qh (ix e.c i)) e.c.length=0:=br h2;refine⟨jb,jb,aeZ h1,λk hk=>?_,λk hk=>?_⟩
 .grind[iU,Qh,aeZ]
 .have ha:=iU h k hk;unfold Zc at ha;split at ha
  .cases ha
  next hl=>
  have hl:=Eo.mp (by simpa using hl);refine⟨hl.1,hl.2,λt ht x hx=>?_⟩;obtain⟨j,hj,rfl⟩:=aD ht;obtain⟨p,hp,rfl⟩:=aD hx;have hT:=iU ha j hj;unfold auh at hT;rw[dV hj]at hT;have hP:=iU hT p hp;rw[dV hp]at hP;generalize (ix e.a k)[j][p]=x at*;unfold abY at hP;split at hP
  .cases hP
  next c1=>
  split at hP
  .cases hP
  next c2=>
  split at hP
  .cases hP
  next c3=>
  split at hP
  .cases hP
  next c4=>
  refine⟨⟨jb,λhq=>?_⟩,λhn=>by grind⟩;grind[aeZ]
structure GZ(g:fH):Prop where
 ne:g.e.length<=8
 nd:g.d.length<=16
 e:∀i,i<g.e.length->EZ g.e.length i (ix g.e i)
 l:∀d,d<g.d.length->(ix g.d d).l.length<=8/\0<=(ix g.d d).w.q/\∀k,k<(ix g.d d).l.length->∃e j:Nat,ix (ix g.d d).l k=⟨(e:Int),(j:Int)⟩/\e<g.e.length/\j<(ix g.e e).c.length/\Jj (oJ g.d d k) (ix (ix g.d d).l k)=false/\holdL g.e (ix (ix g.d d).l k)=holdL g.e (ix (ix g.d d).l 0)
def Q9{g:fH}(h:Np g=0):GZ g:=by
 unfold Np at h;split at h
 .cases h
 next h0=>
 split at h
 .omega
 next h1=>
 split at h
 .omega
 next h2=>
 have h1:Dn (λi=>Dp (ix g.e i)) g.e.length=0:=br h1;have h2:Dn (λi=>Dn (Qj g i) (ix g.e i).c.length) g.e.length=0:=br h2;refine⟨jb,jb,λi hi=>azg (iU h1 i hi) λk hk hx=>?_,λd hd=>?_⟩
 .grind[iU,Qj]
 .have hD:=iU h d hd;unfold TA at hD;split at hD
  .cases hD
  next d0=>
  split at hD
  .cases hD
  next d1=>
  refine⟨jb,aeZ d1,λk hk=>?_⟩;have hL:=iU hD k hk;unfold abZ at hL;dsimp only at hL;split at hL
  .cases hL
  next hr=>
  split at hL
  .cases hL
  next hm=>
  split at hL
  .cases hL
  next hh=>
  have hm:Jj (oJ g.d d k) (ix (ix g.d d).l k)=false:=by simpa using hm
  have hh:holdL g.e (ix (ix g.d d).l k)=holdL g.e (ix (ix g.d d).l 0):=br hh;revert hm hh;generalize hx:ix (ix g.d d).l k=x at*;obtain⟨e,j⟩:=x;dsimp only at hr;intro hm hh;refine⟨e.toNat,j.toNat,?_,jb,jb,hm,hh⟩;rw[fe jb,fe jb]
def Rh{α β:Type}[Inhabited α](f:α->List β):∀l:List α,(∀k,k<l.length->(f (ix l k)).Nodup/\∀j,j<k->∀x,x∈f (ix l k)->x∉f (ix l j))->(l.flatMap f).Nodup:=by
 intro l;have key:∀k,k<=l.length->(∀k,k<l.length->(f (ix l k)).Nodup/\∀j,j<k->∀x,x∈f (ix l k)->x∉f (ix l j))->((l.take k).flatMap f).Nodup:=by
  intro k;induction k with
  |zero=>simp
  |succ k ih=>
   intro hk h
   rw[bU jb,cL,fm]
   have hs:[ix l k].flatMap f=f (ix l k):=by simp
   rw[hs]
   refine⟨ih jb h,(h k jb).1,λa ha b hb e=>?_⟩
   subst e
   obtain⟨y,hy,hay⟩:=cC.mp ha
   obtain⟨j,hj,rfl⟩:=aD hy
   grind[dV]
 grind[List.take_length]
def aah{α β:Type}[Inhabited α][Inhabited β](f:α->β){l:List α}{i:Nat}(h:i<l.length):ix (l.map f) i=f (ix l i):=by grind[dV]
section
variable {n i:Nat} {e:vZ}
theorem EZ.prt(h:EZ n i e){k:Nat}(hk:k<e.a.length):∀t∈ix e.a k,∀x∈t,x.k=-1\/0<=x.k/\x.k<e.c.length:=λt ht x hx=>(((h.a k hk).2.2 t ht x hx).1).1
def ak5{α:Type}[Inhabited α]{l:List α}{k:Nat}(h:l.length<=k):ix l k=default:=by grind[ix]
def R3.arV:(default:R3).q=0:=by rfl
def EZ.amt(h:EZ n i e)(k:Nat):0<=(ix e.c k).a.q:=by
 by_cases hk:k<e.c.length
 .exact(h.c k hk).2.2.1
 .rw[ak5 jb];rfl
def Oq{cs:List C5}{k:Nat}{t:dJ}:t∈Tc cs k↔∃r,r<8/\t=Cj cs r k:=by grind[Tc]
def FY(h:EZ n i e):BZ (bZ e)/\InE e.c.length (bZ e):=by
 have hA:∀k,k<e.a.length->yU (λq=>0<=q) e.c.length (qB e.c (ix e.a k)).2:=λk hk=>aeX apX h.amt λt ht x hx=>((h.a k hk).2.2 t ht x hx).1;refine⟨⟨λt ht p hp=>?_,λp hp t ht q hq=>?_⟩,⟨λt ht p hp=>?_,λp hp t ht q hq=>?_,?_,λi hi=>?_⟩⟩
 .obtain⟨r,-,rfl⟩:=Oq.mp ht;exact(Q8 (P:=λq=>0<=q) (λi _=>h.amt i) r _ jp p hp).2
 .obtain⟨a,ha,rfl⟩:=cT.mp hp;obtain⟨k,hk,rfl⟩:=aD ha;rw[<-dV hk]at ht;exact(hA k hk t ht q hq).2
 .obtain⟨r,-,rfl⟩:=Oq.mp ht;exact(Q8 (P:=λq=>0<=q) (λi _=>h.amt i) r _ jp p hp).1
 .obtain⟨a,ha,rfl⟩:=cT.mp hp;obtain⟨k,hk,rfl⟩:=aD ha;rw[<-dV hk]at ht;exact(hA k hk t ht q hq).1
 .show((e.a.map (qB e.c)).flatMap (·.1)).Nodup;rw[ie];refine Rh (λa=>(qB e.c a).1) e.a λk hk=>⟨Hw (h.prt hk),λj hj x hx hx2=>?_⟩
  have h1:=(wC (h.prt hk)).mp hx;have h2:=(wC (h.prt (by omega:j<e.a.length))).mp hx2;obtain⟨t,ht,hm⟩:=dy.mp h1;obtain⟨y,hy,ey⟩:=dy.mp hm;have ey:y.k=(x:Int):=by grind
  have:=((h.a k hk).2.2 t ht y hy).2 jb;rw[ey]at this;unfold Bf at this;rw[List.any_eq_false]at this;refine this (ix e.a j) ?_ h2;rw[<-WC (l:=e.a) hj];grind[ni]
 .obtain⟨p,hp,hi⟩:=cC.mp hi;obtain⟨a,ha,rfl⟩:=cT.mp hp;obtain⟨k,hk,rfl⟩:=aD ha;rw[<-dV hk]at hi;have h1:=(wC (h.prt hk)).mp hi;have:=vS (h.prt hk) i (sO.mpr ⟨jb,h1⟩);omega
end
def avi{g:fH}(h:GZ g):Ny g.e.length (bI g):=by
 refine⟨λi hi=>(FY (h.e i hi)).1,λi hi=>(FY (h.e i hi)).2,λi c hi hc=>?_,λl hl=>?_,?_,λd hd=>?_⟩
 .have:=((h.e i hi).c c hc).2.2.2;show(ix (ix g.e i).c c).h=-1\/0<=(ix (ix g.e i).c c).h/\(ix (ix g.e i).c c).h<(g.e.length:Int);omega
 .obtain⟨d,hd,hl⟩:=cC.mp hl;obtain⟨d',hd',rfl⟩:=cT.mp hd;obtain⟨j,hj,rfl⟩:=aD hd';obtain⟨x,hx,rfl⟩:=cT.mp hl;rw[<-dV hj]at hx;obtain⟨k,hk,rfl⟩:=aD hx;obtain⟨a,b,e1,h1,h2,-⟩:=(h.l j hj).2.2 k hk;rw[<-dV hk,e1];exact⟨h1,h2⟩
 .show((g.d.map λd=>(d.w.q,d.l.map BD)).flatMap (·.2)).Nodup;rw[ie];have key:∀d,d<g.d.length->∀k,k<(ix g.d d).l.length->∀y∈oJ g.d d k,(0<=y.e/\0<=y.k)->BD y≠BD (ix (ix g.d d).l k):=λd hd k hk y hy hn e=>by obtain⟨a,b,e1,h1,h2,h3,-⟩:=(h.l d hd).2.2 k hk;grind[Go.Proofs.Ins.Jj,Go.Proofs.Ins.BD]
  have nn:∀d,d<g.d.length->∀y∈(ix g.d d).l,0<=y.e/\0<=y.k:=λd hd y hy=>by obtain⟨k,hk,rfl⟩:=aD hy;obtain⟨a,b,e1,-⟩:=(h.l d hd).2.2 k hk;grind[dV]
  refine Rh (λd:pX=>d.l.map BD) g.d λd hd=>⟨?_,λj hj x hx hx2=>?_⟩
  .have:(List.range (ix g.d d).l.length).Pairwise (· < ·):=List.pairwise_lt_range;rw[ik,List.pairwise_map,io];intro a b ha hb hab;have:=key d hd b hb (ix (ix g.d d).l a) (List.mem_append_right _ ?_) ?_
   .grind[dV]
   .rw[<-WC (l:=(ix g.d d).l) hab];grind[ni]
   grind[ni]
  .obtain⟨y,hy,rfl⟩:=cT.mp hx;obtain⟨z,hz,e⟩:=cT.mp hx2;obtain⟨k,hk,rfl⟩:=aD hy;rw[<-dV hk]at e;refine key d hd k hk z (ic _ (cC.mpr ⟨ix g.d j,?_,hz⟩)) (nn j jb z hz) e;rw[<-WC (l:=g.d) hj];grind[ni]
 .obtain⟨d',hd',rfl⟩:=cT.mp hd;obtain⟨j,hj,rfl⟩:=aD hd';rw[<-dV hj];exact(h.l j hj).2.1
end Go.Proofs.Ins
namespace Go.Proofs.Xe
open Go.RowKit Go.Proofs.Ins
def vQ:Rat:=((256^uK:Nat):Rat)
def uQ:Rat:=((256^900:Nat):Rat)
def Ri:0<=uQ:=by have:((0:Nat):Rat)<=((256^900:Nat):Rat):=bj.mpr (aM _);exact this
def pow_two{a b c:Nat}(h:a+b=c):256^a*256^b=256^c:=by rw[<-h,dT]
def Hz{k:Nat}(h:k<=256^100):(k:Rat)*uQ<=vQ:=by
 unfold uQ vQ;rw[<-eI];refine bj.mpr ?_;calc k*256^900<=256^100*256^900:=bh _ h
  _=256^uK:=pow_two (show 100+900=uK from rfl)
def Rj{k:Nat}(h:k<=256^100):(k:Rat)<=vQ:=by unfold vQ;exact bj.mpr (ar h (bq jj jj))
abbrev JJ(A:Nat)(q:Rat):Prop:=eG A q/\0<=q/\q<=uQ
section
variable {A n:Nat} {l:gI}
def Xm{t:dJ}(h:Bz (JJ A) n t):aX t<=(t.length:Rat)*uQ:=by
 induction t with
 |nil=>show(0:Rat)<=_;simp
 |cons p t ih=>
  have h1:=ih λq hq=>h q (by simp[hq])
  have h2:=(h p kc).2.2.2
  rw[bL,fY]
  grind[aX]
def Qk:∀{l:gI},yU (JJ A) n l->jR l<=(dI l:Rat)*uQ
 |[],_=>by show(0:Rat)<=((0:Nat):Rat)*uQ;simp
 |t::l,h=>by have h1:=Qk (l:=l) λu hu=>h u (by simp[hu]);have h2:=Xm (h t kc);show aX t+jR l<=((t.length+dI l:Nat):Rat)*uQ;grind
theorem AA:∀{l:gI},MW l->0<=jR l
 |[],_=>aR
 |t::l,h=>by have:=AA (l:=l) λu hu=>h u (by simp[hu]);have:=zW (h t kc);show 0<=aX t+jR l;grind
def ak6:∀{l:gI}{j:Nat},MW l->j<l.length->aX (ix l j)<=jR l
 |t::l,0,h,_=>by have:=AA (l:=l) λu hu=>h u (by simp[hu]);show aX t<=aX t+jR l;grind
 |t::l,j+1,h,hj=>by have:=ak6 (l:=l) (j:=j) (λu hu=>h u (by simp[hu])) (by simpa using hj);have:=zW (h t kc);show aX (ix l j)<=aX t+jR l;grind
theorem acJ:∀{l:gI}(k:Nat),MW l->0<=Dt l k/\Dt l k<=jR l
 |[],k,h=>by unfold Dt;rw[List.take_nil];exact⟨aR,aR⟩
 |t::l,0,h=>⟨aR,AA h⟩
 |t::l,k+1,h=>by obtain⟨h1,h2⟩:=acJ (l:=l) k λu hu=>h u (by simp[hu]);have:=zW (h t kc);unfold Dt at h1 h2⊢;rw[fq];show 0<=aX t+jR _/\aX t+jR _<=aX t+jR l;grind
end
structure EB(n:Nat)(e:fC):Prop where
 nb:n<=1000
 r0:0<e.rk.length
 r1:e.rk.length<=1000
 rn:dI e.rk<=1000
 ps:e.ps.length<=1000
 m:∀p∈e.ps,p.1.length<=1000/\∀i∈p.1,i<n
 p:∀p∈e.ps,0<p.2.length/\p.2.length<=1000/\dI p.2<=10000
section
variable {A B R D n:Nat} {l:gI} {m x:Rat}
theorem pY(hD:Dl D)(hB:B∣D){q:Rat}(h:eG B q)(h0:0<=q)(h1:q<=vQ):Zk D 1 q:=Zk.of hD.1 (h.dvd hB hD.1) h0 h1
theorem qC:2<=256^uK:=ar (by decide:2<=256^1) (bq jj jj)
def FZ:∀{l:gI}{t:dJ},t∈l->t.length<=dI l
 |u::l,t,h=>by
  unfold dI;rcases bw.mp h with rfl|h
  .omega
  .have:=FZ h;omega
def aai(hD:Dl D)(hA:A∣D)(h:yU (JJ A) n l)(hl:l.length<=1000)(hn:dI l<=10000):QW D n l:=by
 have hU:=Hz (k:=10000) jj;have hU1:=Hz (k:=1) jj;have hz:∀t∈l,∀p∈t,Zk D 1 p.2:=λt ht p hp=>by have:=(h t ht p hp).2;grind[Go.Proofs.Xe.pY]
 refine⟨jb,λt ht=>by have:=FZ ht;omega,λt ht=>?_,λt ht p hp=>(h t ht p hp).1,λt ht p hp=>(hz t ht p hp).sz hD (by grind[qC]),hz⟩;have h1:=Xm (h t ht);have h2:(t.length:Rat)<=((10000:Nat):Rat):=bj.mpr (by have:=FZ ht;omega);have h3:=be h2 Ri;refine(pY hD hA (EX λp hp=>⟨(h t ht p hp).2.1,(h t ht p hp).2.2.1⟩) (zW λp hp=>(h t ht p hp).2.2.1) kd).sz hD (by grind[qC])
def Ot(hA0:0<A)(hD:Dl D)(hA:A∣D)(h:yU (JJ A) n l)(hn:dI l<=10000)(hB:B∣D)(hm:eG B m)(h0:0<=m)(h1:m<=vQ)(hR0:0<R)(hR:R*xY A l m∣D)(hx:eG R x)(hx0:0<=x)(hx1:x<=vQ):QX D l m x:=by
 have hnn:=h.D.nn;have hR1:R∣D:=bN (aL _ _) hR;have hU:=Hz (k:=10000) jj;have h2:(dI l:Rat)<=((10000:Nat):Rat):=bj.mpr hn;have h3:=be h2 Ri;have ht:=Qk h;have hu:=qC;have hzx:=pY hD hR1 hx hx0 hx1;refine⟨λk _=>?_,h0,hzx.sz hD jb,λhf=>?_,λhf p hp=>?_⟩
 .have hc:=acJ k hnn;exact((pY hD hB hm h0 h1).sub (pY hD hA (ak0 h.D k) hc.1 kd)).sz hD jb
 .have hs:=BA h0 hf;have:=ak6 hnn hf;exact hzx.ax7 (pY hD hA (EX (h.D _ (gV hf))) (ec hs) kd) hD jb jb kd
 .have hs:=BA h0 hf;have hpp:=h.D _ (gV hf) p hp;have hps:p.2<=aX (ix l (dS l m)):=by
   have:∀t:dJ,(∀q∈t,0<=q.2)->p∈t->p.2<=aX t:=λt=>by
    induction t with
    |nil=>simp
    |cons q t ih=>
     intro hq hp
     show p.2<=q.2+aX t
     have h4:=hq q kc
     have h5:0<=aX t:=zW λr hr=>hq r (by simp[hr])
     grind
   exact this _ (λq hq=>(h.D _ (gV hf) q hq).2) hp
  have e:p.2*(x/aX (ix l (dS l m)))=x*(p.2/aX (ix l (dS l m))):=by grind
  have h4:=yQ hs hps;have h5:=acy hpp.2 hs;have h6:=cP h4 hx0;refine pY hD hR (ak1 hA0 h.D h0 hR0 hx hf hpp.1) ?_ ?_
  .grind[Rat.mul_nonneg]
  grind
def left_le(h0:0<=m)(h:MW l):0<=jZ l m/\jZ l m<=m:=by grind[Go.Proofs.Xe.Xg,Go.Proofs.Xe.QU,Go.Proofs.Xe.acJ]
def avj{l:gI}(h:MW l)(c:Int):∀{m:Rat},0<=m->iE l m c<=jR l:=by
 induction l with
 |nil=>intro m _;rfl
 |cons t l ih=>
  intro m hm
  have hl:=AA (l:=l) λu hu=>h u (by simp[hu])
  have h2:=Oe (h t kc) c
  have h3:=xW (h t kc) c
  unfold iE
  show _<=aX t+jR l
  split
  .next hlt=>
   have h4:=yQ (a:=m) (b:=aX t) kd (ec hlt)
   have h5:=cP h4 h3
   grind
  .have:=ih (λu hu=>h u (by simp[hu])) (m:=m-aX t) kd
   grind
def Xn{l:gI}(h:MW l)(c:Int){x:Rat}(hx:0<=x)(h0:0<=m):kN l m x c<=x:=by
 rw[FW];split
 .next hf=>
  have hs:=BA h0 hf;have hl:=h _ (gV hf);have e:gQ (ix l (dS l m)) c*(x/aX (ix l (dS l m)))=x*(gQ (ix l (dS l m)) c/aX (ix l (dS l m))):=by grind
  rw[e];have h4:=yQ hs (Oe hl c);have h6:=cP h4 hx;grind
 omega
end
section
variable {A B D n:Nat} {m:Rat} {e:fC}
def uj{α:Type}{f:α->Rat}{v:Rat}(h0:0<=v):∀{l:List α}{k:Nat},(∀a∈l,f a<=v)->l.length<=k->aK l f<=(k:Rat)*v
 |[],k,_,_=>by have:((0:Nat):Rat)<=(k:Rat):=bj.mpr (aM _);exact cg this h0
 |a::l,k,h,hk=>by
  obtain⟨k,rfl⟩:∃j,k=j+1:=⟨k-1,by simp at hk;omega⟩
  have h1:=uj h0 (l:=l) (k:=k) (λb hb=>h b (by simp[hb])) (by simpa using hk);have h2:=h a kc;show f a+aK l f<=_;rw[fY];have:((1:Nat):Rat)=1:=rfl;grind
def ak7(h:ED A uQ n e)(hb:EB n e)(h0:0<=m){p:List Nat×gI}(hp:p∈e.ps):lU e m p<=vQ:=by have ht:=Qk h.rk;have h2:(dI e.rk:Rat)<=((1000:Nat):Rat):=bj.mpr hb.rn;have h3:=be h2 Ri;have h4:=uj (f:=AU e m) (v:=((1000:Nat):Rat)*uQ) (cg (bj.mpr (aM 1000)) Ri) (l:=p.1) (k:=1000) (λc _=>cF (avj h.rk.D.nn c h0) (cF ht h3)) (hb.m p hp).1;have h5:=Hz (k:=1000*1000) jj;grind[lU]
def avk(h:ED A uQ n e)(hb:EB n e)(h0:0<=m){p:List Nat×gI}(hp:p∈e.ps):uG e m p<=vQ:=by have h4:=uj (f:=rts e m) (v:=1) jj (l:=p.1) (k:=1000) (λc _=>Xn h.rk.D.nn c jj h0) (hb.m p hp).1;have h5:=Rj (k:=1000) jj;grind[uG]
def ak8(hD:Dl D)(hA:A∣D)(h:ED A uQ n e)(hb:EB n e):EOk D n e:=by
 have hn:=hb.nb;have hps:=hb.ps;refine⟨jb,aai hD hA h.rk hb.r1 (by have:=hb.rn;omega),hb.r0,jb,λp hp=>⟨by have:=(hb.m p hp).1;omega,(hb.m p hp).2⟩,λp hp=>⟨aai hD hA (h.ps p hp) (hb.p p hp).2.1 (hb.p p hp).2.2,(hb.p p hp).1⟩,?_⟩;have h1:∀l:List (List Nat×gI),(∀p∈l,dI p.2<=10000)->JH l<=l.length*10000:=λl=>by
  induction l with
  |nil=>intro _;exact cx 0
  |cons p l ih=>
   grind[JH]
 have h2:=h1 e.ps λp hp=>(hb.p p hp).2.2;have h3:=hb.rn;grind[uK]
def ak9(hA0:0<A)(hB0:0<B)(hAB:A∣B)(hD:Dl D)(hBD:B*Du A e m∣D)(h:ED A uQ n e)(hb:EB n e)(hm:eG B m)(h0:0<=m)(h1:m<=vQ):MOk D e m:=by
 have hB:B∣D:=bN (aL _ _) hBD;have hA:A∣D:=bN hAB hB;have hr:B*xY A e.rk m∣D:=bN (cD _ (aL _ _)) hBD;have hr0:=bX hB0 (uh hA0 h.rk.D h0);refine⟨(pY hD hB hm h0 h1).sz hD (by grind[qC]),?_,λp hp=>?_⟩
 .have hl:=left_le h0 h.rk.D.nn;exact Ot hA0 hD hA h.rk (by have:=hb.rn;omega) hB hm h0 h1 hB0 hr (acI hA0 hB0 hAB h.rk.D hm) hl.1 (cF hl.2 h1)
 .have hg:=oG h.nn h0 p;have hgD:=aaf hA0 hB0 hAB h hm h0 p;have hgl:=ak7 h hb h0 hp;have hl:=left_le hg (h.ps p hp).D.nn;have hd:B*xY A e.rk m*xY A p.2 (lU e m p)∣D:=by refine bN ?_ hBD;rw[eN];exact cD _ (cD _ (E5 A e m hp))
  exact⟨Ot hA0 hD hA (h.ps p hp) (hb.p p hp).2.2 hr hgD hg hgl hr0 hd (acI hA0 hr0 (bN hAB (aL _ _)) (h.ps p hp).D hgD) hl.1 (cF hl.2 hgl),(pY hD hr hgD hg hgl).sz hD (by grind[qC])⟩
def ala(hA0:0<A)(hB0:0<B)(hAB:A∣B)(hD:Dl D)(hBD:B*Du A e m∣D)(h:ED A uQ n e)(hb:EB n e)(hm:eG B m)(h0:0<=m)(h1:m<=vQ):ROk D e m:=by
 have hB:B∣D:=bN (aL _ _) hBD;have hA:A∣D:=bN hAB hB;have hr:B*xY A e.rk m∣D:=bN (cD _ (aL _ _)) hBD;have hr0:=uh hA0 h.rk.D h0;have hr1:xY A e.rk m∣D:=bN (gk _ _) hr;have h1v:=Rj (k:=1) jj;refine⟨?_,λp hp=>?_⟩
 .exact Ot (R:=1) hA0 hD hA h.rk (by have:=hb.rn;omega) hB hm h0 h1 jj kd ⟨1,by grind⟩ jj h1v
 .have hg:=oG h.nn h0 p;have hgD:=aaf hA0 hB0 hAB h hm h0 p;have hgl:=ak7 h hb h0 hp;have hR:=Lh h.nn h0 p;have hRD:=aeY hA0 h h0 p;have hRl:=avk h hb h0 hp;have hd:xY A e.rk m*xY A p.2 (lU e m p)∣D:=by refine bN ?_ (bN (gk _ _) hBD);exact cD _ (E5 A e m hp)
  exact⟨Ot hA0 hD hA (h.ps p hp) (hb.p p hp).2.2 hr hgD hg hgl hr0 hd hRD hR hRl,(pY hD hr1 hRD hR hRl).sz hD (by grind[qC])⟩
end
section
variable {E:Env} [ab4 E] {p:Nat→Prop} {J:St} {K:V→St→Prop}
def aaj{v:B}{a:fD}(ha:dR p J.h v a)(h1:a.length<=1000000)(h2:a.flatten.length<=1000000){v':V}{J':St}(hm:aj2 a.flatten J=some (v',J')):aC E 105 [.c v] J K=K v' J':=
 UK (by have h:=(aoL ha h1 h2).trans hm;unfold Zm;rw[aeb rfl];unfold aoN aj7;simp only[Nat.reduceEqDiff,reduceIte,h])
def Vd{v:B}{a:fD}(ha:dR p J.h v a)(h1:a.length<=1000000)(h2:a.flatten.length<=1000000){v':V}{J':St}(hm:aj1 (xP a) J=some (v',J')):aC E 69 [.agg [v]] J K=K v' J':=
 UK (by have h:=(aoK ha h1 h2).trans hm;unfold Zm;rw[aeb rfl];unfold aoN aj7;simp only[Nat.reduceEqDiff,reduceIte,h])
end
def Ve{E:Env}[ab4 E]{J:St}(hW:WF J){p:Nat->Prop}{v:B}{a:fD}(ha:dR p J.h v a)(h1:a.length<=1000000)(h2:a.flatten.length<=1000000):
  aC E 69 [.agg [v]] J λr J'=>(∃u,r=.c u/\iZ J'.h u (xP a).length (λi=>[.int .i64 (ix (xP a) i)]) 1 3 J.aj J'.aj)/\Fr J J':=by
 by_cases h0:(xP a).length=0
 .rw[Vd ha h1 h2 (v':=.c .aO) (J':=J) (ab h0)]
  exact⟨⟨_,rfl,.inl ⟨h0,rfl⟩⟩,Fr.refl hW⟩
 .rw[Vd ha h1 h2 (ae h0)]
  exact⟨⟨_,rfl,.inr ⟨jb,_,rfl,ay _ _ _,jp,bB _⟩⟩,fr⟩
def apY{a:fD}{n:Nat}(ha:∀t∈a,∀x∈t,x.k=-1\/0<=x.k/\x.k<n){i:Nat}(hi:i<(xP a).length):B.int .i64 (ix (xP a) i)=TG (kU a) i:=by unfold TG kU;rw[aah Int.toNat hi];have:=vS ha _ (ni hi);grind
def Rk(a:fD):(kU a).length=(xP a).length:=cn _
structure TS(J:St)(tb bs:Nat)(t:dJ):Prop where
 b:J.h tb=some ⟨kT (aW t.length bs) (aX t),none⟩
 o:Q7 J.h bs t
 lo:tb<bs
 hi:t.length=0\/bs<J.aj
def TS.lt{J:St}(hW:WF J){tb bs:Nat}{t:dJ}(h:TS J tb bs t):tb<J.aj:=hW.lt h.b
def TS.on{J J':St}{tb bs:Nat}{t:dJ}(h:TS J tb bs t)(h1:∀b,tb<=b->b<J.aj->J'.h b=J.h b)(hW:WF J)(hle:J.aj<=J'.aj):TS J' tb bs t:=by have h0:=h.lt hW;have hlo:=h.lo;have hhi:=h.hi;refine⟨by rw[h1 tb jp h0];exact h.b,?_,hlo,jb⟩;refine(xO ?_).trans h.o;grind
theorem TS.fr{J J':St}{tb bs:Nat}{t:dJ}(h:TS J tb bs t)(hW:WF J)(hf:Fr J J'):TS J' tb bs t:=h.on (λb _ hb=>hf.old b hb) hW hf.le
def TS.fre{J J':St}{ex:List Nat}{tb bs:Nat}{t:dJ}(h:TS J tb bs t)(hW:WF J)(hf:aU ex J J')(hx:∀b∈ex,b<tb):TS J' tb bs t:=h.on (λb h1 h2=>hf.old b h2 λhm=>by grind) hW hf.le
def acK{J:St}(hW:WF J){tb bs:Nat}{t:dJ}(hT:TS J tb bs t)(hl:t.length<=1000000)(k:Int)(q:Rat)(hs:Sz (aX t))(hq:Sz q):
  aC EN 109 [.c (.ptr tb 0),.c (.int .i64 k),.agg (rK q)] J λ_ J'=>(∃bs',TS J' tb bs' (t++[(k,q)]))/\(∀b,b<tb->J'.h b=J.h b)/\WF J'/\J.aj<=J'.aj:=by
 have h0:=hT.lo
 have hlt:=hT.lt hW
 have:=akV (G:=λ_=>kT (aW t.length bs) (aX t)) (n:=1) (r:=0) hW (by rw[hT.b];rfl) jj (λ_=>rfl) rfl rfl rfl hT.o (.inr jb) hT.hi hl k q hs hq
 refine this.mono ?_
 rintro _ J' ⟨nx,h1,h2,h3,h4,h5⟩
 have hle:=h5.le
 refine⟨⟨nx,?_,?_,jb,.inr h2⟩,λb hb=>h5.old b jb kd,h5.wf,hle⟩
 .rw[h3,Va,ax];rfl
 .unfold Q7
  rw[ax,bR]
  show J'.h nx=some _
  grind[Go.Proofs.Xe.jv,Go.Proofs.Xe.bf,Go.Proofs.Xe.iC,Go.Proofs.Xe.ig,Go.Proofs.Xe.gZ]
def apZ(U:Nat->B)(Lf:Nat->dJ)(p:Nat->Prop)(h:Tr Bk)(i:Nat):Prop:=aZ p h 4 (U i) (Lf i).length λc=>Bo (ix (Lf i) c)
def aak(U:Nat->B)(Lf:Nat->dJ)(i:Nat):List B:=kT (U i) (aX (Lf i))
abbrev acL(U:Nat->B)(Lf:Nat->dJ)(h:Tr Bk)(b n lo hi:Nat):Prop:=NF (apZ U Lf) h b n (aak U Lf) 4 170 lo hi
def Xo(U:Nat->B)(Lf:Nat->dJ)(j:Nat):QK (apZ U Lf) j:=λ_ _ _ _ hp hk hq=>aZ.keep hp hk hq
def Xp(U:Nat->B)(Lf:Nat->dJ):LG (aak U Lf) 4:=λ_=>rfl
section
variable {U:Nat→B} {Lf:Nat→dJ} {h h' : Tr Bk} {b n lo hi:Nat}
def acL.push(ho:acL U Lf h b n lo hi){σ1:St}(hW:WF σ1){tb bs nx n':Nat}{t:dJ}(hL:Lf n=t)(hT:TS σ1 tb bs t)(ht:hi<=tb)(h5:lo<=hi)(hh:∀b,lo<=b->b<hi->σ1.h b=h b)(h3:σ1.aj<=nx)(h4:nx<n')
  (hb:h' nx=some ⟨aY n (aak U Lf)++kT (aW t.length bs) (aX t),some (4,170)⟩) (hk:∀c,lo<=c->c<σ1.aj->n=0\/c≠b->h' c=σ1.h c):acL (aJ U n (aW t.length bs)) Lf h' nx (n+1) lo n':=by
 have hlt:=hT.lt hW
 have hlo:=hT.lo
 have hx:aZ (λb=>hi<=b/\b<σ1.aj) σ1.h 4 (aW t.length bs) t.length λj=>Bo (ix t j):=hT.o.hlp (by rcases hT.hi with h0|h0;exact .inl h0;omega)
 refine NF.push ho (λj _=>Xo _ Lf j) (λj hj p h hq=>?_) (hi1:=σ1.aj) (h1:=σ1.h) ?_ hh jb h3 h4 h5 hb ?_ hk (λi hi=>?_) (Xp _ _)
 .grind[apZ,aQ]
 .grind[apZ,aI]
 .grind[aak,aI]
 grind[aak,aQ]
def acL.avl(ho:acL U Lf h b n lo hi){l:gI}(hl:l.length=n)(hL:∀i,i<n->Lf i=ix l i):zY (λb=>lo<=b/\b<hi) h (aW n b) l:=by
 have hel:=λi (hi:i<n)=>ho.el (λj _=>Xo U Lf j) hi;refine⟨U,?_,by cases n<;>trivial,λi hi=>?_⟩
 .rw[hl];refine(ho.hlp jj (λi hi=>?_) λb h1 h2=>⟨h1,h2⟩).congr λi hi=>by grind[aak]
  unfold aak kT;simp only[cy,di,vK,Am,(hel i hi).kn,cI]
 .rw[hl]at hi;rw[<-hL i hi];exact hel i hi
end
def lsS(cs:List C5)(a:fD)(j:Nat):(Nat->Rat)×gI:=(a.take j).foldl ltS ((λi:Nat=>(ix cs i).a.q),[])
def Cm(f:Nat->Rat)(t:Ji)(l:Nat):(Nat->Rat)×dJ:=(t.take l).foldl Oo (f,[])
theorem Rl{cs:List C5}{a:fD}{j:Nat}(h:j<a.length):lsS cs a (j+1)=ltS (lsS cs a j) (ix a j):=by grind[lsS,bU]
def JK(cs:List C5)(a:fD):lsS cs a a.length=lsA cs a:=by grind[lsS,lsA]
def CB(cs:List C5)(a:fD):∀j,j<=a.length->(lsS cs a j).2.length=j
 |0,_=>rfl
 |j+1,h=>by rw[Rl jb];unfold ltS;rw[ax,CB cs a j jb];rfl
def acM{α:Type}[Inhabited α]{l:List α}{x:α}{n:Nat}(h:l.length=n):ix (l++[x]) n=x:=by grind[ig]
def um(m k:Nat)(F:Nat->Rat):cO m (aJ (λi=>if i<k then F i else 0) k (F k))=cO m λi=>if i<k+1 then F i else 0:=dU λi _=>by grind[aJ]
def Aa(m:Nat)(F:Nat->Rat):cO m (λi=>if i<m then F i else 0)=cO m F:=dU λi hi=>ab hi
def yV(m:Nat)(F:Nat->Rat):cO m (λ_=>0)=cO m λi=>if i<0 then F i else 0:=dU λi _=>rfl
def alb{s:(Nat->Rat)×dJ}{x:yF}{kk:Nat}(h1:¬x.k=-1)(hk:x.k=Int.ofNat kk):Oo s x=(aJ s.1 kk (s.1 kk-if x.b=true then kS (s.1 kk) x.a.q else s.1 kk),s.2++[(Int.ofNat kk,if x.b=true then kS (s.1 kk) x.a.q else s.1 kk)]):=by unfold Oo;rw[ae h1,hk];refine Prod.ext ?_ rfl;grind[aJ]
def Xq{cs:List C5}{a:fD}{i:Nat}:∀{j},i<j->j<=a.length->ix (lsS cs a j).2 i=(Cm (lsS cs a i).1 (ix a i) (ix a i).length).2
 |j+1,hi,hj=>by
  rw[Rl jb];unfold ltS;by_cases e:i=j
  .subst e;have:=CB cs a i jb;exact(acM this).trans (by unfold Cm;rw[cr])
  .show ix ((lsS cs a j).2++[_]) i=_;rw[gZ _ _ (by rw[CB cs a j jb];omega)];exact Xq jb jb
def aal{f:Nat->Rat}{t:Ji}{l:Nat}(h:l<t.length):Cm f t (l+1)=Oo (Cm f t l) (ix t l):=by grind[Cm,bU]
def Ou(f:Nat->Rat)(t:Ji):∀l,l<=t.length->(Cm f t l).2.length=l
 |0,_=>rfl
 |l+1,h=>by rw[aal jb];unfold Oo;split<;>simp[Ou f t l jb]
def alc{cs:List C5}{a:fD}{j:Nat}(h:j<a.length):(lsS cs a (j+1)).1=(Cm (lsS cs a j).1 (ix a j) (ix a j).length).1:=by grind[Rl,ltS,Cm]
def ahh(ms:List Nat)(f:Nat->Rat){i:Nat}(h:i<ms.length):wZ (ms.take (i+1)) f=wZ (ms.take i) f++[(((ix ms i:Nat):Int),f (ix ms i))]:=by grind[wZ,bU]
def ald:∀{l:List Int}{lo hi:Int},l.Pairwise (· < ·)->(∀x∈l,lo<=x/\x<hi)->l.length<=(hi-lo).toNat
 |[],_,_,_,_=>aM _
 |a::l,lo,hi,hp,h=>by
  rw[List.pairwise_cons]at hp;have h1:=h a kc;have:=ald (lo:=a+1) (hi:=hi) hp.2 λx hx=>by grind
  grind
def H6{a:fD}{n:Nat}(ha:∀t∈a,∀x∈t,x.k=-1\/0<=x.k/\x.k<n):(kU a).length<=n:=by have:=ald (ad6 a) (vS ha);rw[Rk];omega
theorem Ov(cs:List C5)(r:Nat):∀k,(Cj cs r k).length<=k
 |0=>cx 0
 |k+1=>by have:=Ov cs r k;unfold Cj;rw[ax];split<;>simp<;>omega
section
variable {A n:Nat}
def avm(hA:0<A):TK (JJ A) where
 min:=λa b ha hb=>by grind[kS]
 sub:=λa b ha hb=>by
  have h1:=ha.2;have h2:=hb.2;unfold kS;split
  .grind[eG.zero]
  .exact⟨ha.1.sub hb.1,by grind,by grind⟩
 zero:=⟨eG.zero A,aR,Ri⟩
def Rn(hA:Dl A){q:Rat}(h:JJ A q):Sz q:=by have hU:=Hz (k:=1) jj;have:((1:Nat):Rat)=1:=rfl;exact(pY hA (hJ A) h.1 h.2.1 kd).sz hA (by grind[qC])
def Xr(hA:Dl A){t:dJ}(h:Bz (JJ A) n t)(hl:t.length<=10000):Sz (aX t):=by have hU:=Hz (k:=10000) jj;have h1:=Xm h;have h2:(t.length:Rat)<=((10000:Nat):Rat):=bj.mpr hl;have h3:=be h2 Ri;exact(pY hA (hJ A) (EX λp hp=>⟨(h p hp).2.1,(h p hp).2.2.1⟩) (zW λp hp=>(h p hp).2.2.1) kd).sz hA (by grind[qC])
def avn{P:Rat->Prop}(hP:TK P){f:Nat->Rat}(hf:∀i,P (f i)){t:Ji}(ht:∀x∈t,TL P n x)(l:Nat):(∀i,P ((Cm f t l).1 i))/\Bz P n (Cm f t l).2:=
 acF hP (t.take l) hf (λ_ h=>by cases h) λx hx=>ht x (eg hx)
def avo{P:Rat->Prop}(hP:TK P){cs:List C5}(hc:∀i,P (ix cs i).a.q){a:fD}(ha:∀t∈a,∀x∈t,TL P n x)(j:Nat)(i:Nat):P ((lsS cs a j).1 i):=
 (acG hP (a.take j) hc (λ_ h=>by cases h) λt ht=>ha t (eg ht)).1 i
end
def avp(p q:Rat):KN p q=kS p q:=by
 unfold KN kS;by_cases h:p<=q
 .rw[ab h,ab (rZ.mpr h)]
 .rw[ae h,ae λe=>h (rZ.mp e)]
structure ale(A:Nat)(cs:List C5)(a:fD):Prop where
 nc:cs.length<=1000
 na:a.length<=1000
 nt:∀t,t<a.length->(ix a t).length<=1000
 nf:a.flatten.length<=1000000
 fc:∀i,i<cs.length->(ix cs i).a.fits 1000000
 fp:∀t,t<a.length->∀l,l<(ix a t).length->(ix (ix a t) l).a.fits 1000000
 c:∀i,JJ A (ix cs i).a.q
 p:∀t∈a,∀x∈t,TL (JJ A) cs.length x
end Go.Proofs.Xe
