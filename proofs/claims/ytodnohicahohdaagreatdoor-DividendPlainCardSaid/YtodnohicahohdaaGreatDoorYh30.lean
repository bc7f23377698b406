import Derived.Test.YtodnohicahohdaaGreatDoorYh29
set_option linter.all false
attribute [-go_sem] Go.Proofs.Xe.azd Go.Proofs.Xe.aze Go.Proofs.Xe.azf
namespace Go.Proofs.Xe
open Go.RowKit Go.Proofs.Ins
def eY(D:Nat)(q:Rat):Prop:=∃a:Int,q=(a:Rat)/(D:Rat)
theorem iT{D:Nat}(h:0<D):(D:Rat)≠0:=λe=>by simp_all
section
variable {A B D:Nat} {p q x s:Rat}
theorem eY.zero(D:Nat):eY D 0:=⟨0,by grind⟩
theorem eY.add(h:eY D p)(h':eY D q):eY D (p+q):=by obtain⟨a,rfl⟩:=h;obtain⟨b,rfl⟩:=h';exact⟨a+b,by grind⟩
def eY.neg(h:eY D p):eY D (-p):=by obtain⟨a,rfl⟩:=h;exact⟨-a,by grind⟩
def eY.sub(h:eY D p)(h':eY D q):eY D (p-q):=by rw[gx];exact h.add h'.neg
def eY.up(h:eY A p){k:Nat}(hk:0<k):eY (A*k) p:=by
 obtain⟨a,rfl⟩:=h;refine⟨a*k,?_⟩;have h1:=iT hk;have e2:((a*(k:Int):Int):Rat)=(a:Rat)*(k:Rat):=by rw[cR];rfl
 grind
def eY.dvd(h:eY A p)(hd:A∣B)(hB:0<B):eY B p:=by obtain⟨k,rfl⟩:=hd;exact h.up (et λe=>by grind)
theorem eY.sum{α:Type}{f:α->Rat}:∀{l:List α},(∀a∈l,eY D (f a))->eY D (aK l f)
 |[],_=>eY.zero D
 |a::l,h=>(h a kc).add (eY.sum λb hb=>h b (by simp[hb]))
def nuA(A:Nat)(s:Rat):Nat:=(s*A).num.natAbs
def Xz(hA:0<A)(hs:eY A s)(h0:0<s):s=(nuA A s:Rat)/(A:Rat)/\0<nuA A s:=by
 obtain⟨u,rfl⟩:=hs;have hA:=iT hA;have e:(u:Rat)/(A:Rat)*(A:Rat)=(u:Rat):=by grind
 unfold nuA;rw[e,Rat.num_intCast];have hu:0<u:=by
  have h1:(0:Rat)<=(A:Rat):=by grind
  have h2:=Rat.mul_pos h0 (show(0:Rat)<(A:Rat) by grind);rw[e]at h2;exact Rat.intCast_pos.mp h2
 have e2:((u.natAbs:Nat):Rat)=(u:Rat):=by
  have:((u.natAbs:Int):Rat)=(u:Rat):=by grind
  exact this
 grind
def eY.share(hA:0<A)(hB:0<B)(hp:eY A p)(hx:eY B x)(hs:eY A s)(h0:0<s):eY (B*nuA A s) (p*(x/s)):=by obtain⟨e,hn⟩:=Xz hA hs h0;obtain⟨c,rfl⟩:=hp;obtain⟨z,rfl⟩:=hx;generalize nuA A s=n at*;refine⟨c*z,?_⟩;grind
def Zk.of(hD:0<D)(h:eY D q)(h1:0<=q)(h2:q<=((256^uK:Nat):Rat)):Zk D 1 q:=by
 obtain⟨a,rfl⟩:=h;refine⟨a,rfl,?_⟩;have hD':=iT hD;have h3:(0:Rat)<(D:Rat):=by grind
 have e:(a:Rat)/(D:Rat)*(D:Rat)=(a:Rat):=by grind
 have h4:=be h2 (ec h3);have h5:=ce h1 (ec h3);rw[e]at h4 h5;rw[<-eJ]at h4;have h4:((a:Int):Rat)<=(((256^uK*D:Nat):Int):Rat):=h4;have h4:=fA.mp h4;have h5:=Rat.intCast_nonneg.mp h5;grind
end
def yG(A:Nat)(l:gK)(m:Rat):Nat:=if dU l m<l.length then nuA A (aY (ix l (dU l m)))else 1
def NJ(A:Nat)(l:gK):Prop:=∀t∈l,∀p∈t,eY A p.2/\0<=p.2
section
variable {A B:Nat} {l:gK} {m:Rat}
def FD{t:dN}(h:∀p∈t,eY A p.2/\0<=p.2):eY A (aY t):=by
 induction t with
 |nil=>exact eY.zero A
 |cons p t ih=>exact(h p kc).1.add (ih λq hq=>h q (by simp[hq]))
def ac3{t:dN}(h:∀p∈t,eY A p.2/\0<=p.2)(c:Int):eY A (gV t c):=by
 induction t with
 |nil=>exact eY.zero A
 |cons p t ih=>
  refine eY.add ?_ (ih λq hq=>h q (by simp[hq]))
  grind[eY.zero]
def NJ.nn(h:NJ A l):MZ l:=λt ht p hp=>(h t ht p hp).2
def alH(h:NJ A l)(k:Nat):eY A (DZ l k):=by
 unfold DZ;have:∀l:gK,NJ A l->eY A (jQ l):=λl=>by
  induction l with
  |nil=>intro _;exact eY.zero A
  |cons t l ih=>intro h;exact(FD (h t kc)).add (ih λu hu=>h u (by simp[hu]))
 exact this _ λt ht=>h t (eg ht)
def awf(h:NJ A l)(c:Int):eY A (jW l c):=by
 induction l with
 |nil=>exact eY.zero A
 |cons t l ih=>exact(ac3 (h t kc) c).add (ih λu hu=>h u (by simp[hu]))
def BO(hm:0<=m)(hf:dU l m<l.length):0<aY (ix l (dU l m)):=by have:=Xt l m hm;grind
def uJ(hA:0<A)(h:NJ A l)(hm:0<=m):0<yG A l m:=by
 unfold yG;split
 .next hf=>exact(Xz hA (FD (h _ (gW hf))) (BO hm hf)).2
 .omega
def ac4(hA:0<A)(hB:0<B)(hd:A∣B)(h:NJ A l)(hm:eY B m):eY B (jV l m):=by rw[QN];exact hm.sub ((alH h _).dvd hd hB)
def alI(hA:0<A)(h:NJ A l)(h0:0<=m){R:Nat}(hR:0<R){x:Rat}(hx:eY R x)(hf:dU l m<l.length){q:Rat}(hq:eY A q):eY (R*yG A l m) (q*(x/aY (ix l (dU l m)))):=by unfold yG;rw[ab hf];exact eY.share hA hR hq hx (FD (h _ (gW hf))) (BO h0 hf)
def asY(hA:0<A)(hB:0<B)(hd:A∣B)(h:NJ A l)(hm:eY B m)(h0:0<=m)(c:Int):eY (B*yG A l m) (iM l m c):=by
 have hc:=uJ hA h h0;rw[LH];refine eY.add ((awf (λt ht=>h t (eg ht)) c).dvd (bM hd (aL _ _)) (bR hB hc)) ?_;split
 .next hf=>exact alI hA h h0 hB (ac4 hA hB hd h hm) hf (ac3 (h _ (gW hf)) c)
 .exact eY.zero _
def asZ(hA:0<A)(h:NJ A l)(h0:0<=m){R:Nat}(hR:0<R){x:Rat}(hx:eY R x)(c:Int):eY (R*yG A l m) (kK l m x c):=by
 rw[Gy];split
 .next hf=>exact alI hA h h0 hR hx hf (ac3 (h _ (gW hf)) c)
 .exact eY.zero _
end
def ahG(A:Nat)(e:fK)(x:Rat):List (List Nat×gK)->Nat
 |[]=>1
 |p::l=>yG A p.2 (lN e x p)*ahG A e x l
def D8(A:Nat)(e:fK)(x:Rat):Nat:=yG A e.rk x*ahG A e x e.ps
structure ED(A:Nat)(U:Rat)(n:Nat)(e:fK):Prop where
 rk:zJ (λq=>eY A q/\0<=q/\q<=U) n e.rk
 ps:∀p∈e.ps,zJ (λq=>eY A q/\0<=q/\q<=U) n p.2
section
variable {A B n:Nat} {U m:Rat} {e:fK}
def _root_.Go.Proofs.Ins.zJ.D{l:gK}(h:zJ (λq=>eY A q/\0<=q/\q<=U) n l):NJ A l:=λt ht p hp=>⟨(h t ht p hp).2.1,(h t ht p hp).2.2.1⟩
def ED.nn(h:ED A U n e):CZ e:=⟨h.rk.D.nn,λp hp=>(h.ps p hp).D.nn⟩
def alJ(hA:0<A)(hB:0<B)(hd:A∣B)(h:ED A U n e)(hm:eY B m)(h0:0<=m)(c:Nat):eY (B*yG A e.rk m) (Cm e m c):=asY hA hB hd h.rk.D hm h0 _
def as1(hA:0<A)(h:ED A U n e)(h0:0<=m)(c:Nat):eY (yG A e.rk m) (rts e m c):=by have:=asZ (R:=1) hA h.rk.D h0 jj (x:=1) ⟨1,by grind⟩ c;rwa[Nat.one_mul]at this
def aan(hA:0<A)(hB:0<B)(hd:A∣B)(h:ED A U n e)(hm:eY B m)(h0:0<=m)(p:List Nat×gK):eY (B*yG A e.rk m) (lN e m p):=eY.sum λc _=>alJ hA hB hd h hm h0 c
def afj(hA:0<A)(h:ED A U n e)(h0:0<=m)(p:List Nat×gK):eY (yG A e.rk m) (uV e m p):=eY.sum λc _=>as1 hA h h0 c
def FH(A:Nat)(e:fK)(x:Rat):∀{l:List (List Nat×gK)}{p:List Nat×gK},p∈l->yG A p.2 (lN e x p)∣ahG A e x l
 |q::l,p,h=>by
  rcases bw.mp h with rfl|h
  .exact aL _ _
  .exact bM (FH A e x h) (gm _ _)
def aao(hA:0<A)(h:ED A U n e)(h0:0<=m):∀{l:List (List Nat×gK)},(∀p∈l,p∈e.ps)->0<ahG A e m l
 |[],_=>Nat.zero_lt_one
 |p::l,hl=>bR (uJ hA (h.ps p (hl p kc)).D (oI h.nn h0 p)) (aao hA h h0 λq hq=>hl q (by simp[hq]))
def JQ(hA:0<A)(h:ED A U n e)(h0:0<=m):0<D8 A e m:=bR (uJ hA h.rk.D h0) (aao hA h h0 λ_ h=>h)
def alK(hA:0<A)(hB:0<B)(hd:A∣B)(h:ED A U n e)(hm:eY B m)(h0:0<=m)(c:Nat):eY (B*D8 A e m) (uX e m c):=by
 have hp:=bR hB (JQ hA h h0);have hp1:=bR hB (uJ hA h.rk.D h0);unfold uX;refine eY.add ?_ (eY.sum λp hp'=>?_)
 .split
  .exact eY.zero _
  .exact(alJ hA hB hd h hm h0 c).dvd (cC _ (aL _ _)) hp
 .refine(asY hA hp1 (bM hd (aL _ _)) (h.ps p hp').D (aan hA hB hd h hm h0 p) (oI h.nn h0 p) c).dvd ?_ hp;rw[fq];exact cC _ (cC _ (FH A e m hp'))
def alL(hA:0<A)(h:ED A U n e)(h0:0<=m)(c:Nat):eY (D8 A e m) (zI e m c):=by
 have hp:=JQ hA h h0;unfold zI;refine eY.add ?_ (eY.sum λp hp'=>?_)
 .split
  .exact eY.zero _
  .exact(as1 hA h h0 c).dvd (aL _ _) hp
 .exact(asZ hA (h.ps p hp').D (oI h.nn h0 p) (uJ hA h.rk.D h0) (afj hA h h0 p) c).dvd (cC _ (FH A e m hp')) hp
end
end Go.Proofs.Xe
namespace Go.Proofs.Ins
def BP(l:Lg):fZ:=(l.e.toNat,l.k.toNat)
def bH(g:dV):GL:=⟨λi=>bZ (ix g.e i),λi=>(ix g.e i).c.length,λi c=>(ix (ix g.e i).c c).h,g.d.map λd=>(d.w.q,d.l.map BP)⟩
theorem afk{q:Rat}(h:¬sg q<0):0<=q:=by grind[sg]
def aqO:TK (λq=>0<=q) where
 min:=λa b ha hb=>by grind[kL]
 sub:=λa b ha hb=>by grind[kL]
 zero:=aM
structure EZ(n:Nat)(i:Nat)(e:yg):Prop where
 nc:e.c.length<=24
 na:e.a.length<=12
 m:0<=e.m.q
 c:∀k,k<e.c.length->0<=(ix e.c k).r/\(ix e.c k).r<=7/\0<=(ix e.c k).a.q/\((ix e.c k).h=-1\/0<=(ix e.c k).h/\(ix e.c k).h<n/\(ix e.c k).h≠i)
 a:∀k,k<e.a.length->(ix e.a k).length<=24/\(∀t,t<(ix e.a k).length->(ix (ix e.a k) t).length<=24)/\∀t∈ix e.a k,∀x∈t,TL (λq=>0<=q) e.c.length x/\(x.k≠-1->BH e.a k x.k=false)
def azQ{e:yg}{n i:Nat}(h:EF e=0)(hh:∀k,k<e.c.length->¬((n:Int)<=(ix e.c k).h\/(ix e.c k).h=(i:Int))):EZ n i e:=by
 unfold EF at h;split at h
 .cases h
 next h0=>
 split at h
 .cases h
 next h1=>
 split at h
 .omega
 next h2=>
 have h2:Gn (λi=>WO (ix e.c i)) e.c.length=0:=bh h2;refine⟨jb,jb,afk h1,λk hk=>?_,λk hk=>?_⟩
 .grind[gI,WO,afk]
 .have ha:=gI h k hk;unfold Zp at ha;split at ha
  .cases ha
  next hl=>
  have hl:=EG.mp (by simpa using hl);refine⟨hl.1,hl.2,λt ht x hx=>?_⟩;obtain⟨j,hj,rfl⟩:=aD ht;obtain⟨p,hp,rfl⟩:=aD hx;have hT:=gI ha j hj;unfold ave at hT;rw[dY hj]at hT;have hP:=gI hT p hp;rw[dY hp]at hP;generalize (ix e.a k)[j][p]=x at*;unfold acy at hP;split at hP
  .cases hP
  next c1=>
  split at hP
  .cases hP
  next c2=>
  split at hP
  .cases hP
  next c3=>
  split at hP
  .cases hP
  next c4=>
  refine⟨⟨jb,λhq=>?_⟩,λhn=>by grind⟩;grind[afk]
structure GZ(g:dV):Prop where
 ne:g.e.length<=8
 nd:g.d.length<=16
 e:∀i,i<g.e.length->EZ g.e.length i (ix g.e i)
 l:∀d,d<g.d.length->(ix g.d d).l.length<=8/\0<=(ix g.d d).w.q/\∀k,k<(ix g.d d).l.length->∃e j:Nat,ix (ix g.d d).l k=⟨(e:Int),(j:Int)⟩/\e<g.e.length/\j<(ix g.e e).c.length/\EH (iy g.d d k) (ix (ix g.d d).l k)=false/\holdL g.e (ix (ix g.d d).l k)=holdL g.e (ix (ix g.d d).l 0)
def QZ{g:dV}(h:Jt g=0):GZ g:=by
 unfold Jt at h;split at h
 .cases h
 next h0=>
 split at h
 .omega
 next h1=>
 split at h
 .omega
 next h2=>
 have h1:Gn (λi=>EF (ix g.e i)) g.e.length=0:=bh h1;have h2:Gn (λi=>Gn (WQ g i) (ix g.e i).c.length) g.e.length=0:=bh h2;refine⟨jb,jb,λi hi=>azQ (gI h1 i hi) λk hk hx=>?_,λd hd=>?_⟩
 .grind[gI,WQ]
 .have hD:=gI h d hd;unfold NC at hD;split at hD
  .cases hD
  next d0=>
  split at hD
  .cases hD
  next d1=>
  refine⟨jb,afk d1,λk hk=>?_⟩;have hL:=gI hD k hk;unfold Zq at hL;dsimp only at hL;split at hL
  .cases hL
  next hr=>
  split at hL
  .cases hL
  next hm=>
  split at hL
  .cases hL
  next hh=>
  have hm:EH (iy g.d d k) (ix (ix g.d d).l k)=false:=by simpa using hm
  have hh:holdL g.e (ix (ix g.d d).l k)=holdL g.e (ix (ix g.d d).l 0):=bh hh;revert hm hh;generalize hx:ix (ix g.d d).l k=x at*;obtain⟨e,j⟩:=x;dsimp only at hr;intro hm hh;refine⟨e.toNat,j.toNat,?_,jb,jb,hm,hh⟩;rw[eE jb,eE jb]
def Q5{α β:Type}[Inhabited α](f:α->List β):∀l:List α,(∀k,k<l.length->(f (ix l k)).Nodup/\∀j,j<k->∀x,x∈f (ix l k)->x∉f (ix l j))->(l.flatMap f).Nodup:=by
 intro l;have key:∀k,k<=l.length->(∀k,k<l.length->(f (ix l k)).Nodup/\∀j,j<k->∀x,x∈f (ix l k)->x∉f (ix l j))->((l.take k).flatMap f).Nodup:=by
  intro k;induction k with
  |zero=>simp
  |succ k ih=>
   intro hk h
   rw[bJ jb,cH,fo]
   have hs:[ix l k].flatMap f=f (ix l k):=by simp
   rw[hs]
   refine⟨ih jb h,(h k jb).1,λa ha b hb e=>?_⟩
   subst e
   obtain⟨y,hy,hay⟩:=cr.mp ha
   obtain⟨j,hj,rfl⟩:=aD hy
   grind[dY]
 grind[List.take_length]
def aap{α β:Type}[Inhabited α][Inhabited β](f:α->β){l:List α}{i:Nat}(h:i<l.length):ix (l.map f) i=f (ix l i):=by grind[dY]
section
variable {n i:Nat} {e:yg}
theorem EZ.prt(h:EZ n i e){k:Nat}(hk:k<e.a.length):∀t∈ix e.a k,∀x∈t,x.k=-1\/0<=x.k/\x.k<e.c.length:=λt ht x hx=>(((h.a k hk).2.2 t ht x hx).1).1
def alM{α:Type}[Inhabited α]{l:List α}{k:Nat}(h:l.length<=k):ix l k=default:=by grind[ix]
def R3.azR:(default:R3).q=0:=by rfl
def EZ.amt(h:EZ n i e)(k:Nat):0<=(ix e.c k).a.q:=by
 by_cases hk:k<e.c.length
 .exact(h.c k hk).2.2.1
 .rw[alM jb];rfl
def OE{cs:List C5}{k:Nat}{t:dN}:t∈Xy cs k↔∃r,r<8/\t=D7 cs r k:=by grind[Xy]
def GH(h:EZ n i e):CZ (bZ e)/\InE e.c.length (bZ e):=by
 have hA:∀k,k<e.a.length->zJ (λq=>0<=q) e.c.length (qN e.c (ix e.a k)).2:=λk hk=>afi aqO h.amt λt ht x hx=>((h.a k hk).2.2 t ht x hx).1;refine⟨⟨λt ht p hp=>?_,λp hp t ht q hq=>?_⟩,⟨λt ht p hp=>?_,λp hp t ht q hq=>?_,?_,λi hi=>?_⟩⟩
 .obtain⟨r,-,rfl⟩:=OE.mp ht;exact(QY (P:=λq=>0<=q) (λi _=>h.amt i) r _ jp p hp).2
 .obtain⟨a,ha,rfl⟩:=cP.mp hp;obtain⟨k,hk,rfl⟩:=aD ha;rw[<-dY hk]at ht;exact(hA k hk t ht q hq).2
 .obtain⟨r,-,rfl⟩:=OE.mp ht;exact(QY (P:=λq=>0<=q) (λi _=>h.amt i) r _ jp p hp).1
 .obtain⟨a,ha,rfl⟩:=cP.mp hp;obtain⟨k,hk,rfl⟩:=aD ha;rw[<-dY hk]at ht;exact(hA k hk t ht q hq).1
 .show((e.a.map (qN e.c)).flatMap (·.1)).Nodup;rw[ie];refine Q5 (λa=>(qN e.c a).1) e.a λk hk=>⟨Iu (h.prt hk),λj hj x hx hx2=>?_⟩
  have h1:=(wX (h.prt hk)).mp hx;have h2:=(wX (h.prt (by omega:j<e.a.length))).mp hx2;obtain⟨t,ht,hm⟩:=dj.mp h1;obtain⟨y,hy,ey⟩:=dj.mp hm;have ey:y.k=(x:Int):=by grind
  have:=((h.a k hk).2.2 t ht y hy).2 jb;rw[ey]at this;unfold BH at this;rw[List.any_eq_false]at this;refine this (ix e.a j) ?_ h2;rw[<-WI (l:=e.a) hj];grind[l7]
 .obtain⟨p,hp,hi⟩:=cr.mp hi;obtain⟨a,ha,rfl⟩:=cP.mp hp;obtain⟨k,hk,rfl⟩:=aD ha;rw[<-dY hk]at hi;have h1:=(wX (h.prt hk)).mp hi;have:=wI (h.prt hk) i (tH.mpr ⟨jb,h1⟩);omega
end
def awg{g:dV}(h:GZ g):Nc g.e.length (bH g):=by
 refine⟨λi hi=>(GH (h.e i hi)).1,λi hi=>(GH (h.e i hi)).2,λi c hi hc=>?_,λl hl=>?_,?_,λd hd=>?_⟩
 .have:=((h.e i hi).c c hc).2.2.2;show(ix (ix g.e i).c c).h=-1\/0<=(ix (ix g.e i).c c).h/\(ix (ix g.e i).c c).h<(g.e.length:Int);omega
 .obtain⟨d,hd,hl⟩:=cr.mp hl;obtain⟨d',hd',rfl⟩:=cP.mp hd;obtain⟨j,hj,rfl⟩:=aD hd';obtain⟨x,hx,rfl⟩:=cP.mp hl;rw[<-dY hj]at hx;obtain⟨k,hk,rfl⟩:=aD hx;obtain⟨a,b,e1,h1,h2,-⟩:=(h.l j hj).2.2 k hk;rw[<-dY hk,e1];exact⟨h1,h2⟩
 .show((g.d.map λd=>(d.w.q,d.l.map BP)).flatMap (·.2)).Nodup;rw[ie];have key:∀d,d<g.d.length->∀k,k<(ix g.d d).l.length->∀y∈iy g.d d k,(0<=y.e/\0<=y.k)->BP y≠BP (ix (ix g.d d).l k):=λd hd k hk y hy hn e=>by obtain⟨a,b,e1,h1,h2,h3,-⟩:=(h.l d hd).2.2 k hk;grind[Go.Proofs.Ins.EH,Go.Proofs.Ins.BP]
  have nn:∀d,d<g.d.length->∀y∈(ix g.d d).l,0<=y.e/\0<=y.k:=λd hd y hy=>by obtain⟨k,hk,rfl⟩:=aD hy;obtain⟨a,b,e1,-⟩:=(h.l d hd).2.2 k hk;grind[dY]
  refine Q5 (λd:oM=>d.l.map BP) g.d λd hd=>⟨?_,λj hj x hx hx2=>?_⟩
  .have:(List.range (ix g.d d).l.length).Pairwise (· < ·):=List.pairwise_lt_range;rw[ik,List.pairwise_map,io];intro a b ha hb hab;have:=key d hd b hb (ix (ix g.d d).l a) (List.mem_append_right _ ?_) ?_
   .grind[dY]
   .rw[<-WI (l:=(ix g.d d).l) hab];grind[l7]
   grind[l7]
  .obtain⟨y,hy,rfl⟩:=cP.mp hx;obtain⟨z,hz,e⟩:=cP.mp hx2;obtain⟨k,hk,rfl⟩:=aD hy;rw[<-dY hk]at e;refine key d hd k hk z (ic _ (cr.mpr ⟨ix g.d j,?_,hz⟩)) (nn j jb z hz) e;rw[<-WI (l:=g.d) hj];grind[l7]
 .obtain⟨d',hd',rfl⟩:=cP.mp hd;obtain⟨j,hj,rfl⟩:=aD hd';rw[<-dY hj];exact(h.l j hj).2.1
end Go.Proofs.Ins
namespace Go.Proofs.Xe
open Go.RowKit Go.Proofs.Ins
def vQ:Rat:=((256^uK:Nat):Rat)
def uQ:Rat:=((256^900:Nat):Rat)
def Q7:0<=uQ:=by have:((0:Nat):Rat)<=((256^900:Nat):Rat):=bj.mpr (aR _);exact this
def pow_two{a b c:Nat}(h:a+b=c):256^a*256^b=256^c:=by rw[<-h,dx]
def Iw{k:Nat}(h:k<=256^100):(k:Rat)*uQ<=vQ:=by
 unfold uQ vQ;rw[<-eJ];refine bj.mpr ?_;calc k*256^900<=256^100*256^900:=bq _ h
  _=256^uK:=pow_two (show 100+900=uK from rfl)
def Q8{k:Nat}(h:k<=256^100):(k:Rat)<=vQ:=by unfold vQ;exact bj.mpr (ar h (bN jj jj))
abbrev JR(A:Nat)(q:Rat):Prop:=eY A q/\0<=q/\q<=uQ
section
variable {A n:Nat} {l:gK}
def XA{t:dN}(h:BN (JR A) n t):aY t<=(t.length:Rat)*uQ:=by
 induction t with
 |nil=>show(0:Rat)<=_;simp
 |cons p t ih=>
  have h1:=ih λq hq=>h q (by simp[hq])
  have h2:=(h p kc).2.2.2
  rw[bA,fY]
  grind[aY]
def Qn:∀{l:gK},zJ (JR A) n l->jQ l<=(dI l:Rat)*uQ
 |[],_=>by show(0:Rat)<=((0:Nat):Rat)*uQ;simp
 |t::l,h=>by have h1:=Qn (l:=l) λu hu=>h u (by simp[hu]);have h2:=XA (h t kc);show aY t+jQ l<=((t.length+dI l:Nat):Rat)*uQ;grind
theorem Bd:∀{l:gK},MZ l->0<=jQ l
 |[],_=>aM
 |t::l,h=>by have:=Bd (l:=l) λu hu=>h u (by simp[hu]);have:=Ak (h t kc);show 0<=aY t+jQ l;grind
def alN:∀{l:gK}{j:Nat},MZ l->j<l.length->aY (ix l j)<=jQ l
 |t::l,0,h,_=>by have:=Bd (l:=l) λu hu=>h u (by simp[hu]);show aY t<=aY t+jQ l;grind
 |t::l,j+1,h,hj=>by have:=alN (l:=l) (j:=j) (λu hu=>h u (by simp[hu])) (by simpa using hj);have:=Ak (h t kc);show aY (ix l j)<=aY t+jQ l;grind
theorem ac5:∀{l:gK}(k:Nat),MZ l->0<=DZ l k/\DZ l k<=jQ l
 |[],k,h=>by unfold DZ;rw[List.take_nil];exact⟨aM,aM⟩
 |t::l,0,h=>⟨aM,Bd h⟩
 |t::l,k+1,h=>by obtain⟨h1,h2⟩:=ac5 (l:=l) k λu hu=>h u (by simp[hu]);have:=Ak (h t kc);unfold DZ at h1 h2⊢;rw[fu];show 0<=aY t+jQ _/\aY t+jQ _<=aY t+jQ l;grind
end
structure EB(n:Nat)(e:fK):Prop where
 nb:n<=1000
 r0:0<e.rk.length
 r1:e.rk.length<=1000
 rn:dI e.rk<=1000
 ps:e.ps.length<=1000
 m:∀p∈e.ps,p.1.length<=1000/\∀i∈p.1,i<n
 p:∀p∈e.ps,0<p.2.length/\p.2.length<=1000/\dI p.2<=10000
section
variable {A B R D n:Nat} {l:gK} {m x:Rat}
theorem qx(hD:DW D)(hB:B∣D){q:Rat}(h:eY B q)(h0:0<=q)(h1:q<=vQ):Zk D 1 q:=Zk.of hD.1 (h.dvd hB hD.1) h0 h1
theorem uM:2<=256^uK:=ar (by decide:2<=256^1) (bN jj jj)
def GK:∀{l:gK}{t:dN},t∈l->t.length<=dI l
 |u::l,t,h=>by
  unfold dI;rcases bw.mp h with rfl|h
  .omega
  .have:=GK h;omega
def aaq(hD:DW D)(hA:A∣D)(h:zJ (JR A) n l)(hl:l.length<=1000)(hn:dI l<=10000):QO D n l:=by
 have hU:=Iw (k:=10000) jj;have hU1:=Iw (k:=1) jj;have hz:∀t∈l,∀p∈t,Zk D 1 p.2:=λt ht p hp=>by have:=(h t ht p hp).2;grind[Go.Proofs.Xe.qx]
 refine⟨jb,λt ht=>by have:=GK ht;omega,λt ht=>?_,λt ht p hp=>(h t ht p hp).1,λt ht p hp=>(hz t ht p hp).sz hD (by grind[uM]),hz⟩;have h1:=XA (h t ht);have h2:(t.length:Rat)<=((10000:Nat):Rat):=bj.mpr (by have:=GK ht;omega);have h3:=be h2 Q7;refine(qx hD hA (FD λp hp=>⟨(h t ht p hp).2.1,(h t ht p hp).2.2.1⟩) (Ak λp hp=>(h t ht p hp).2.2.1) kd).sz hD (by grind[uM])
def OG(hA0:0<A)(hD:DW D)(hA:A∣D)(h:zJ (JR A) n l)(hn:dI l<=10000)(hB:B∣D)(hm:eY B m)(h0:0<=m)(h1:m<=vQ)(hR0:0<R)(hR:R*yG A l m∣D)(hx:eY R x)(hx0:0<=x)(hx1:x<=vQ):QS D l m x:=by
 have hnn:=h.D.nn;have hR1:R∣D:=bM (aL _ _) hR;have hU:=Iw (k:=10000) jj;have h2:(dI l:Rat)<=((10000:Nat):Rat):=bj.mpr hn;have h3:=be h2 Q7;have ht:=Qn h;have hu:=uM;have hzx:=qx hD hR1 hx hx0 hx1;refine⟨λk _=>?_,h0,hzx.sz hD jb,λhf=>?_,λhf p hp=>?_⟩
 .have hc:=ac5 k hnn;exact((qx hD hB hm h0 h1).sub (qx hD hA (alH h.D k) hc.1 kd)).sz hD jb
 .have hs:=BO h0 hf;have:=alN hnn hf;exact hzx.ayX (qx hD hA (FD (h.D _ (gW hf))) (ec hs) kd) hD jb jb kd
 .have hs:=BO h0 hf;have hpp:=h.D _ (gW hf) p hp;have hps:p.2<=aY (ix l (dU l m)):=by
   have:∀t:dN,(∀q∈t,0<=q.2)->p∈t->p.2<=aY t:=λt=>by
    induction t with
    |nil=>simp
    |cons q t ih=>
     intro hq hp
     show p.2<=q.2+aY t
     have h4:=hq q kc
     have h5:0<=aY t:=Ak λr hr=>hq r (by simp[hr])
     grind
   exact this _ (λq hq=>(h.D _ (gW hf) q hq).2) hp
  have e:p.2*(x/aY (ix l (dU l m)))=x*(p.2/aY (ix l (dU l m))):=by grind
  have h4:=zD hs hps;have h5:=acU hpp.2 hs;have h6:=cM h4 hx0;refine qx hD hR (alI hA0 h.D h0 hR0 hx hf hpp.1) ?_ ?_
  .grind[Rat.mul_nonneg]
  grind
def left_le(h0:0<=m)(h:MZ l):0<=jV l m/\jV l m<=m:=by grind[Go.Proofs.Xe.Xt,Go.Proofs.Xe.QN,Go.Proofs.Xe.ac5]
def awh{l:gK}(h:MZ l)(c:Int):∀{m:Rat},0<=m->iM l m c<=jQ l:=by
 induction l with
 |nil=>intro m _;rfl
 |cons t l ih=>
  intro m hm
  have hl:=Bd (l:=l) λu hu=>h u (by simp[hu])
  have h2:=Ov (h t kc) c
  have h3:=yD (h t kc) c
  unfold iM
  show _<=aY t+jQ l
  split
  .next hlt=>
   have h4:=zD (a:=m) (b:=aY t) kd (ec hlt)
   have h5:=cM h4 h3
   grind
  .have:=ih (λu hu=>h u (by simp[hu])) (m:=m-aY t) kd
   grind
def XB{l:gK}(h:MZ l)(c:Int){x:Rat}(hx:0<=x)(h0:0<=m):kK l m x c<=x:=by
 rw[Gy];split
 .next hf=>
  have hs:=BO h0 hf;have hl:=h _ (gW hf);have e:gV (ix l (dU l m)) c*(x/aY (ix l (dU l m)))=x*(gV (ix l (dU l m)) c/aY (ix l (dU l m))):=by grind
  rw[e];have h4:=zD hs (Ov hl c);have h6:=cM h4 hx;grind
 omega
end
section
variable {A B D n:Nat} {m:Rat} {e:fK}
def uN{α:Type}{f:α->Rat}{v:Rat}(h0:0<=v):∀{l:List α}{k:Nat},(∀a∈l,f a<=v)->l.length<=k->aK l f<=(k:Rat)*v
 |[],k,_,_=>by have:((0:Nat):Rat)<=(k:Rat):=bj.mpr (aR _);exact ce this h0
 |a::l,k,h,hk=>by
  obtain⟨k,rfl⟩:∃j,k=j+1:=⟨k-1,by simp at hk;omega⟩
  have h1:=uN h0 (l:=l) (k:=k) (λb hb=>h b (by simp[hb])) (by simpa using hk);have h2:=h a kc;show f a+aK l f<=_;rw[fY];have:((1:Nat):Rat)=1:=rfl;grind
def alO(h:ED A uQ n e)(hb:EB n e)(h0:0<=m){p:List Nat×gK}(hp:p∈e.ps):lN e m p<=vQ:=by have ht:=Qn h.rk;have h2:(dI e.rk:Rat)<=((1000:Nat):Rat):=bj.mpr hb.rn;have h3:=be h2 Q7;have h4:=uN (f:=Cm e m) (v:=((1000:Nat):Rat)*uQ) (ce (bj.mpr (aR 1000)) Q7) (l:=p.1) (k:=1000) (λc _=>cF (awh h.rk.D.nn c h0) (cF ht h3)) (hb.m p hp).1;have h5:=Iw (k:=1000*1000) jj;grind[lN]
def awi(h:ED A uQ n e)(hb:EB n e)(h0:0<=m){p:List Nat×gK}(hp:p∈e.ps):uV e m p<=vQ:=by have h4:=uN (f:=rts e m) (v:=1) jj (l:=p.1) (k:=1000) (λc _=>XB h.rk.D.nn c jj h0) (hb.m p hp).1;have h5:=Q8 (k:=1000) jj;grind[uV]
def alP(hD:DW D)(hA:A∣D)(h:ED A uQ n e)(hb:EB n e):EOk D n e:=by
 have hn:=hb.nb;have hps:=hb.ps;refine⟨jb,aaq hD hA h.rk hb.r1 (by have:=hb.rn;omega),hb.r0,jb,λp hp=>⟨by have:=(hb.m p hp).1;omega,(hb.m p hp).2⟩,λp hp=>⟨aaq hD hA (h.ps p hp) (hb.p p hp).2.1 (hb.p p hp).2.2,(hb.p p hp).1⟩,?_⟩;have h1:∀l:List (List Nat×gK),(∀p∈l,dI p.2<=10000)->JO l<=l.length*10000:=λl=>by
  induction l with
  |nil=>intro _;exact cL 0
  |cons p l ih=>
   grind[JO]
 have h2:=h1 e.ps λp hp=>(hb.p p hp).2.2;have h3:=hb.rn;grind[uK]
def alQ(hA0:0<A)(hB0:0<B)(hAB:A∣B)(hD:DW D)(hBD:B*D8 A e m∣D)(h:ED A uQ n e)(hb:EB n e)(hm:eY B m)(h0:0<=m)(h1:m<=vQ):MOk D e m:=by
 have hB:B∣D:=bM (aL _ _) hBD;have hA:A∣D:=bM hAB hB;have hr:B*yG A e.rk m∣D:=bM (cC _ (aL _ _)) hBD;have hr0:=bR hB0 (uJ hA0 h.rk.D h0);refine⟨(qx hD hB hm h0 h1).sz hD (by grind[uM]),?_,λp hp=>?_⟩
 .have hl:=left_le h0 h.rk.D.nn;exact OG hA0 hD hA h.rk (by have:=hb.rn;omega) hB hm h0 h1 hB0 hr (ac4 hA0 hB0 hAB h.rk.D hm) hl.1 (cF hl.2 h1)
 .have hg:=oI h.nn h0 p;have hgD:=aan hA0 hB0 hAB h hm h0 p;have hgl:=alO h hb h0 hp;have hl:=left_le hg (h.ps p hp).D.nn;have hd:B*yG A e.rk m*yG A p.2 (lN e m p)∣D:=by refine bM ?_ hBD;rw[fq];exact cC _ (cC _ (FH A e m hp))
  exact⟨OG hA0 hD hA (h.ps p hp) (hb.p p hp).2.2 hr hgD hg hgl hr0 hd (ac4 hA0 hr0 (bM hAB (aL _ _)) (h.ps p hp).D hgD) hl.1 (cF hl.2 hgl),(qx hD hr hgD hg hgl).sz hD (by grind[uM])⟩
def alR(hA0:0<A)(hB0:0<B)(hAB:A∣B)(hD:DW D)(hBD:B*D8 A e m∣D)(h:ED A uQ n e)(hb:EB n e)(hm:eY B m)(h0:0<=m)(h1:m<=vQ):ROk D e m:=by
 have hB:B∣D:=bM (aL _ _) hBD;have hA:A∣D:=bM hAB hB;have hr:B*yG A e.rk m∣D:=bM (cC _ (aL _ _)) hBD;have hr0:=uJ hA0 h.rk.D h0;have hr1:yG A e.rk m∣D:=bM (gm _ _) hr;have h1v:=Q8 (k:=1) jj;refine⟨?_,λp hp=>?_⟩
 .exact OG (R:=1) hA0 hD hA h.rk (by have:=hb.rn;omega) hB hm h0 h1 jj kd ⟨1,by grind⟩ jj h1v
 .have hg:=oI h.nn h0 p;have hgD:=aan hA0 hB0 hAB h hm h0 p;have hgl:=alO h hb h0 hp;have hR:=Lu h.nn h0 p;have hRD:=afj hA0 h h0 p;have hRl:=awi h hb h0 hp;have hd:yG A e.rk m*yG A p.2 (lN e m p)∣D:=by refine bM ?_ (bM (gm _ _) hBD);exact cC _ (FH A e m hp)
  exact⟨OG hA0 hD hA (h.ps p hp) (hb.p p hp).2.2 hr hgD hg hgl hr0 hd hRD hR hRl,(qx hD hr1 hRD hR hRl).sz hD (by grind[uM])⟩
end
section
variable {E:Env} [acC E] {p:Nat→Prop} {J:St} {K:V→St→Prop}
def aar{v:B}{a:fD}(ha:dQ p J.h v a)(h1:a.length<=1000000)(h2:a.flatten.length<=1000000){v':V}{J':St}(hm:akD a.flatten J=some (v',J')):aB E 257 [.c v] J K=K v' J':=
 KY (by have h:=(apE ha h1 h2).trans hm;unfold WT;rw[WR rfl];unfold aha ag9;simp only[Nat.reduceEqDiff,reduceIte,h])
def U7{v:B}{a:fD}(ha:dQ p J.h v a)(h1:a.length<=1000000)(h2:a.flatten.length<=1000000){v':V}{J':St}(hm:akC (yC a) J=some (v',J')):aB E 168 [.agg [v]] J K=K v' J':=
 KY (by have h:=(apD ha h1 h2).trans hm;unfold WT;rw[WR rfl];unfold aha ag9;simp only[Nat.reduceEqDiff,reduceIte,h])
end
def U8{E:Env}[acC E]{J:St}(hW:WF J){p:Nat->Prop}{v:B}{a:fD}(ha:dQ p J.h v a)(h1:a.length<=1000000)(h2:a.flatten.length<=1000000):
  aB E 168 [.agg [v]] J λr J'=>(∃u,r=.c u/\fJ J'.h u (yC a).length (λi=>[.int .i64 (ix (yC a) i)]) 1 3 J.aj J'.aj)/\Fr J J':=by
 by_cases h0:(yC a).length=0
 .rw[U7 ha h1 h2 (v':=.c .aQ) (J':=J) (ab h0)]
  exact⟨⟨_,rfl,.inl ⟨h0,rfl⟩⟩,Fr.refl hW⟩
 .rw[U7 ha h1 h2 (ae h0)]
  exact⟨⟨_,rfl,.inr ⟨jb,_,rfl,aA _ _ _,jp,bL _⟩⟩,fr⟩
def aqP{a:fD}{n:Nat}(ha:∀t∈a,∀x∈t,x.k=-1\/0<=x.k/\x.k<n){i:Nat}(hi:i<(yC a).length):B.int .i64 (ix (yC a) i)=TG (kN a) i:=by unfold TG kN;rw[aap Int.toNat hi];have:=wI ha _ (l7 hi);grind
def Q9(a:fD):(kN a).length=(yC a).length:=cg _
structure TS(J:St)(tb bs:Nat)(t:dN):Prop where
 b:J.h tb=some ⟨kM (aX t.length bs) (aY t),none⟩
 o:QX J.h bs t
 lo:tb<bs
 hi:t.length=0\/bs<J.aj
def TS.lt{J:St}(hW:WF J){tb bs:Nat}{t:dN}(h:TS J tb bs t):tb<J.aj:=hW.lt h.b
def TS.on{J J':St}{tb bs:Nat}{t:dN}(h:TS J tb bs t)(h1:∀b,tb<=b->b<J.aj->J'.h b=J.h b)(hW:WF J)(hle:J.aj<=J'.aj):TS J' tb bs t:=by have h0:=h.lt hW;have hlo:=h.lo;have hhi:=h.hi;refine⟨by rw[h1 tb jp h0];exact h.b,?_,hlo,jb⟩;refine(yB ?_).trans h.o;grind
theorem TS.fr{J J':St}{tb bs:Nat}{t:dN}(h:TS J tb bs t)(hW:WF J)(hf:Fr J J'):TS J' tb bs t:=h.on (λb _ hb=>hf.old b hb) hW hf.le
def TS.fre{J J':St}{ex:List Nat}{tb bs:Nat}{t:dN}(h:TS J tb bs t)(hW:WF J)(hf:gY ex J J')(hx:∀b∈ex,b<tb):TS J' tb bs t:=h.on (λb h1 h2=>hf.old b h2 λhm=>by grind) hW hf.le
def ac6{J:St}(hW:WF J){tb bs:Nat}{t:dN}(hT:TS J tb bs t)(hl:t.length<=1000000)(k:Int)(q:Rat)(hs:Sz (aY t))(hq:Sz q):
  aB EN 170 [.c (.ptr tb 0),.c (.int .i64 k),.agg (rK q)] J λ_ J'=>(∃bs',TS J' tb bs' (t++[(k,q)]))/\(∀b,b<tb->J'.h b=J.h b)/\WF J'/\J.aj<=J'.aj:=by
 have h0:=hT.lo
 have hlt:=hT.lt hW
 have:=alC (G:=λ_=>kM (aX t.length bs) (aY t)) (n:=1) (r:=0) hW (by rw[hT.b];rfl) jj (λ_=>rfl) rfl rfl rfl hT.o (.inr jb) hT.hi hl k q hs hq
 refine this.mono ?_
 rintro _ J' ⟨nx,h1,h2,h3,h4,h5⟩
 have hle:=h5.le
 refine⟨⟨nx,?_,?_,jb,.inr h2⟩,λb hb=>h5.old b jb kd,h5.wf,hle⟩
 .rw[h3,U5,az];rfl
 .unfold QX
  rw[az,bz]
  show J'.h nx=some _
  grind[Go.Proofs.Xe.jA,Go.Proofs.Xe.bC,Go.Proofs.Xe.je,Go.Proofs.Xe.gU,Go.Proofs.Xe.gQ]
def aqQ(U:Nat->B)(Lf:Nat->dN)(p:Nat->Prop)(h:Tr Bk)(i:Nat):Prop:=aZ p h 4 (U i) (Lf i).length λc=>BL (ix (Lf i) c)
def aas(U:Nat->B)(Lf:Nat->dN)(i:Nat):List B:=kM (U i) (aY (Lf i))
abbrev ac7(U:Nat->B)(Lf:Nat->dN)(h:Tr Bk)(b n lo hi:Nat):Prop:=NF (aqQ U Lf) h b n (aas U Lf) 4 236 lo hi
def XC(U:Nat->B)(Lf:Nat->dN)(j:Nat):QK (aqQ U Lf) j:=λ_ _ _ _ hp hk hq=>aZ.keep hp hk hq
def XD(U:Nat->B)(Lf:Nat->dN):LG (aas U Lf) 4:=λ_=>rfl
section
variable {U:Nat→B} {Lf:Nat→dN} {h h' : Tr Bk} {b n lo hi:Nat}
def ac7.push(ho:ac7 U Lf h b n lo hi){σ1:St}(hW:WF σ1){tb bs nx n':Nat}{t:dN}(hL:Lf n=t)(hT:TS σ1 tb bs t)(ht:hi<=tb)(h5:lo<=hi)(hh:∀b,lo<=b->b<hi->σ1.h b=h b)(h3:σ1.aj<=nx)(h4:nx<n')
  (hb:h' nx=some ⟨bf n (aas U Lf)++kM (aX t.length bs) (aY t),some (4,236)⟩) (hk:∀c,lo<=c->c<σ1.aj->n=0\/c≠b->h' c=σ1.h c):ac7 (aO U n (aX t.length bs)) Lf h' nx (n+1) lo n':=by
 have hlt:=hT.lt hW
 have hlo:=hT.lo
 have hx:aZ (λb=>hi<=b/\b<σ1.aj) σ1.h 4 (aX t.length bs) t.length λj=>BL (ix t j):=hT.o.hlp (by rcases hT.hi with h0|h0;exact .inl h0;omega)
 refine NF.push ho (λj _=>XC _ Lf j) (λj hj p h hq=>?_) (hi1:=σ1.aj) (h1:=σ1.h) ?_ hh jb h3 h4 h5 hb ?_ hk (λi hi=>?_) (XD _ _)
 .grind[aqQ,aS]
 .grind[aqQ,aN]
 .grind[aas,aN]
 grind[aas,aS]
def ac7.awj(ho:ac7 U Lf h b n lo hi){l:gK}(hl:l.length=n)(hL:∀i,i<n->Lf i=ix l i):Ap (λb=>lo<=b/\b<hi) h (aX n b) l:=by
 have hel:=λi (hi:i<n)=>ho.el (λj _=>XC U Lf j) hi;refine⟨U,?_,by cases n<;>trivial,λi hi=>?_⟩
 .rw[hl];refine(ho.hlp jj (λi hi=>?_) λb h1 h2=>⟨h1,h2⟩).congr λi hi=>by grind[aas]
  unfold aas kM;simp only[cw,cY,wB,AP,(hel i hi).kn,cG]
 .rw[hl]at hi;rw[<-hL i hi];exact hel i hi
end
def lsS(cs:List C5)(a:fD)(j:Nat):(Nat->Rat)×gK:=(a.take j).foldl ltS ((λi:Nat=>(ix cs i).a.q),[])
def Di(f:Nat->Rat)(t:Js)(l:Nat):(Nat->Rat)×dN:=(t.take l).foldl OD (f,[])
theorem Rh{cs:List C5}{a:fD}{j:Nat}(h:j<a.length):lsS cs a (j+1)=ltS (lsS cs a j) (ix a j):=by grind[lsS,bJ]
def JU(cs:List C5)(a:fD):lsS cs a a.length=lsA cs a:=by grind[lsS,lsA]
def Dj(cs:List C5)(a:fD):∀j,j<=a.length->(lsS cs a j).2.length=j
 |0,_=>rfl
 |j+1,h=>by rw[Rh jb];unfold ltS;rw[az,Dj cs a j jb];rfl
def ac8{α:Type}[Inhabited α]{l:List α}{x:α}{n:Nat}(h:l.length=n):ix (l++[x]) n=x:=by grind[gU]
def uO(m k:Nat)(F:Nat->Rat):dh m (aO (λi=>if i<k then F i else 0) k (F k))=dh m λi=>if i<k+1 then F i else 0:=dX λi _=>by grind[aO]
def Ar(m:Nat)(F:Nat->Rat):dh m (λi=>if i<m then F i else 0)=dh m F:=dX λi hi=>ab hi
def zK(m:Nat)(F:Nat->Rat):dh m (λ_=>0)=dh m λi=>if i<0 then F i else 0:=dX λi _=>rfl
def alS{s:(Nat->Rat)×dN}{x:yQ}{kk:Nat}(h1:¬x.k=-1)(hk:x.k=Int.ofNat kk):OD s x=(aO s.1 kk (s.1 kk-if x.b=true then kL (s.1 kk) x.a.q else s.1 kk),s.2++[(Int.ofNat kk,if x.b=true then kL (s.1 kk) x.a.q else s.1 kk)]):=by unfold OD;rw[ae h1,hk];refine Prod.ext ?_ rfl;grind[aO]
def XE{cs:List C5}{a:fD}{i:Nat}:∀{j},i<j->j<=a.length->ix (lsS cs a j).2 i=(Di (lsS cs a i).1 (ix a i) (ix a i).length).2
 |j+1,hi,hj=>by
  rw[Rh jb];unfold ltS;by_cases e:i=j
  .subst e;have:=Dj cs a i jb;exact(ac8 this).trans (by unfold Di;rw[cj])
  .show ix ((lsS cs a j).2++[_]) i=_;rw[gQ _ _ (by rw[Dj cs a j jb];omega)];exact XE jb jb
def aat{f:Nat->Rat}{t:Js}{l:Nat}(h:l<t.length):Di f t (l+1)=OD (Di f t l) (ix t l):=by grind[Di,bJ]
def OH(f:Nat->Rat)(t:Js):∀l,l<=t.length->(Di f t l).2.length=l
 |0,_=>rfl
 |l+1,h=>by rw[aat jb];unfold OD;split<;>simp[OH f t l jb]
def alT{cs:List C5}{a:fD}{j:Nat}(h:j<a.length):(lsS cs a (j+1)).1=(Di (lsS cs a j).1 (ix a j) (ix a j).length).1:=by grind[Rh,ltS,Di]
def ahH(ms:List Nat)(f:Nat->Rat){i:Nat}(h:i<ms.length):xY (ms.take (i+1)) f=xY (ms.take i) f++[(((ix ms i:Nat):Int),f (ix ms i))]:=by grind[xY,bJ]
def alU:∀{l:List Int}{lo hi:Int},l.Pairwise (· < ·)->(∀x∈l,lo<=x/\x<hi)->l.length<=(hi-lo).toNat
 |[],_,_,_,_=>aR _
 |a::l,lo,hi,hp,h=>by
  rw[List.pairwise_cons]at hp;have h1:=h a kc;have:=alU (lo:=a+1) (hi:=hi) hp.2 λx hx=>by grind
  grind
def Iy{a:fD}{n:Nat}(ha:∀t∈a,∀x∈t,x.k=-1\/0<=x.k/\x.k<n):(kN a).length<=n:=by have:=alU (aer a) (wI ha);rw[Q9];omega
theorem OI(cs:List C5)(r:Nat):∀k,(D7 cs r k).length<=k
 |0=>cL 0
 |k+1=>by have:=OI cs r k;unfold D7;rw[az];split<;>simp<;>omega
section
variable {A n:Nat}
def awk(hA:0<A):TK (JR A) where
 min:=λa b ha hb=>by grind[kL]
 sub:=λa b ha hb=>by
  have h1:=ha.2;have h2:=hb.2;unfold kL;split
  .grind[eY.zero]
  .exact⟨ha.1.sub hb.1,by grind,by grind⟩
 zero:=⟨eY.zero A,aM,Q7⟩
def Ri(hA:DW A){q:Rat}(h:JR A q):Sz q:=by have hU:=Iw (k:=1) jj;have:((1:Nat):Rat)=1:=rfl;exact(qx hA (hJ A) h.1 h.2.1 kd).sz hA (by grind[uM])
def XF(hA:DW A){t:dN}(h:BN (JR A) n t)(hl:t.length<=10000):Sz (aY t):=by have hU:=Iw (k:=10000) jj;have h1:=XA h;have h2:(t.length:Rat)<=((10000:Nat):Rat):=bj.mpr hl;have h3:=be h2 Q7;exact(qx hA (hJ A) (FD λp hp=>⟨(h p hp).2.1,(h p hp).2.2.1⟩) (Ak λp hp=>(h p hp).2.2.1) kd).sz hA (by grind[uM])
def awl{P:Rat->Prop}(hP:TK P){f:Nat->Rat}(hf:∀i,P (f i)){t:Js}(ht:∀x∈t,TL P n x)(l:Nat):(∀i,P ((Di f t l).1 i))/\BN P n (Di f t l).2:=
 ac1 hP (t.take l) hf (λ_ h=>by cases h) λx hx=>ht x (eg hx)
def awm{P:Rat->Prop}(hP:TK P){cs:List C5}(hc:∀i,P (ix cs i).a.q){a:fD}(ha:∀t∈a,∀x∈t,TL P n x)(j:Nat)(i:Nat):P ((lsS cs a j).1 i):=
 (ac2 hP (a.take j) hc (λ_ h=>by cases h) λt ht=>ha t (eg ht)).1 i
end
def awn(p q:Rat):Jq p q=kL p q:=by
 unfold Jq kL;by_cases h:p<=q
 .rw[ab h,ab (yA.mpr h)]
 .rw[ae h,ae λe=>h (yA.mp e)]
structure alV(A:Nat)(cs:List C5)(a:fD):Prop where
 nc:cs.length<=1000
 na:a.length<=1000
 nt:∀t,t<a.length->(ix a t).length<=1000
 nf:a.flatten.length<=1000000
 fc:∀i,i<cs.length->(ix cs i).a.fits 1000000
 fp:∀t,t<a.length->∀l,l<(ix a t).length->(ix (ix a t) l).a.fits 1000000
 c:∀i,JR A (ix cs i).a.q
 p:∀t∈a,∀x∈t,TL (JR A) cs.length x
end Go.Proofs.Xe
