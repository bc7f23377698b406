import Derived.Test.YthkggcakedkboaaGreatDoorY22
set_option linter.all false
namespace Go.Proofs.Ins
def yG(l:Lg):fD:=(l.e.toNat,l.k.toNat)
def aY(g:iD):GL:=⟨λi=>dB (ix g.e i),λi=>(ix g.e i).c.length,λi c=>(ix (ix g.e i).c c).h,g.d.map λd=>(d.w.q,d.l.map yG)⟩
theorem aaR{q:Rat}(h:¬sg q<0):0<=q:=by grind[sg]
def ak2:Oj (λq=>0<=q) where
 min:=λa b ha hb=>by grind[iC]
 sub:=λa b ha hb=>by grind[iC]
 zero:=aM
structure EZ(n:Nat)(i:Nat)(e:Bc):Prop where
 nc:e.c.length<=24
 na:e.a.length<=12
 m:0<=e.m.q
 c:∀k,k<e.c.length->0<=(ix e.c k).r/\(ix e.c k).r<=7/\0<=(ix e.c k).a.q/\((ix e.c k).h=-1\/0<=(ix e.c k).h/\(ix e.c k).h<n/\(ix e.c k).h≠i)
 a:∀k,k<e.a.length->(ix e.a k).length<=24/\(∀t,t<(ix e.a k).length->(ix (ix e.a k) t).length<=24)/\∀t∈ix e.a k,∀x∈t,Ol (λq=>0<=q) e.c.length x/\(x.k≠-1->yj e.a k x.k=false)
def asO{e:Bc}{n i:Nat}(h:FN e=0)(hh:∀k,k<e.c.length->¬((n:Int)<=(ix e.c k).h\/(ix e.c k).h=(i:Int))):EZ n i e:=by
 unfold FN at h;split at h
 .cases h
 next h0=>
 split at h
 .cases h
 next h1=>
 split at h
 .omega
 next h2=>
 have h2:CU (λi=>Ja (ix e.c i)) e.c.length=0:=br h2;refine⟨jb,jb,aaR h1,λk hk=>?_,λk hk=>?_⟩
 .grind[iy,Ja,aaR]
 .have ha:=iy h k hk;unfold U6 at ha;split at ha
  .cases ha
  next hl=>
  have hl:=Bf.mp (by simpa using hl);refine⟨hl.1,hl.2,λt ht x hx=>?_⟩;obtain⟨j,hj,rfl⟩:=aE ht;obtain⟨p,hp,rfl⟩:=aE hx;have hT:=iy ha j hj;unfold aoT at hT;rw[fJ hj]at hT;have hP:=iy hT p hp;rw[fJ hp]at hP;generalize (ix e.a k)[j][p]=x at*;unfold Yf at hP;split at hP
  .cases hP
  next c1=>
  split at hP
  .cases hP
  next c2=>
  split at hP
  .cases hP
  next c3=>
  split at hP
  .cases hP
  next c4=>
  refine⟨⟨jb,λhq=>?_⟩,λhn=>by grind⟩;grind[aaR]
structure GZ(g:iD):Prop where
 ne:g.e.length<=8
 nd:g.d.length<=16
 e:∀i,i<g.e.length->EZ g.e.length i (ix g.e i)
 l:∀d,d<g.d.length->(ix g.d d).l.length<=8/\0<=(ix g.d d).w.q/\∀k,k<(ix g.d d).l.length->∃e j:Nat,ix (ix g.d d).l k=⟨(e:Int),(j:Int)⟩/\e<g.e.length/\j<(ix g.e e).c.length/\FP (lX g.d d k) (ix (ix g.d d).l k)=false/\holdL g.e (ix (ix g.d d).l k)=holdL g.e (ix (ix g.d d).l 0)
def VT{g:iD}(h:LH g=0):GZ g:=by
 unfold LH at h;split at h
 .cases h
 next h0=>
 split at h
 .omega
 next h1=>
 split at h
 .omega
 next h2=>
 have h1:CU (λi=>FN (ix g.e i)) g.e.length=0:=br h1;have h2:CU (λi=>CU (Ob g i) (ix g.e i).c.length) g.e.length=0:=br h2;refine⟨jb,jb,λi hi=>asO (iy h1 i hi) λk hk hx=>?_,λd hd=>?_⟩
 .grind[iy,Ob]
 .have hD:=iy h d hd;unfold Q5 at hD;split at hD
  .cases hD
  next d0=>
  split at hD
  .cases hD
  next d1=>
  refine⟨jb,aaR d1,λk hk=>?_⟩;have hL:=iy hD k hk;unfold acC at hL;dsimp only at hL;split at hL
  .cases hL
  next hr=>
  split at hL
  .cases hL
  next hm=>
  split at hL
  .cases hL
  next hh=>
  have hm:FP (lX g.d d k) (ix (ix g.d d).l k)=false:=by simpa using hm
  have hh:holdL g.e (ix (ix g.d d).l k)=holdL g.e (ix (ix g.d d).l 0):=br hh;revert hm hh;generalize hx:ix (ix g.d d).l k=x at*;obtain⟨e,j⟩:=x;dsimp only at hr;intro hm hh;refine⟨e.toNat,j.toNat,?_,jb,jb,hm,hh⟩;rw[eV jb,eV jb]
def MV{α β:Type}[Inhabited α](f:α->List β):∀l:List α,(∀k,k<l.length->(f (ix l k)).Nodup/\∀j,j<k->∀x,x∈f (ix l k)->x∉f (ix l j))->(l.flatMap f).Nodup:=by
 intro l;have key:∀k,k<=l.length->(∀k,k<l.length->(f (ix l k)).Nodup/\∀j,j<k->∀x,x∈f (ix l k)->x∉f (ix l j))->((l.take k).flatMap f).Nodup:=by
  intro k;induction k with
  |zero=>simp
  |succ k ih=>
   intro hk h
   rw[bD jb,cH,gP]
   have hs:[ix l k].flatMap f=f (ix l k):=by simp
   rw[hs]
   refine⟨ih jb h,(h k jb).1,λa ha b hb e=>?_⟩
   subst e
   obtain⟨y,hy,hay⟩:=cA.mp ha
   obtain⟨j,hj,rfl⟩:=aE hy
   grind[fJ]
 grind[List.take_length]
def VU{α β:Type}[Inhabited α][Inhabited β](f:α->β){l:List α}{i:Nat}(h:i<l.length):ix (l.map f) i=f (ix l i):=by grind[fJ]
section
variable {n i:Nat} {e:Bc}
theorem EZ.prt(h:EZ n i e){k:Nat}(hk:k<e.a.length):∀t∈ix e.a k,∀x∈t,x.k=-1\/0<=x.k/\x.k<e.c.length:=λt ht x hx=>(((h.a k hk).2.2 t ht x hx).1).1
def agL{α:Type}[Inhabited α]{l:List α}{k:Nat}(h:l.length<=k):ix l k=default:=by grind[ix]
def R3.amN:(default:R3).q=0:=by rfl
def EZ.amt(h:EZ n i e)(k:Nat):0<=(ix e.c k).a.q:=by
 by_cases hk:k<e.c.length
 .exact(h.c k hk).2.2.1
 .rw[agL jb];rfl
def JI{cs:List C5}{k:Nat}{t:dJ}:t∈YK cs k↔∃r,r<8/\t=xZ cs r k:=by grind[YK]
def JJ(h:EZ n i e):Ad (dB e)/\InE e.c.length (dB e):=by
 have hA:∀k,k<e.a.length->wC (λq=>0<=q) e.c.length (qI e.c (ix e.a k)).2:=λk hk=>aaP ak2 h.amt λt ht x hx=>((h.a k hk).2.2 t ht x hx).1;refine⟨⟨λt ht p hp=>?_,λp hp t ht q hq=>?_⟩,⟨λt ht p hp=>?_,λp hp t ht q hq=>?_,?_,λi hi=>?_⟩⟩
 .obtain⟨r,-,rfl⟩:=JI.mp ht;exact(MS (P:=λq=>0<=q) (λi _=>h.amt i) r _ jp p hp).2
 .obtain⟨a,ha,rfl⟩:=cU.mp hp;obtain⟨k,hk,rfl⟩:=aE ha;rw[<-fJ hk]at ht;exact(hA k hk t ht q hq).2
 .obtain⟨r,-,rfl⟩:=JI.mp ht;exact(MS (P:=λq=>0<=q) (λi _=>h.amt i) r _ jp p hp).1
 .obtain⟨a,ha,rfl⟩:=cU.mp hp;obtain⟨k,hk,rfl⟩:=aE ha;rw[<-fJ hk]at ht;exact(hA k hk t ht q hq).1
 .show((e.a.map (qI e.c)).flatMap (·.1)).Nodup;rw[ic];refine MV (λa=>(qI e.c a).1) e.a λk hk=>⟨YO (h.prt hk),λj hj x hx hx2=>?_⟩
  have h1:=(wE (h.prt hk)).mp hx;have h2:=(wE (h.prt (by omega:j<e.a.length))).mp hx2;obtain⟨t,ht,hm⟩:=fq.mp h1;obtain⟨y,hy,ey⟩:=fq.mp hm;have ey:y.k=(x:Int):=by grind
  have:=((h.a k hk).2.2 t ht y hy).2 jb;rw[ey]at this;unfold yj at this;rw[List.any_eq_false]at this;refine this (ix e.a j) ?_ h2;rw[<-QZ (l:=e.a) hj];grind[kN]
 .obtain⟨p,hp,hi⟩:=cA.mp hi;obtain⟨a,ha,rfl⟩:=cU.mp hp;obtain⟨k,hk,rfl⟩:=aE ha;rw[<-fJ hk]at hi;have h1:=(wE (h.prt hk)).mp hi;have:=rQ (h.prt hk) i (pI.mpr ⟨jb,h1⟩);omega
end
def apu{g:iD}(h:GZ g):Jd g.e.length (aY g):=by
 refine⟨λi hi=>(JJ (h.e i hi)).1,λi hi=>(JJ (h.e i hi)).2,λi c hi hc=>?_,λl hl=>?_,?_,λd hd=>?_⟩
 .have:=((h.e i hi).c c hc).2.2.2;show(ix (ix g.e i).c c).h=-1\/0<=(ix (ix g.e i).c c).h/\(ix (ix g.e i).c c).h<(g.e.length:Int);omega
 .obtain⟨d,hd,hl⟩:=cA.mp hl;obtain⟨d',hd',rfl⟩:=cU.mp hd;obtain⟨j,hj,rfl⟩:=aE hd';obtain⟨x,hx,rfl⟩:=cU.mp hl;rw[<-fJ hj]at hx;obtain⟨k,hk,rfl⟩:=aE hx;obtain⟨a,b,e1,h1,h2,-⟩:=(h.l j hj).2.2 k hk;rw[<-fJ hk,e1];exact⟨h1,h2⟩
 .show((g.d.map λd=>(d.w.q,d.l.map yG)).flatMap (·.2)).Nodup;rw[ic];have key:∀d,d<g.d.length->∀k,k<(ix g.d d).l.length->∀y∈lX g.d d k,(0<=y.e/\0<=y.k)->yG y≠yG (ix (ix g.d d).l k):=λd hd k hk y hy hn e=>by obtain⟨a,b,e1,h1,h2,h3,-⟩:=(h.l d hd).2.2 k hk;grind[Go.Proofs.Ins.FP,Go.Proofs.Ins.yG]
  have nn:∀d,d<g.d.length->∀y∈(ix g.d d).l,0<=y.e/\0<=y.k:=λd hd y hy=>by obtain⟨k,hk,rfl⟩:=aE hy;obtain⟨a,b,e1,-⟩:=(h.l d hd).2.2 k hk;grind[fJ]
  refine MV (λd:D5=>d.l.map yG) g.d λd hd=>⟨?_,λj hj x hx hx2=>?_⟩
  .have:(List.range (ix g.d d).l.length).Pairwise (· < ·):=List.pairwise_lt_range;rw[ik,List.pairwise_map,il];intro a b ha hb hab;have:=key d hd b hb (ix (ix g.d d).l a) (List.mem_append_right _ ?_) ?_
   .grind[fJ]
   .rw[<-QZ (l:=(ix g.d d).l) hab];grind[kN]
   grind[kN]
  .obtain⟨y,hy,rfl⟩:=cU.mp hx;obtain⟨z,hz,e⟩:=cU.mp hx2;obtain⟨k,hk,rfl⟩:=aE hy;rw[<-fJ hk]at e;refine key d hd k hk z (ib _ (cA.mpr ⟨ix g.d j,?_,hz⟩)) (nn j jb z hz) e;rw[<-QZ (l:=g.d) hj];grind[kN]
 .obtain⟨d',hd',rfl⟩:=cU.mp hd;obtain⟨j,hj,rfl⟩:=aE hd';rw[<-fJ hj];exact(h.l j hj).2.1
end Go.Proofs.Ins
namespace Go.Proofs.Xe
open Go.RowKit Go.Proofs.Ins
def vQ:Rat:=((256^uK:Nat):Rat)
def uQ:Rat:=((256^900:Nat):Rat)
def MW:0<=uQ:=by have:((0:Nat):Rat)<=((256^900:Nat):Rat):=bo.mpr (bz _);exact this
theorem pow_two{a b c:Nat}(h:a+b=c):256^a*256^b=256^c:=by rw[<-h,Nat.pow_add]
theorem Ei {k:Nat} (h:k≤256 ^ 100):(k:Rat)*uQ≤vQ:=by
 unfold uQ vQ
 rw [← Rat.natCast_mul]
 refine Rat.natCast_le_natCast.mpr ?_
 calc k*256 ^ 900≤256 ^ 100*256 ^ 900:=Nat.mul_le_mul_right _ h
  _=256 ^ uK:=pow_two (show 100+900=uK from rfl)
def PL{k:Nat}(h:k<=256^100):(k:Rat)<=vQ:=by unfold vQ;exact bo.mpr (ag h (bw jj jj))
abbrev Gi(A:Nat)(q:Rat):Prop:=dR A q/\0<=q/\q<=uQ
section
variable {A n:Nat} {l:fP}
def SH{t:dJ}(h:yE (Gi A) n t):aU t<=(t.length:Rat)*uQ:=by
 induction t with
 |nil=>show(0:Rat)<=_;simp
 |cons p t ih=>
  have h1:=ih λq hq=>h q (by simp[hq])
  have h2:=(h p kc).2.2.2
  rw[bL,fw]
  grind[aU]
def LK:∀{l:fP},wC (Gi A) n l->mP l<=(bZ l:Rat)*uQ
 |[],_=>by show(0:Rat)<=((0:Nat):Rat)*uQ;simp
 |t::l,h=>by have h1:=LK (l:=l) λu hu=>h u (by simp[hu]);have h2:=SH (h t kc);show aU t+mP l<=((t.length+bZ l:Nat):Rat)*uQ;grind
theorem BR:∀{l:fP},Og l->0<=mP l
 |[],_=>aM
 |t::l,h=>by have:=BR (l:=l) λu hu=>h u (by simp[hu]);have:=y8 (h t kc);show 0<=aU t+mP l;grind
def agM:∀{l:fP}{j:Nat},Og l->j<l.length->aU (ix l j)<=mP l
 |t::l,0,h,_=>by have:=BR (l:=l) λu hu=>h u (by simp[hu]);show aU t<=aU t+mP l;grind
 |t::l,j+1,h,hj=>by have:=agM (l:=l) (j:=j) (λu hu=>h u (by simp[hu])) (by simpa using hj);have:=y8 (h t kc);show aU (ix l j)<=aU t+mP l;grind
theorem YS:∀{l:fP}(k:Nat),Og l->0<=Ae l k/\Ae l k<=mP l
 |[],k,h=>by unfold Ae;rw[List.take_nil];exact⟨aM,aM⟩
 |t::l,0,h=>⟨aM,BR h⟩
 |t::l,k+1,h=>by obtain⟨h1,h2⟩:=YS (l:=l) k λu hu=>h u (by simp[hu]);have:=y8 (h t kc);unfold Ae at h1 h2⊢;rw[fo];show 0<=aU t+mP _/\aU t+mP _<=aU t+mP l;grind
end
structure EB(n:Nat)(e:dV):Prop where
 nb:n<=1000
 r0:0<e.rk.length
 r1:e.rk.length<=1000
 rn:bZ e.rk<=1000
 ps:e.ps.length<=1000
 m:∀p∈e.ps,p.1.length<=1000/\∀i∈p.1,i<n
 p:∀p∈e.ps,0<p.2.length/\p.2.length<=1000/\bZ p.2<=10000
section
variable {A B R D n:Nat} {l:fP} {m x:Rat}
theorem qj(hD:Ah D)(hB:B∣D){q:Rat}(h:dR B q)(h0:0<=q)(h1:q<=vQ):Zk D 1 q:=Zk.of hD.1 (h.dvd hB hD.1) h0 h1
theorem tN:2<=256^uK:=ag (by decide:2<=256^1) (bw jj jj)
def Dh:∀{l:fP}{t:dJ},t∈l->t.length<=bZ l
 |u::l,t,h=>by
  unfold bZ;rcases bA.mp h with rfl|h
  .omega
  .have:=Dh h;omega
def VW(hD:Ah D)(hA:A∣D)(h:wC (Gi A) n l)(hl:l.length<=1000)(hn:bZ l<=10000):MJ D n l:=by
 have hU:=Ei (k:=10000) jj;have hU1:=Ei (k:=1) jj;have hz:∀t∈l,∀p∈t,Zk D 1 p.2:=λt ht p hp=>by have:=(h t ht p hp).2;grind[Go.Proofs.Xe.qj]
 refine⟨jb,λt ht=>by have:=Dh ht;omega,λt ht=>?_,λt ht p hp=>(h t ht p hp).1,λt ht p hp=>(hz t ht p hp).sz hD (by grind[tN]),hz⟩;have h1:=SH (h t ht);have h2:(t.length:Rat)<=((10000:Nat):Rat):=bo.mpr (by have:=Dh ht;omega);have h3:=bh h2 MW;refine(qj hD hA (BP λp hp=>⟨(h t ht p hp).2.1,(h t ht p hp).2.2.1⟩) (y8 λp hp=>(h t ht p hp).2.2.1) kd).sz hD (by grind[tN])
def JK(hA0:0<A)(hD:Ah D)(hA:A∣D)(h:wC (Gi A) n l)(hn:bZ l<=10000)(hB:B∣D)(hm:dR B m)(h0:0<=m)(h1:m<=vQ)(hR0:0<R)(hR:R*uN A l m∣D)(hx:dR R x)(hx0:0<=x)(hx1:x<=vQ):MN D l m x:=by
 have hnn:=h.D.nn;have hR1:R∣D:=bB (aL _ _) hR;have hU:=Ei (k:=10000) jj;have h2:(bZ l:Rat)<=((10000:Nat):Rat):=bo.mpr hn;have h3:=bh h2 MW;have ht:=LK h;have hu:=tN;have hzx:=qj hD hR1 hx hx0 hx1;refine⟨λk _=>?_,h0,hzx.sz hD jb,λhf=>?_,λhf p hp=>?_⟩
 .have hc:=YS k hnn;exact((qj hD hB hm h0 h1).sub (qj hD hA (agH h.D k) hc.1 kd)).sz hD jb
 .have hs:=yF h0 hf;have:=agM hnn hf;exact hzx.arY (qj hD hA (BP (h.D _ (fK hf))) (dt hs) kd) hD jb jb kd
 .have hs:=yF h0 hf;have hpp:=h.D _ (fK hf) p hp;have hps:p.2<=aU (ix l (dH l m)):=by
   have:∀t:dJ,(∀q∈t,0<=q.2)->p∈t->p.2<=aU t:=λt=>by
    induction t with
    |nil=>simp
    |cons q t ih=>
     intro hq hp
     show p.2<=q.2+aU t
     have h4:=hq q kc
     have h5:0<=aU t:=y8 λr hr=>hq r (by simp[hr])
     grind
   exact this _ (λq hq=>(h.D _ (fK hf) q hq).2) hp
  have e:p.2*(x/aU (ix l (dH l m)))=x*(p.2/aU (ix l (dH l m))):=by grind
  have h4:=y9 hs hps;have h5:=YB hpp.2 hs;have h6:=cT h4 hx0;refine qj hD hR (agI hA0 h.D h0 hR0 hx hf hpp.1) ?_ ?_
  .grind[Rat.mul_nonneg]
  grind
def left_le(h0:0<=m)(h:Og l):0<=jf l m/\jf l m<=m:=by grind[Go.Proofs.Xe.Sr,Go.Proofs.Xe.MI,Go.Proofs.Xe.YS]
def apv{l:fP}(h:Og l)(c:Int):∀{m:Rat},0<=m->fO l m c<=mP l:=by
 induction l with
 |nil=>intro m _;rfl
 |cons t l ih=>
  intro m hm
  have hl:=BR (l:=l) λu hu=>h u (by simp[hu])
  have h2:=JB (h t kc) c
  have h3:=CV (h t kc) c
  unfold fO
  show _<=aU t+mP l
  split
  .next hlt=>
   have h4:=y9 (a:=m) (b:=aU t) kd (dt hlt)
   have h5:=cT h4 h3
   grind
  .have:=ih (λu hu=>h u (by simp[hu])) (m:=m-aU t) kd
   grind
def SI{l:fP}(h:Og l)(c:Int){x:Rat}(hx:0<=x)(h0:0<=m):jy l m x c<=x:=by
 rw[C9];split
 .next hf=>
  have hs:=yF h0 hf;have hl:=h _ (fK hf);have e:lJ (ix l (dH l m)) c*(x/aU (ix l (dH l m)))=x*(lJ (ix l (dH l m)) c/aU (ix l (dH l m))):=by grind
  rw[e];have h4:=y9 hs (JB hl c);have h6:=cT h4 hx;grind
 omega
end
section
variable {A B D n:Nat} {m:Rat} {e:dV}
def ql{α:Type}{f:α->Rat}{v:Rat}(h0:0<=v):∀{l:List α}{k:Nat},(∀a∈l,f a<=v)->l.length<=k->aG l f<=(k:Rat)*v
 |[],k,_,_=>by have:((0:Nat):Rat)<=(k:Rat):=bo.mpr (bz _);exact bR this h0
 |a::l,k,h,hk=>by
  obtain⟨k,rfl⟩:∃j,k=j+1:=⟨k-1,by simp at hk;omega⟩
  have h1:=ql h0 (l:=l) (k:=k) (λb hb=>h b (by simp[hb])) (by simpa using hk);have h2:=h a kc;show f a+aG l f<=_;rw[fw];have:((1:Nat):Rat)=1:=rfl;grind
def agN(h:ED A uQ n e)(hb:EB n e)(h0:0<=m){p:List Nat×fP}(hp:p∈e.ps):kC e m p<=vQ:=by have ht:=LK h.rk;have h2:(bZ e.rk:Rat)<=((1000:Nat):Rat):=bo.mpr hb.rn;have h3:=bh h2 MW;have h4:=ql (f:=xY e m) (v:=((1000:Nat):Rat)*uQ) (bR (bo.mpr (bz 1000)) MW) (l:=p.1) (k:=1000) (λc _=>cD (apv h.rk.D.nn c h0) (cD ht h3)) (hb.m p hp).1;have h5:=Ei (k:=1000*1000) jj;grind[kC]
def apw(h:ED A uQ n e)(hb:EB n e)(h0:0<=m){p:List Nat×fP}(hp:p∈e.ps):qB e m p<=vQ:=by have h4:=ql (f:=rts e m) (v:=1) jj (l:=p.1) (k:=1000) (λc _=>SI h.rk.D.nn c jj h0) (hb.m p hp).1;have h5:=PL (k:=1000) jj;grind[qB]
def agO(hD:Ah D)(hA:A∣D)(h:ED A uQ n e)(hb:EB n e):EOk D n e:=by
 have hn:=hb.nb;have hps:=hb.ps;refine⟨jb,VW hD hA h.rk hb.r1 (by have:=hb.rn;omega),hb.r0,jb,λp hp=>⟨by have:=(hb.m p hp).1;omega,(hb.m p hp).2⟩,λp hp=>⟨VW hD hA (h.ps p hp) (hb.p p hp).2.1 (hb.p p hp).2.2,(hb.p p hp).1⟩,?_⟩;have h1:∀l:List (List Nat×fP),(∀p∈l,bZ p.2<=10000)->Gf l<=l.length*10000:=λl=>by
  induction l with
  |nil=>intro _;exact cI 0
  |cons p l ih=>
   grind[Gf]
 have h2:=h1 e.ps λp hp=>(hb.p p hp).2.2;have h3:=hb.rn;grind[uK]
def agP(hA0:0<A)(hB0:0<B)(hAB:A∣B)(hD:Ah D)(hBD:B*Af A e m∣D)(h:ED A uQ n e)(hb:EB n e)(hm:dR B m)(h0:0<=m)(h1:m<=vQ):MOk D e m:=by
 have hB:B∣D:=bB (aL _ _) hBD;have hA:A∣D:=bB hAB hB;have hr:B*uN A e.rk m∣D:=bB (cC _ (aL _ _)) hBD;have hr0:=bW hB0 (qh hA0 h.rk.D h0);refine⟨(qj hD hB hm h0 h1).sz hD (by grind[tN]),?_,λp hp=>?_⟩
 .have hl:=left_le h0 h.rk.D.nn;exact JK hA0 hD hA h.rk (by have:=hb.rn;omega) hB hm h0 h1 hB0 hr (YR hA0 hB0 hAB h.rk.D hm) hl.1 (cD hl.2 h1)
 .have hg:=mQ h.nn h0 p;have hgD:=VQ hA0 hB0 hAB h hm h0 p;have hgl:=agN h hb h0 hp;have hl:=left_le hg (h.ps p hp).D.nn;have hd:B*uN A e.rk m*uN A p.2 (kC e m p)∣D:=by refine bB ?_ hBD;rw[fj];exact cC _ (cC _ (BQ A e m hp))
  exact⟨JK hA0 hD hA (h.ps p hp) (hb.p p hp).2.2 hr hgD hg hgl hr0 hd (YR hA0 hr0 (bB hAB (aL _ _)) (h.ps p hp).D hgD) hl.1 (cD hl.2 hgl),(qj hD hr hgD hg hgl).sz hD (by grind[tN])⟩
def agQ(hA0:0<A)(hB0:0<B)(hAB:A∣B)(hD:Ah D)(hBD:B*Af A e m∣D)(h:ED A uQ n e)(hb:EB n e)(hm:dR B m)(h0:0<=m)(h1:m<=vQ):ROk D e m:=by
 have hB:B∣D:=bB (aL _ _) hBD;have hA:A∣D:=bB hAB hB;have hr:B*uN A e.rk m∣D:=bB (cC _ (aL _ _)) hBD;have hr0:=qh hA0 h.rk.D h0;have hr1:uN A e.rk m∣D:=bB (gm _ _) hr;have h1v:=PL (k:=1) jj;refine⟨?_,λp hp=>?_⟩
 .exact JK (R:=1) hA0 hD hA h.rk (by have:=hb.rn;omega) hB hm h0 h1 jj kd ⟨1,by grind⟩ jj h1v
 .have hg:=mQ h.nn h0 p;have hgD:=VQ hA0 hB0 hAB h hm h0 p;have hgl:=agN h hb h0 hp;have hR:=H9 h.nn h0 p;have hRD:=aaQ hA0 h h0 p;have hRl:=apw h hb h0 hp;have hd:uN A e.rk m*uN A p.2 (kC e m p)∣D:=by refine bB ?_ (bB (gm _ _) hBD);exact cC _ (BQ A e m hp)
  exact⟨JK hA0 hD hA (h.ps p hp) (hb.p p hp).2.2 hr hgD hg hgl hr0 hd hRD hR hRl,(qj hD hr1 hRD hR hRl).sz hD (by grind[tN])⟩
end
section
variable {E:Env} [Yj E] {p:Nat→Prop} {σ:St} {K:V→St→Prop}
def VX{v:B}{a:iK}(ha:fE p σ.h v a)(h1:a.length<=1000000)(h2:a.flatten.length<=1000000){v':V}{σ':St}(hm:afL a.flatten σ=some (v',σ')):aC E 133 [.c v] σ K=K v' σ':=
 Pg (by have h:=(akn ha h1 h2).trans hm;unfold Vg;rw[aah rfl];unfold akp afO;simp only[Nat.reduceEqDiff,reduceIte,h])
def PN{v:B}{a:iK}(ha:fE p σ.h v a)(h1:a.length<=1000000)(h2:a.flatten.length<=1000000){v':V}{σ':St}(hm:afK (uI a) σ=some (v',σ')):aC E 91 [.agg [v]] σ K=K v' σ':=
 Pg (by have h:=(akm ha h1 h2).trans hm;unfold Vg;rw[aah rfl];unfold akp afO;simp only[Nat.reduceEqDiff,reduceIte,h])
end
def PO{E:Env}[Yj E]{σ:St}(hW:WF σ){p:Nat->Prop}{v:B}{a:iK}(ha:fE p σ.h v a)(h1:a.length<=1000000)(h2:a.flatten.length<=1000000):
  aC E 91 [.agg [v]] σ λr σ'=>(∃u,r=.c u/\yD σ'.h u (uI a).length (λi=>[.int .i64 (ix (uI a) i)]) 1 3 σ.aj σ'.aj)/\Fr σ σ':=by
 by_cases h0:(uI a).length=0
 .rw[PN ha h1 h2 (v':=.c .bg) (σ':=σ) (ae h0)]
  exact⟨⟨_,rfl,.inl ⟨h0,rfl⟩⟩,Fr.refl hW⟩
 .rw[PN ha h1 h2 (ab h0)]
  exact⟨⟨_,rfl,.inr ⟨jb,_,rfl,aB _ _ _,jp,bO _⟩⟩,fr⟩
def ak3{a:iK}{n:Nat}(ha:∀t∈a,∀x∈t,x.k=-1\/0<=x.k/\x.k<n){i:Nat}(hi:i<(uI a).length):B.int .i64 (ix (uI a) i)=Oh (lH a) i:=by unfold Oh lH;rw[VU Int.toNat hi];have:=rQ ha _ (kN hi);grind
def MX(a:iK):(lH a).length=(uI a).length:=cV _
structure TS(σ:St)(tb bs:Nat)(t:dJ):Prop where
 b:σ.h tb=some ⟨jA (aQ t.length bs) (aU t),none⟩
 o:MR σ.h bs t
 lo:tb<bs
 hi:t.length=0\/bs<σ.aj
def TS.lt{σ:St}(hW:WF σ){tb bs:Nat}{t:dJ}(h:TS σ tb bs t):tb<σ.aj:=hW.lt h.b
def TS.on{σ σ':St}{tb bs:Nat}{t:dJ}(h:TS σ tb bs t)(h1:∀b,tb<=b->b<σ.aj->σ'.h b=σ.h b)(hW:WF σ)(hle:σ.aj<=σ'.aj):TS σ' tb bs t:=by have h0:=h.lt hW;have hlo:=h.lo;have hhi:=h.hi;refine⟨by rw[h1 tb jp h0];exact h.b,?_,hlo,jb⟩;refine(uH ?_).trans h.o;grind
theorem TS.fr{σ σ':St}{tb bs:Nat}{t:dJ}(h:TS σ tb bs t)(hW:WF σ)(hf:Fr σ σ'):TS σ' tb bs t:=h.on (λb _ hb=>hf.old b hb) hW hf.le
def TS.fre{σ σ':St}{ex:List Nat}{tb bs:Nat}{t:dJ}(h:TS σ tb bs t)(hW:WF σ)(hf:aP ex σ σ')(hx:∀b∈ex,b<tb):TS σ' tb bs t:=h.on (λb h1 h2=>hf.old b h2 λhm=>by grind) hW hf.le
def YT{σ:St}(hW:WF σ){tb bs:Nat}{t:dJ}(hT:TS σ tb bs t)(hl:t.length<=1000000)(k:Int)(q:Rat)(hs:Sz (aU t))(hq:Sz q):
  aC EN 93 [.c (.ptr tb 0),.c (.int .i64 k),.agg [.bool (rn q),.str (rs q),.str (rd q)]] σ λ_ σ'=>(∃bs',TS σ' tb bs' (t++[(k,q)]))/\(∀b,b<tb->σ'.h b=σ.h b)/\WF σ'/\σ.aj<=σ'.aj:=by
 have h0:=hT.lo
 have hlt:=hT.lt hW
 have:=agC (G:=λ_=>jA (aQ t.length bs) (aU t)) (n:=1) (r:=0) hW (by rw[hT.b];rfl) jj (λ_=>rfl) rfl rfl rfl hT.o (.inr jb) hT.hi hl k q hs hq
 refine this.mono ?_
 rintro _ σ' ⟨nx,h1,h2,h3,h4,h5⟩
 have hle:=h5.le
 refine⟨⟨nx,?_,?_,jb,.inr h2⟩,λb hb=>h5.old b jb kd,h5.wf,hle⟩
 .rw[h3,PI,aR];rfl
 .unfold MR
  rw[aR,dE]
  show σ'.h nx=some _
  grind[Go.Proofs.Xe.vM,Go.Proofs.Xe.dO,Go.Proofs.Xe.kJ,Go.Proofs.Xe.zJ,Go.Proofs.Xe.zI]
def ak4(U:Nat->B)(Lf:Nat->dJ)(p:Nat->Prop)(h:Tr Bk)(i:Nat):Prop:=aZ p h 4 (U i) (Lf i).length λc=>yB (ix (Lf i) c)
def VY(U:Nat->B)(Lf:Nat->dJ)(i:Nat):List B:=jA (U i) (aU (Lf i))
abbrev YU(U:Nat->B)(Lf:Nat->dJ)(h:Tr Bk)(b n lo hi:Nat):Prop:=NF (ak4 U Lf) h b n (VY U Lf) 4 157 lo hi
def SK(U:Nat->B)(Lf:Nat->dJ)(j:Nat):QK (ak4 U Lf) j:=λ_ _ _ _ hp hk hq=>aZ.keep hp hk hq
def SL(U:Nat->B)(Lf:Nat->dJ):LG (VY U Lf) 4:=λ_=>rfl
section
variable {U:Nat→B} {Lf:Nat→dJ} {h h' : Tr Bk} {b n lo hi:Nat}
def YU.push(ho:YU U Lf h b n lo hi){σ1:St}(hW:WF σ1){tb bs nx n':Nat}{t:dJ}(hL:Lf n=t)(hT:TS σ1 tb bs t)(ht:hi<=tb)(h5:lo<=hi)(hh:∀b,lo<=b->b<hi->σ1.h b=h b)(h3:σ1.aj<=nx)(h4:nx<n')
  (hb:h' nx=some ⟨dF n (VY U Lf)++jA (aQ t.length bs) (aU t),some (4,157)⟩) (hk:∀c,lo<=c->c<σ1.aj->n=0\/c≠b->h' c=σ1.h c):YU (aT U n (aQ t.length bs)) Lf h' nx (n+1) lo n':=by
 have hlt:=hT.lt hW
 have hlo:=hT.lo
 have hx:aZ (λb=>hi<=b/\b<σ1.aj) σ1.h 4 (aQ t.length bs) t.length λj=>yB (ix t j):=hT.o.hlp (by rcases hT.hi with h0|h0;exact .inl h0;omega)
 refine NF.push ho (λj _=>SK _ Lf j) (λj hj p h hq=>?_) (hi1:=σ1.aj) (h1:=σ1.h) ?_ hh jb h3 h4 h5 hb ?_ hk (λi hi=>?_) (SL _ _)
 .grind[ak4,aW]
 .grind[ak4,aS]
 .grind[VY,aS]
 grind[VY,aW]
def YU.apx(ho:YU U Lf h b n lo hi){l:fP}(hl:l.length=n)(hL:∀i,i<n->Lf i=ix l i):xw (λb=>lo<=b/\b<hi) h (aQ n b) l:=by
 have hel:=λi (hi:i<n)=>ho.el (λj _=>SK U Lf j) hi;refine⟨U,?_,by cases n<;>trivial,λi hi=>?_⟩
 .rw[hl];refine(ho.hlp jj (λi hi=>?_) λb h1 h2=>⟨h1,h2⟩).congr λi hi=>by grind[VY]
  unfold VY jA;simp only[dp,fv,Jt,QT,(hel i hi).kn,eY]
 .rw[hl]at hi;rw[<-hL i hi];exact hel i hi
end
def lsS(cs:List C5)(a:iK)(j:Nat):(Nat->Rat)×fP:=(a.take j).foldl ltS ((λi:Nat=>(ix cs i).a.q),[])
def zK(f:Nat->Rat)(t:I9)(l:Nat):(Nat->Rat)×dJ:=(t.take l).foldl lpS (f,[])
theorem MZ{cs:List C5}{a:iK}{j:Nat}(h:j<a.length):lsS cs a (j+1)=ltS (lsS cs a j) (ix a j):=by grind[lsS,bD]
def Gj(cs:List C5)(a:iK):lsS cs a a.length=lsA cs a:=by grind[lsS,lsA]
def zL(cs:List C5)(a:iK):∀j,j<=a.length->(lsS cs a j).2.length=j
 |0,_=>rfl
 |j+1,h=>by rw[MZ jb];unfold ltS;rw[aR,zL cs a j jb];rfl
def YV{α:Type}[Inhabited α]{l:List α}{x:α}{n:Nat}(h:l.length=n):ix (l++[x]) n=x:=by grind[zJ]
def nR(m k:Nat)(F:Nat->Rat):bU m (aT (λi=>if i<k then F i else 0) k (F k))=bU m λi=>if i<k+1 then F i else 0:=dI λi _=>by grind[aT]
def uO(m:Nat)(F:Nat->Rat):bU m (λi=>if i<m then F i else 0)=bU m F:=dI λi hi=>ae hi
def sF(m:Nat)(F:Nat->Rat):bU m (λ_=>0)=bU m λi=>if i<0 then F i else 0:=dI λi _=>rfl
def agR{s:(Nat->Rat)×dJ}{x:Eh}{kk:Nat}(h1:¬x.k=-1)(hk:x.k=Int.ofNat kk):lpS s x=(aT s.1 kk (s.1 kk-if x.b=true then iC (s.1 kk) x.a.q else s.1 kk),s.2++[(Int.ofNat kk,if x.b=true then iC (s.1 kk) x.a.q else s.1 kk)]):=by unfold lpS;rw[ab h1,hk];refine Prod.ext ?_ rfl;grind[aT]
def SN{cs:List C5}{a:iK}{i:Nat}:∀{j},i<j->j<=a.length->ix (lsS cs a j).2 i=(zK (lsS cs a i).1 (ix a i) (ix a i).length).2
 |j+1,hi,hj=>by
  rw[MZ jb];unfold ltS;by_cases e:i=j
  .subst e;have:=zL cs a i jb;exact(YV this).trans (by unfold zK;rw[bX])
  .show ix ((lsS cs a j).2++[_]) i=_;rw[zI _ _ (by rw[zL cs a j jb];omega)];exact SN jb jb
def VZ{f:Nat->Rat}{t:I9}{l:Nat}(h:l<t.length):zK f t (l+1)=lpS (zK f t l) (ix t l):=by grind[zK,bD]
def JL(f:Nat->Rat)(t:I9):∀l,l<=t.length->(zK f t l).2.length=l
 |0,_=>rfl
 |l+1,h=>by rw[VZ jb];unfold lpS;split<;>simp[JL f t l jb]
def agS{cs:List C5}{a:iK}{j:Nat}(h:j<a.length):(lsS cs a (j+1)).1=(zK (lsS cs a j).1 (ix a j) (ix a j).length).1:=by grind[MZ,ltS,zK]
def ac2(ms:List Nat)(f:Nat->Rat){i:Nat}(h:i<ms.length):xR (ms.take (i+1)) f=xR (ms.take i) f++[(((ix ms i:Nat):Int),f (ix ms i))]:=by grind[xR,bD]
def agT:∀{l:List Int}{lo hi:Int},l.Pairwise (· < ·)->(∀x∈l,lo<=x/\x<hi)->l.length<=(hi-lo).toNat
 |[],_,_,_,_=>bz _
 |a::l,lo,hi,hp,h=>by
  rw[List.pairwise_cons]at hp;have h1:=h a kc;have:=agT (lo:=a+1) (hi:=hi) hp.2 λx hx=>by grind
  grind
def Ej{a:iK}{n:Nat}(ha:∀t∈a,∀x∈t,x.k=-1\/0<=x.k/\x.k<n):(lH a).length<=n:=by have:=agT (aad a) (rQ ha);rw[MX];omega
theorem JM(cs:List C5)(r:Nat):∀k,(xZ cs r k).length<=k
 |0=>cI 0
 |k+1=>by have:=JM cs r k;unfold xZ;rw[aR];split<;>simp<;>omega
section
variable {A n:Nat}
def apy(hA:0<A):Oj (Gi A) where
 min:=λa b ha hb=>by grind[iC]
 sub:=λa b ha hb=>by
  have h1:=ha.2;have h2:=hb.2;unfold iC;split
  .grind[dR.zero]
  .exact⟨ha.1.sub hb.1,by grind,by grind⟩
 zero:=⟨dR.zero A,aM,MW⟩
def Na(hA:Ah A){q:Rat}(h:Gi A q):Sz q:=by have hU:=Ei (k:=1) jj;have:((1:Nat):Rat)=1:=rfl;exact(qj hA (gT A) h.1 h.2.1 kd).sz hA (by grind[tN])
def SQ(hA:Ah A){t:dJ}(h:yE (Gi A) n t)(hl:t.length<=10000):Sz (aU t):=by have hU:=Ei (k:=10000) jj;have h1:=SH h;have h2:(t.length:Rat)<=((10000:Nat):Rat):=bo.mpr hl;have h3:=bh h2 MW;exact(qj hA (gT A) (BP λp hp=>⟨(h p hp).2.1,(h p hp).2.2.1⟩) (y8 λp hp=>(h p hp).2.2.1) kd).sz hA (by grind[tN])
def apz{P:Rat->Prop}(hP:Oj P){f:Nat->Rat}(hf:∀i,P (f i)){t:I9}(ht:∀x∈t,Ol P n x)(l:Nat):(∀i,P ((zK f t l).1 i))/\yE P n (zK f t l).2:=
 YL hP (t.take l) hf (λ_ h=>by cases h) λx hx=>ht x (du hx)
def apA{P:Rat->Prop}(hP:Oj P){cs:List C5}(hc:∀i,P (ix cs i).a.q){a:iK}(ha:∀t∈a,∀x∈t,Ol P n x)(j:Nat)(i:Nat):P ((lsS cs a j).1 i):=
 (YM hP (a.take j) hc (λ_ h=>by cases h) λt ht=>ha t (du ht)).1 i
end
def apB(p q:Rat):Hr p q=iC p q:=by
 unfold Hr iC;by_cases h:p<=q
 .rw[ae h,ae (uF.mpr h)]
 .rw[ab h,ab λe=>h (uF.mp e)]
structure agU(A:Nat)(cs:List C5)(a:iK):Prop where
 nc:cs.length<=1000
 na:a.length<=1000
 nt:∀t,t<a.length->(ix a t).length<=1000
 nf:a.flatten.length<=1000000
 fc:∀i,i<cs.length->(ix cs i).a.fits 1000000
 fp:∀t,t<a.length->∀l,l<(ix a t).length->(ix (ix a t) l).a.fits 1000000
 c:∀i,Gi A (ix cs i).a.q
 p:∀t∈a,∀x∈t,Ol (Gi A) cs.length x
end Go.Proofs.Xe
