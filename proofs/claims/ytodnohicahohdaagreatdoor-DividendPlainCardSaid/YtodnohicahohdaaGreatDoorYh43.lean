import Derived.Test.YtodnohicahohdaaGreatDoorYh42
set_option linter.all false
set_option maxRecDepth 100000
attribute [-go_sem] Go.Proofs.Xe.azd Go.Proofs.Xe.aze Go.Proofs.Xe.azf
namespace Go.Proofs.Xe
open Go.RowKit Go.Proofs.Ins
structure jT(g:dV):Prop where
 n:g.e.length<=8
 bld:aaw 60 g
 sm:CW 134217728 g
 z:Jt g=0
 k6:∀i,i<g.e.length->kE g.e i<=6
 ed:∀i,i<g.e.length->ED 60 100 (kE g.e i) (bZ (ix g.e i))
 eb:∀i,i<g.e.length->EB (kE g.e i) (bZ (ix g.e i))
 er:∀i,i<g.e.length->dI (bZ (ix g.e i)).rk<=48/\(bZ (ix g.e i)).rk.length<=8/\(bZ (ix g.e i)).ps.length<=2/\∀p∈(bZ (ix g.e i)).ps,dI p.2<=28/\p.2.length<=4
 cap:∀i,i<g.e.length->∀k,qP 60 100 (ix (ix g.e i).c k).a.q
 hold:∀i,i<g.e.length->∀c,c<kE g.e i->(ix (ix g.e i).c c).h=.negSucc 0\/∃hh:Nat,(ix (ix g.e i).c c).h=.ofNat hh/\hh<g.e.length
 m:∀i,i<g.e.length->(ix g.e i).m.fits 1000000/\qP 60 100 (ix g.e i).m.q
 d3:g.d.length<=3
 d:∀d,d<g.d.length->(ix g.d d).l.length<=4/\(ix g.d d).w.fits 1000000/\qP 60 100 (ix g.d d).w.q
def aCR:(100:Rat)<=uQ:=by
 have h:((100:Nat):Rat)<=uQ:=by unfold uQ;grind
 exact h
def qP.mn{A:Nat}{U V q:Rat}(h:qP A U q)(hUV:U<=V):qP A V q:=⟨h.1,h.2.1,cF h.2.2 hUV⟩
def zJ.mn{P Q:Rat->Prop}(hPQ:∀q,P q->Q q){n:Nat}{l:gK}(h:zJ P n l):zJ Q n l:=λt ht p hp=>⟨(h t ht p hp).1,hPQ _ (h t ht p hp).2⟩
def ED.mn{A n:Nat}{U V:Rat}{e:fK}(h:ED A U n e)(hUV:U<=V):ED A V n e:=⟨zJ.mn (λ_ h=>qP.mn h hUV) h.rk,λp hp=>zJ.mn (λ_ h=>qP.mn h hUV) (h.ps p hp)⟩
def ED.uq{A n:Nat}{e:fK}(h:ED A 100 n e):ED A uQ n e:=h.mn aCR
def aaY{n k:Nat}{l:gK}{m:Rat}(h:zJ (λq=>eY 60 q/\0<=q/\q<=100) n l)(h0:0<=m)(hk:dI l<=k)(h1:1<=k):yG 60 l m<=6000*k:=by
 unfold yG;split
 .next hf=>
  have ht:=gW hf;have h2:=aaG (h _ ht);have h3:=GK ht;obtain⟨e,-⟩:=Xz (A:=60) jj (FD (h.D _ ht)) (BO h0 hf);generalize aY (ix l (dU l m))=s at*;refine RQ ?_;have e60:((60:Nat):Rat)=60:=rfl;have e18:((6000:Nat):Rat)=6000:=rfl;have h4:((ix l (dU l m)).length:Rat)<=(k:Rat):=bj.mpr jb;grind
 .omega
def aaZ{n k:Nat}{m:Rat}{e:fK}(h:ED 60 100 n e)(h0:0<=m)(h1:1<=k):∀{l:List (List Nat×gK)},(∀p∈l,p∈e.ps/\dI p.2<=k)->ahG 60 e m l<=(6000*k)^l.length
 |[],_=>cL 1
 |p::l,hl=>by unfold ahG;rw[bA,dm,cW];exact cK (aaZ h h0 h1 λq hq=>hl q (by simp[hq])) (aaY (h.ps p (hl p kc).1) (oI h.nn h0 p) (hl p kc).2 h1)
def adH{D b:Nat}(h0:0<D)(h:D<=2^b)(hb:b<=200000000):DW D:=by refine⟨h0,cT h (aE afy (bN jj ?_))⟩;unfold dK;omega
def eB:Nat:=424
theorem aa0:eB=424:=rfl
def gE(g:dV)(x:Nat->Rat):Nat:=RP g.e.length λi=>D8 60 (bZ (ix g.e i)) (x i)
section
variable {g:dV} {B b:Nat} {x:Nat→Rat}
def jT.cur(h:jT g){i:Nat}(hi:i<g.e.length){y:Rat}(hy:0<=y):0<D8 60 (bZ (ix g.e i)) y/\D8 60 (bZ (ix g.e i)) y<=2^53:=by
 have hE:=h.ed i hi;obtain⟨h1,-,h2,h3⟩:=h.er i hi;refine⟨JQ jj hE hy,?_⟩;have a:=aaY hE.rk hy h1 jj;have b:=aaZ (k:=28) hE hy jj (l:=(bZ (ix g.e i)).ps) λp hp=>⟨hp,(h3 p hp).1⟩
 have c:(6000*28)^(bZ (ix g.e i)).ps.length<=(6000*28)^2:=bN jj h2;exact ar (cK a (ar b c)) jj
def jT.gE(h:jT g)(hx:∀i,i<g.e.length->0<=x i):0<Xe.gE g x/\Xe.gE g x<=2^eB:=by refine⟨Vh λi hi=>(h.cur hi (hx i hi)).1,?_⟩;have h1:=aaF (n:=g.e.length) (k:=2^53) λi hi=>(h.cur hi (hx i hi)).2;refine ar h1 ?_;rw[<-Nat.pow_mul];exact Aw (by have:=h.n;grind[aa0])
def SB(x:Nat->Rat){i:Nat}(hi:i<g.e.length):D8 60 (bZ (ix g.e i)) (x i)∣Xe.gE g x:=Vj (f:=λi=>D8 60 (bZ (ix g.e i)) (x i)) hi
def jT.dok(h:jT g)(hB:0<B)(hb:B<=2^b)(hb2:b<=199000000)(hx:∀i,i<g.e.length->0<=x i):DW (B*Xe.gE g x):=
 adH (b:=b+eB) (bR hB (h.gE hx).1) (qU hb (h.gE hx).2) (by grind[aa0])
def ana{q:Rat}(h:qP 60 100 q):q<=vQ:=by have h1:=Q8 (k:=100) jj;grind
def SC{f:Nat->Rat}(hf:∀k,qP 60 100 (f k)):∀n,eY 60 (aF n f)/\0<=aF n f/\aF n f<=(n:Rat)*100
 |0=>⟨eY.zero _,aM,by show(0:Rat)<=((0:Nat):Rat)*100;simp⟩
 |n+1=>by obtain⟨h1,h2,h3⟩:=SC hf n;obtain⟨k1,k2,k3⟩:=hf n;have e:((n+1:Nat):Rat)=(n:Rat)+1:=fY _ _;exact⟨h1.add k1,by unfold aF;grind,by rw[e];unfold aF;grind⟩
def jT.Nh(h:jT g):Nc g.e.length (bH g):=awg (QZ h.z)
def jT.nn(h:jT g){i:Nat}(hi:i<g.e.length):CZ (bZ (ix g.e i)):=(h.ed i hi).nn
def jT.mg(h:jT g)(hB0:0<B)(h6:60∣B)(hb:B<=2^b)(hb2:b<=199000000)(hx:∀i,i<g.e.length->SmB B (x i)):XP (B*Xe.gE g x) g x:=by
 have hz:=QZ h.z;have hx0:∀i,i<g.e.length->0<=x i:=λi hi=>(hx i hi).2.1;have hD:=h.dok hB0 hb hb2 hx0;have hBD:B∣B*Xe.gE g x:=aL _ _;have h60:=bM h6 hBD;have hu:=uM;have hB:=h.bld;have hdv:∀i,i<g.e.length->B*D8 60 (bZ (ix g.e i)) (x i)∣B*Xe.gE g x:=λi hi=>cC _ (SB x hi);have hxZ:∀i,i<g.e.length->Zk (B*Xe.gE g x) 1 (x i):=λi hi=>qx hD hBD (hx i hi).1 (hx i hi).2.1 (hx i hi).v;have hcZ:∀{q:Rat},qP 60 100 q->Zk (B*Xe.gE g x) 1 q:=λhq=>qx hD h60 hq.1 hq.2.1 (ana hq);have hlE:∀i,i<g.e.length->CZ (bZ (ix g.e i))/\InE (kE g.e i) (bZ (ix g.e i)):=λi hi=>GH (hz.e i hi);have hq:∀i,i<g.e.length->∀c,c<kE g.e i->0<=gq (bH g) x (i,c)/\Zk (B*Xe.gE g x) 1 (gq (bH g) x (i,c)):=λi hi c hc=>by obtain⟨h1,h2⟩:=hlE i hi;have h3:=LC h1 (hx i hi).2.1 c;have h4:=awL h1 h2 (hx i hi).2.1 hc;exact⟨h3,qx hD (hdv i hi) (alK jj hB0 h6 (h.ed i hi) (hx i hi).1 (hx i hi).2.1 c) h3 (cF h4 (hx i hi).v)⟩
 have hr:∀i c,Zk (B*Xe.gE g x) 5000 (BQ (bH g) x (i,c)):=λi c=>by
  have h3:=h.d3;have key:∀j,j<=g.d.length->Zk (B*Xe.gE g x) (j*44) (XK g x j (i,c)):=λj=>by
   induction j with
   |zero=>intro _;exact Zk.zero.mono (aR _)
   |succ j ih=>
    intro hj
    have hj':j<g.d.length:=jb
    rw[Va x hj',cf]
    obtain⟨hl,-,hw⟩:=h.d j hj'
    have hlen:(dL g j).length=(ix g.d j).l.length:=cg _
    refine(ih jb).add ((afq (K:=0) (M:=4) (hcZ hw) _ (λa ha=>?_) Zk.zero jb).mono jb)
    obtain⟨y,hy,rfl⟩:=cP.mp ha
    obtain⟨k,hk,rfl⟩:=aD hy
    rw[<-dY hk]
    obtain⟨e,c',h1,h2,h3⟩:=hB.lg j hj' k hk
    rw[h1]
    exact(hq e h2 c' h3).2
  rw[<-aay];exact(key g.d.length jp).mono jb
 have hu5:=al8;have hv:=Q8 (k:=1000001) jj;have ev:((1000001:Nat):Rat)=1000001:=rfl;rw[ev]at hv;refine⟨⟨⟨hD,hB.n,hB.d,λi hi=>?_,λi hi=>by have:=h.k6 i hi;omega,λd hd=>⟨(h.d d hd).2.1,(h.d d hd).2.2.2.1,hcZ (h.d d hd).2.2⟩,λd hd=>⟨hB.l d hd,hB.lg d hd⟩,λi hi=>hq i hi,λi hi c _=>(hr i c).sz hD jb,h.Nh.nodup⟩,λi _ c _=>hr i c,λi hi=>⟨(h.m i hi).1,hcZ (h.m i hi).2⟩,h.hold⟩,λi hi=>?_,λi hi c _=>?_⟩
 .have hk6:=h.k6 i hi;obtain⟨s1,s2,s3⟩:=SC (h.cap i hi) (kE g.e i);have h4:((kE g.e i:Nat):Rat)<=((6:Nat):Rat):=bj.mpr jb;have e6:((6:Nat):Rat)=6:=rfl;have hT:Zk (B*Xe.gE g x) 1 (og (ix g.e i) (kE g.e i)):=qx hD h60 s1 s2 (by unfold og;grind);exact⟨alP hD h60 (h.ed i hi).uq (h.eb i hi),alQ jj hB0 h6 hD (hdv i hi) (h.ed i hi).uq (h.eb i hi) (hx i hi).1 (hx i hi).2.1 (hx i hi).v,hT.sz hD jb,((hxZ i hi).sub hT).sz hD jb⟩
 .exact alR jj hB0 h6 hD (hdv i hi) (h.ed i hi).uq (h.eb i hi) (hx i hi).1 (hx i hi).2.1 (hx i hi).v
 .have h1:=uF (h.ed i hi).nn (hx i hi).2.1 c;have h2:=XV (h.ed i hi).uq (h.eb i hi) (hx i hi).2.1 c;exact⟨h1,qx hD (bM (gm _ _) (hdv i hi)) (alL jj (h.ed i hi) (hx i hi).2.1 c) h1 (cF h2 hv)⟩
def jT.map(h:jT g)(hB0:0<B)(h6:60∣B)(hb:B<=2^b)(hb2:b<=199000000)(hx:∀i,i<g.e.length->SmB B (x i)):awC 60 (B*Xe.gE g x) g x:=by have hD:=h.dok hB0 hb hb2 λi hi=>(hx i hi).2.1;have hu:=uM;exact⟨adH (b:=6) jj jj jj,h.bld,(h.mg hB0 h6 hb hb2 hx).A,h.sm,h.z,λi hi=>⟨(hx i hi).2.1,(qx hD (aL _ _) (hx i hi).1 (hx i hi).2.1 (hx i hi).v).sz hD jb⟩⟩
def jT.sub(h:jT g)(hx:∀i,i<g.e.length->0<=x i):NI g.e.length (gM g.e.length (bH g) x):=(xZ h.Nh).sub hx
def jT.slD(h:jT g)(hx:∀i,i<g.e.length->0<=x i){i:Nat}(hi:i<g.e.length)(c:Nat):eY (Xe.gE g x) (zI (bZ (ix g.e i)) (x i) c):=
 (alL jj (h.ed i hi) (hx i hi) c).dvd (SB x hi) (h.gE hx).1
def jT.mD(h:jT g)(hx:∀i,i<g.e.length->0<=x i){j i:Nat}(hi:i<g.e.length):eY (Xe.gE g x) (gM g.e.length (bH g) x j i):=by
 have hgk:=h.Nh;have hgs:∀l:fZ,l.1<g.e.length->eY (Xe.gE g x) (gs (bH g) x i l):=λl hl=>by
  unfold gs;split
  .exact h.slD hx hl l.2
  .exact eY.zero _
 unfold gM;refine eY.add (adv λc _=>?_) (eY.sum λd hd=>?_)
 .grind[eY.zero]
 .have hl:=λl hl=>hgs l (vT hgk hd (l:=l) hl);grind[Go.Proofs.Xe.eY.sum,Go.Proofs.Ins.dM,Go.Proofs.Xe.eY.add,Go.Proofs.Xe.amD,Go.Proofs.Xe.eY.zero,Go.Proofs.Ins.qg]
def jT.m01(h:jT g)(hx:∀i,i<g.e.length->0<=x i){j i:Nat}(hj:j<g.e.length)(hi:i<g.e.length):0<=gM g.e.length (bH g) x j i/\gM g.e.length (bH g) x j i<=1:=by have hM:=h.sub hx;exact⟨hM.nn j i hj hi,cF (Fj (f:=λj=>gM g.e.length (bH g) x j i) hj λk hk=>hM.nn k i hk hi) (hM.le i hi)⟩
def X6{D b K:Nat}{q:Rat}(hD:0<D)(hb:D<=2^b)(h:eY D q)(h0: -(K:Rat)<=q)(h1:q<=(K:Rat)):∃z:Int,q=(z:Rat)/(D:Rat)/\z.natAbs<=K*D:=by
 obtain⟨z,rfl⟩:=h;refine⟨z,rfl,?_⟩;have hD':=iT hD;have hp:=RS hD;have e:(z:Rat)/(D:Rat)*(D:Rat)=(z:Rat):=by grind
 have h4:=be h1 (ec hp);have h5:=be h0 (ec hp);rw[e]at h4 h5;have e2: -(K:Rat)*(D:Rat)=((-((K*D:Nat):Int):Int):Rat):=by rw[Rat.intCast_neg];have:(((K*D:Nat):Int):Rat)=(K:Rat)*(D:Rat):=eJ _ _;grind
 rw[<-eJ]at h4;rw[e2]at h5;have h4:((z:Int):Rat)<=(((K*D:Nat):Int):Rat):=h4;have h4:=fA.mp h4;have h5:=fA.mp h5;omega
def X7{D b k K:Nat}{q:Rat}(hD:0<D)(hb:D<=2^b)(h:eY D q)(hk:K<=2^k)(h0: -(K:Rat)<=q)(h1:q<=(K:Rat)):mW (b+k) q:=by obtain⟨z,e,hz⟩:=X6 hD hb h h0 h1;exact⟨z,D,hD,ar hb (Aw jb),ar hz (by rw[dC];exact qU hk hb),e⟩
def jT.aCS(h:jT g)(hx:∀i,i<g.e.length->0<=x i){l:List Nat}(hl:∀i∈l,i<g.e.length):FP l.length l.length eB (qj (gM g.e.length (bH g) x) l):=by
 obtain⟨p1,p2⟩:=h.gE hx;refine⟨Xe.gE g x,p1,p2,λa c ha hc=>?_⟩;have h1:=hl _ (jy ha);have h2:=hl _ (jy hc);have h3:=h.m01 hx h1 h2;have h4:=h.mD hx (j:=at0 l a) h2;have e1:((1:Nat):Rat)=1:=rfl;have hone:eY (Xe.gE g x) (1:Rat):=⟨Xe.gE g x,by have:=iT p1;have e:(((Xe.gE g x:Nat):Int):Rat)=((Xe.gE g x:Nat):Rat):=rfl;grind⟩
 have hd:eY (Xe.gE g x) (qj (gM g.e.length (bH g) x) l a c):=by unfold qj x9;refine h4.sub ?_;grind[eY.zero]
 obtain⟨z,e,hz⟩:=X6 (K:=1) p1 p2 hd (by grind[qj,x9]) (by grind[qj,x9]);grind
end
def X8{l:gK}:∀{m g:Rat},MZ l->nZ l m=some g->m+g<=jQ l:=by
 induction l with
 |nil=>intro m g _ h;cases h
 |cons t l ih=>
  intro m g hn h
  have h1:=Bd (l:=l) λu hu=>hn u (by simp[hu])
  unfold nZ at h
  show m+g<=aY t+jQ l
  split at h
  .grind
  .have:=ih (λu hu=>hn u (by simp[hu])) h;grind
def SE{l:gK}:∀{m:Rat},MZ l->jG l m<=jQ l:=by
 induction l with
 |nil=>intro m _;rfl
 |cons t l ih=>
  intro m hn
  have h1:=Bd (l:=l) λu hu=>hn u (by simp[hu])
  have h2:=ih (m:=m-aY t) λu hu=>hn u (by simp[hu])
  grind[jG,jQ]
def arG{l:gK}(h:MZ l){m:Rat}(h0:0<=m):jG l m<=m:=by have h1:=Ls h aM h0;grind[QD,Bd]
def X9{A n:Nat}{U:Rat}:∀{l:gK},zJ (λq=>eY A q/\0<=q/\q<=U) n l->jQ l<=(dI l:Rat)*U
 |[],_=>by show(0:Rat)<=((0:Nat):Rat)*U;simp
 |t::l,h=>by have h1:=X9 (l:=l) λu hu=>h u (by simp[hu]);have h2:=aaG (h t kc);show aY t+jQ l<=((t.length+dI l:Nat):Rat)*U;grind
def adI{n:Nat}{e:fK}(hN:CZ e)(hI:InE n e){x:Rat}(hx:0<=x):aF n (uX e x)<=jQ e.rk:=by
 rw[Ox hN hI hx];have h1:=SE (m:=x) hN.rk;have h2:0<=aK e.ps (λp=>lN e x p-jG p.2 (lN e x p)):=oL λp hp=>by have:=arG (hN.ps p hp) (oI hN hx p);grind
 have h3:0<=rsv e x:=oL λp hp=>Xk (hN.ps p hp) _ (oI hN hx p);grind
def afE{W:Rat}{q:fZ->Rat}{j:Nat}:∀(t:List fZ) (Q:Rat),(∀l∈t,0<=q l)->sJ W q Q t j<=aK t q
 |[],_,_=>aM
 |l::t,Q,h=>by
  have h1:=afE t (Q+q l) (W:=W) (j:=j) λu hu=>h u (by simp[hu]);have h2:=h l kc;have h3:uG (Q+q l-W)-uG (Q-W)<=q l:=by unfold uG;split<;>split<;>grind
  show(if l.1=j then _ else 0)+sJ W q (Q+q l) t j<=q l+aK t q;split<;>grind
def arH(e:fK)(x:Rat):opn e x<=e.rk.length+QG e x e.ps:=by unfold opn;omega
def afF{e:fK}{x:Rat}{k:Nat}:∀{l:List (List Nat×gK)},(∀p∈l,p.2.length<=k)->QG e x l<=l.length*k
 |[],_=>aR _
 |p::l,h=>by have h1:=afF (e:=e) (x:=x) (l:=l) λq hq=>h q (by simp[hq]);grind[QG,Nat.succ_mul]
def Ya{A C K:Nat}{a b:Rat}(hA:0<A)(hC:0<C)(ha:eY (A*C) a)(hb:eY C b)(h0:0<b)(hk:b<=(K:Rat)):∃s,0<s/\s<=K*C/\eY (A*s) (a/b):=by
 obtain⟨e,hs⟩:=Xz hC hb h0;generalize nuA C b=s at*;refine⟨s,hs,?_,?_⟩
 .refine RQ ?_;have hp:=RS hC;have h1:=be hk (ec hp);rw[e,cV (iT hC)]at h1;grind
 .obtain⟨z,rfl⟩:=ha;refine⟨z,?_⟩;grind
def afG{W:Rat}{q r:fZ->Rat}:∀(t:List fZ) (Q R:Rat),∀v∈sK W q r Q R t,∃k,k<t.length/\v=(W-(Q+aK (t.take (k+1)) q))/(R+aK (t.take (k+1)) r)/\0<R+aK (t.take (k+1)) r
 |[],_,_,v,hv=>by cases hv
 |l::t,Q,R,v,hv=>by
  unfold sK at hv;rcases bO.mp hv with hv|hv
  .split at hv
   .next hh=>
    have e:v=(W-(Q+q l))/(R+r l):=by grind
    have e1:aK ((l::t).take (0+1)) q=q l:=by grind[aK]
    have e2:aK ((l::t).take (0+1)) r=r l:=by grind[aK]
    exact⟨0,by simp,by grind,by grind⟩
   grind
  .obtain⟨k,h1,h2,h3⟩:=afG t _ _ v hv;have e1:∀f:fZ->Rat,aK ((l::t).take (k+1+1)) f=f l+aK (t.take (k+1)) f:=λf=>rfl;refine⟨k+1,by grind,?_,?_⟩
   .grind
   grind
def Ho(n q:Nat)(d:Nat->Rat):Prop:=∃Q:Nat,0<Q/\Q<=2^q/\∀i,i<n->∃z:Int,d i=(z:Rat)/(Q:Rat)/\z.natAbs<=2^q
def Ho.rat{n q:Nat}{d:Nat->Rat}(h:Ho n q d){i:Nat}(hi:i<n):mW q (d i):=by obtain⟨Q,h1,h2,h3⟩:=h;obtain⟨z,e,hz⟩:=h3 i hi;exact⟨z,Q,h1,h2,hz,e⟩
def mW.le{q:Nat}{v:Rat}(h:mW q v):v<=((2^q:Nat):Rat):=by obtain⟨z,Q,h1,h2,h3,rfl⟩:=h;have hp:=RS h1;have h4:((z:Int):Rat)<=(((2^q:Nat):Int):Rat):=fA.mpr jb;have h5:((1:Nat):Rat)<=(Q:Rat):=bj.mpr h1;have e1:((1:Nat):Rat)=1:=rfl;have h6:(0:Rat)<=((2^q:Nat):Rat):=bj.mpr (aR _);have h4:((z:Int):Rat)<=((2^q:Nat):Rat):=h4;generalize ((2^q:Nat):Rat)=N at*;refine fw.mp λhlt=>?_;have h7:=dt hlt hp;rw[cV (iT h1)]at h7;have h8:=cM h5 h6;grind
def aip(B b r:Nat)(v:Rat):Prop:=mW r v/\∃H,B∣H/\0<H/\H<=2^b/\eY H v
section
variable {g:dV} {B b q:Nat} {x d:Nat→Rat}
theorem jT.tot(h:jT g){i:Nat}(hi:i<g.e.length):0<=jQ (bZ (ix g.e i)).rk/\jQ (bZ (ix g.e i)).rk<=4800:=by refine⟨Bd (h.ed i hi).nn.rk,?_⟩;have h1:=X9 (h.ed i hi).rk;have h2:((dI (bZ (ix g.e i)).rk:Nat):Rat)<=((48:Nat):Rat):=bj.mpr (h.er i hi).1;grind
def jT.lay(h:jT g){i:Nat}(hi:i<g.e.length):CZ (bZ (ix g.e i))/\InE (kE g.e i) (bZ (ix g.e i)):=GH ((QZ h.z).e i hi)
def jT.as8(h:jT g)(hx:∀i,i<g.e.length->0<=x i){i:Nat}(hi:i<g.e.length):aF (kE g.e i) (λc=>gq (bH g) x (i,c))<=4800:=by obtain⟨h1,h2⟩:=h.lay hi;have e:(λc=>gq (bH g) x (i,c))=uX (bZ (ix g.e i)) (x i):=rfl;rw[e];exact cF (adI h1 h2 (hx i hi)) (h.tot hi).2
def jT.anb(h:jT g)(hx:∀i,i<g.e.length->0<=x i){l:fZ}(hl:l∈(bH g).fM):0<=gq (bH g) x l/\gq (bH g) x l<=4800:=by have hk:=h.Nh;have hk:=hk.fM l hl;have h1:l.1<g.e.length:=hk.1;have h2:l.2<kE g.e l.1:=hk.2;clear hk;refine⟨LC (h.nn h1) (hx _ h1) _,?_⟩;have h3:=Fj (f:=λc=>gq (bH g) x (l.1,c)) (k:=l.2) (n:=kE g.e l.1) h2 λc _=>LC (h.nn h1) (hx _ h1) c;exact cF h3 (h.as8 hx h1)
def jT.ami(h:jT g){d:Rat×List fZ}(hd:d∈(bH g).ds):qP 60 100 d.1/\d.2.length<=4/\∀l∈d.2,l∈(bH g).fM:=by
 have hd':=hd;obtain⟨D,hD,rfl⟩:=cP.mp hd';obtain⟨j,hj,ej⟩:=aD hD;have e0:D=ix g.d j:=by grind[dY]
 subst e0;obtain⟨h1,-,h2⟩:=h.d j hj;exact⟨h2,by grind,λl hl=>cr.mpr ⟨_,hd,hl⟩⟩
def jT.aAJ(h:jT g)(hx:∀i,i<g.e.length->0<=x i)(j:Nat):gG g.e.length (bH g) x j<=97000:=by
 have h1:aF g.e.length (λi=>aF ((bH g).k i) λc=>if yF (bH g) j i c then gq (bH g) x (i,c)else 0)<=(g.e.length:Rat)*4800:=by
  have key:∀n,n<=g.e.length->aF n (λi=>aF ((bH g).k i) λc=>if yF (bH g) j i c then gq (bH g) x (i,c)else 0)<=(n:Rat)*4800:=λn=>by
   induction n with
   |zero=>intro _;show(0:Rat)<=((0:Nat):Rat)*4800;simp
   |succ n ih=>
    intro hn
    have a:=ih jb
    have b:=h.as8 hx (i:=n) jb
    have c:aF ((bH g).k n) (λc=>if yF (bH g) j n c then gq (bH g) x (n,c)else 0)<=aF (kE g.e n) (λc=>gq (bH g) x (n,c)):=qc λc _=>by have:0<=gq (bH g) x (n,c):=LC (h.nn (by omega:n<g.e.length)) (hx _ jb) c;grind
    have e:((n+1:Nat):Rat)=(n:Rat)+1:=fY _ _
    grind[aF]
  grind
 have h2:aK (bH g).ds (dG (bH g) x j)<=((3:Nat):Rat)*19300:=uN jj (λd hd=>by obtain⟨a1,a2,a3⟩:=h.ami hd;have b1:=afE (W:=d.1) (q:=gq (bH g) x) (j:=j) d.2 0 λl hl=>(h.anb hx (a3 l hl)).1;have b2:=uN (f:=gq (bH g) x) (v:=4800) jj (l:=d.2) (k:=4) (λl hl=>(h.anb hx (a3 l hl)).2) a2;grind[aeU,dG]) (by show(g.d.map _).length<=3;rw[cg];exact h.d3)
 have h3:((g.e.length:Nat):Rat)<=((8:Nat):Rat):=bj.mpr h.n;grind[gG]
def jT.as9(h:jT g){i:Nat}(hi:i<g.e.length)(y:Rat):opn (bZ (ix g.e i)) y<=16:=by obtain⟨-,h1,h2,h3⟩:=h.er i hi;have a:=arH (bZ (ix g.e i)) y;have b:=afF (e:=bZ (ix g.e i)) (x:=y) λp hp=>(h3 p hp).2;omega
def aAK{n:Nat}{e:fK}(h:ED 60 100 n e)(hb:EB n e)(hB:0<B)(h6:60∣B){y s:Rat}(hy:eY B y)(h0:0<=y)(hs:JK e y=some s):∃u v:Rat,s=u/v/\0<u/\eY (B*D8 60 e y) u/\0<v/\eY (D8 60 e y) v/\v<=1000/\y+s<=jQ e.rk:=by
 have hE:=JQ jj h h0;have hp:=bR hB hE;have hp1:=bR hB (uJ jj h.rk.D h0);unfold JK at hs;split at hs
 .next g hg=>
  cases hs;have ht:=X8 h.nn.rk hg;have hl:=(yE e y e.ps g).1;rcases C9 e y e.ps g with e1|⟨p,hpp,d,h1,h2,h3⟩
  .rw[e1];exact⟨g,1,by grind,Am hg,(aaJ hB h6 h.rk.D hy hg).dvd (aL _ _) hp,jj,⟨D8 60 e y,by have:=iT hE;have e2:(((D8 60 e y:Nat):Int):Rat)=((D8 60 e y:Nat):Rat):=rfl;grind⟩,jj,ht⟩
  .refine⟨d,_,h3,Am h1,(aaJ hp1 (bM h6 (aL _ _)) (h.ps p hpp).D (aan jj hB h6 h hy h0 p) h1).dvd ?_ hp,h2,(afj jj h h0 p).dvd (aL _ _) hE,RU h.uq hb h0 hpp,by grind⟩;exact cC _ (aL _ _)
 grind
def ChS(B b:Nat)(e:fK)(y:Rat):Prop:=∃B' k,B∣B'/\0<B'/\B'<=2^(b+63*k)/\k+opn e y<=16/\eY B' y/\0<=y/\y<=100000
def ChS.next(h:jT g){i:Nat}(hi:i<g.e.length)(h6:60∣B){y s:Rat}(hy:ChS B b (bZ (ix g.e i)) y)(hs:JK (bZ (ix g.e i)) y=some s):ChS B b (bZ (ix g.e i)) (y+s):=by obtain⟨B',k,h1,h2,h3,h4,h5,h7,h8⟩:=hy;obtain⟨u,v,rfl,u0,uD,v0,vD,v1,ht⟩:=aAK (h.ed i hi) (h.eb i hi) h2 (bM h6 h1) h5 h7 hs;obtain⟨p1,p2⟩:=h.cur hi h7;obtain⟨w,w0,w1,wD⟩:=Ya (K:=1000) h2 p1 uD vD v0 v1;have hop:=Dc (h.nn hi) h7 hs;have hd:=div_pos u0 v0;have ht2:=(h.tot hi).2;have hw:w<=2^63:=ar w1 (ar (cn _ p2) jj);refine⟨B'*w,k+1,bM h1 (aL _ _),bR h2 w0,?_,jb,(h5.dvd (aL _ _) (bR h2 w0)).add wD,by grind,by grind⟩;have:=qU h3 hw;omega
def IL{b:Nat}{D:Nat}{v:Rat}(hD:0<D)(hb:D<=2^b)(h:eY D v)(h0: -100000<=v)(h1:v<=100000):mW (b+17) v:=by have e:((100000:Nat):Rat)=100000:=rfl;exact X7 (K:=100000) hD hb h jj jb jb
def ChS.ok(h:jT g){i:Nat}(hi:i<g.e.length)(h6:60∣B)(hb:b<=190000000){y:Rat}(hy:ChS B b (bZ (ix g.e i)) y):∃D,DW D/\EOk D (kE g.e i) (bZ (ix g.e i))/\MOk D (bZ (ix g.e i)) y/\ROk D (bZ (ix g.e i)) y/\SOk (bZ (ix g.e i)) y:=by
 obtain⟨B',k,h1,h2,h3,h4,h5,h7,h8⟩:=hy;obtain⟨p1,p2⟩:=h.cur hi h7;have h6':=bM h6 h1;have hpos:=bR h2 p1;have hle:=qU h3 p2;have hD:DW (B'*D8 60 (bZ (ix g.e i)) y):=adH hpos hle jb;have hv:y<=vQ:=by have a:=Q8 (k:=100000) jj;grind
 have hE:=h.ed i hi;have hB:=h.eb i hi;have hN:=h.nn hi;have ht:=(h.tot hi).2;obtain⟨-,-,-,hps⟩:=h.er i hi;have hp1:=bR h2 (uJ jj hE.rk.D h7);have hdl:B'*yG 60 (bZ (ix g.e i)).rk y∣B'*D8 60 (bZ (ix g.e i)) y:=cC _ (aL _ _);refine⟨_,hD,alP hD (bM h6' (aL _ _)) hE.uq hB,alQ jj h2 h6' hD (hJ _) hE.uq hB h5 h7 hv,alR jj h2 h6' hD (hJ _) hE.uq hB h5 h7 hv,λs hs=>?_,λp hp s hs=>?_⟩
 .have a:=X8 hN.rk hs;have c:=Am hs;exact(IL h2 h3 (aaJ h2 h6' hE.rk.D h5 hs) kd kd).sz jb
 .have a:=X8 (hN.ps p hp) hs;have c:=Am hs;have d0:=oI hN h7 p;have t1:=X9 (hE.ps p hp);have t2:((dI p.2:Nat):Rat)<=((28:Nat):Rat):=bj.mpr (hps p hp).1;have e28:((28:Nat):Rat)=28:=rfl;have gD:=(aaJ hp1 (bM h6' (aL _ _)) (hE.ps p hp).D (aan jj h2 h6' hE h5 h7 p) hs).dvd hdl hpos;have z1:=IL hpos hle gD kd kd;have r0:=Lu hN h7 p;have r1:=RU hE.uq hB h7 hp;refine⟨z1.sz jb,?_⟩;by_cases e:uV (bZ (ix g.e i)) y p=0
  .grind[Sz.zero]
  .exact(z1.div (IL p1 p2 ((afj jj hE h7 p).dvd (aL _ _) p1) kd kd) e).sz jb
def ChS.aj(h:jT g){i:Nat}(hi:i<g.e.length)(h6:60∣B){n:Nat}{z y:Rat}{o:Option Rat}(hN:Yp (bZ (ix g.e i)) n z y o)(hy:ChS B b (bZ (ix g.e i)) y):∀w,o=some w->ChS B b (bZ (ix g.e i)) w:=by
 induction hN with
 |no h=>simp
 |stop hs _=>intro w hw;cases hw;exact hy.next h hi h6 hs
 |go hs _ _ ih=>exact ih (hy.next h hi h6 hs)
def anc(h:jT g){i:Nat}(hi:i<g.e.length)(hx:0<=x i):Yp (bZ (ix g.e i)) (kE g.e i) (x i) (x i) (nxE (bZ (ix g.e i)) (kE g.e i) (x i))/\IE (bZ (ix g.e i)) (kE g.e i) (x i) (oh g x i):=by obtain⟨o,ho⟩:=als (bZ (ix g.e i)) (kE g.e i) (h.nn hi) (x i) _ (x i) hx jp;have e:=amT ho;refine⟨by grind,?_⟩;unfold oh;rw[e];exact(ae0 (h.nn hi) ho hx λ_ _=>rfl).d3
end
def ane{r:Nat}{l:List Rat}(h:∀v∈l,mW r v)(hr:r<=200000000):Sz (gq0 (Cb l)):=by
 rcases XZ l with⟨-,e⟩|⟨m,e,hm,-⟩
 .rw[e];exact Sz.zero
 .rw[e];exact(h m hm).sz hr
section
variable {g:dV} {B b q:Nat} {x d:Nat→Rat}
def jT.ch0(h:jT g)(hB0:0<B)(hb:B<=2^b)(hx:∀i,i<g.e.length->SmB B (x i)){i:Nat}(hi:i<g.e.length):ChS B b (bZ (ix g.e i)) (x i):=
 ⟨B,0,hJ _,hB0,jb,by have:=h.as9 hi (x i);omega,(hx i hi).1,(hx i hi).2.1,(hx i hi).2.2⟩
def jT.ny(h:jT g)(hB0:0<B)(h6:60∣B)(hb:B<=2^b)(hx:∀i,i<g.e.length->SmB B (x i))(hdz:Ho g.e.length q d){i:Nat}(hi:i<g.e.length)(hp:0<d i){y:Rat}(hy:nxE (bZ (ix g.e i)) (kE g.e i) (x i)=some y):
  mW (b+1025) y/\mW (b+1025) (y-x i)/\aip B (b+1100+2*q) (b+2200+2*q) ((y-x i)/d i):=by
 obtain⟨h1,-⟩:=anc h hi (hx i hi).2.1 (x:=x)
 rw[hy]at h1
 have hyx:=((ae0 (h.nn hi) h1 (hx i hi).2.1 λ_ _=>rfl).yes y rfl).1
 obtain⟨B',k,c1,c2,c3,c4,c5,c6,c7⟩:=ChS.aj h hi h6 h1 (h.ch0 hB0 hb hx hi) y rfl
 obtain⟨xD,x0,x1⟩:=hx i hi
 have c3:B'<=2^(b+1008):=ar c3 (Aw jb)
 have hD:=c5.sub (xD.dvd c1 c2)
 have z1:=IL c2 c3 c5 (by clear c3;grind) c7
 have z2:=IL c2 c3 hD (by clear c3;grind) (by clear c3;grind)
 have z3:=hdz.rat hi
 refine⟨z1,z2,(z2.div z3 (by clear c3;grind)).mono jb,?_⟩
 obtain⟨Q,q1,q2,q3⟩:=hdz
 obtain⟨z,ez,-⟩:=q3 i hi
 obtain⟨w,w0,w1,wD⟩:=Ya (K:=2^q) c2 q1 (hD.dvd (aL _ _) (bR c2 q1)) ⟨z,ez⟩ hp z3.le
 refine⟨B'*w,bM c1 (aL _ _),bR c2 w0,?_,wD⟩
 have:=qU c3 (ar w1 (qU jp q2))
 exact ar this (Aw jb)
def jT.c_e(h:jT g)(hB0:0<B)(h6:60∣B)(hb:B<=2^b)(hx:∀i,i<g.e.length->SmB B (x i))(hdz:Ho g.e.length q d){i:Nat}(hi:i<=g.e.length):∀v∈Dn (oh g x) d i,aip B (b+1100+2*q) (b+2200+2*q) v:=λv hv=>by
 obtain⟨k,h1,h2,y,h3,rfl⟩:=(zN i).mp hv;unfold oh at h3;cases ho:nxE (bZ (ix g.e k)) (kE g.e k) (x k)with
 |none=>grind
 |some w=>
  rw[ho]at h3
  cases h3
  exact(h.ny hB0 h6 hb hx hdz jb h2 ho).2.2
def jT.ds(h:jT g){j:Nat}(hj:j<g.d.length):(dW g j,dL g j)∈(bH g).ds:=by rw[<-Ru hj];grind[gW,zL]
def jT.c_d(h:jT g)(hB0:0<B)(h6:60∣B)(hb:B<=2^b)(hx:∀i,i<g.e.length->SmB B (x i))(hd:∀i,i<g.e.length->0<=d i)(hdz:Ho g.e.length q d){j:Nat}(hj:j<g.d.length)(k:Nat):
  mW (b+441) (dW g j-aK ((dL g j).take k) (gq (bH g) x))/\mW (446+2*q) (aK ((dL g j).take k) (gr (bH g) x d))/\(0<aK ((dL g j).take k) (gr (bH g) x d)->aip B (b+1100+2*q) (b+2200+2*q) ((dW g j-aK ((dL g j).take k) (gq (bH g) x))/aK ((dL g j).take k) (gr (bH g) x d))):=by
 have hx0:∀i,i<g.e.length->0<=x i:=λi hi=>(hx i hi).2.1
 obtain⟨p1,p2⟩:=h.gE hx0
 have heB:=aa0
 obtain⟨w1,w2,w3⟩:=h.ami (h.ds hj)
 have hl:∀l∈(dL g j).take k,l∈(bH g).fM:=λl hl=>w3 l (eg hl)
 have hk:((dL g j).take k).length<=4:=by grind
 generalize (dL g j).take k=t at hl hk
 have hln:∀l∈t,l.1<g.e.length:=λl hlt=>(h.Nh.fM l (hl l hlt)).1
 have hBE:=bR hB0 p1
 have aAL:=qU hb p2
 have w1:qP 60 100 (dW g j):=w1
 have nD:eY (B*Xe.gE g x) (dW g j-aK t (gq (bH g) x)):=by refine(w1.1.dvd (bM h6 (aL _ _)) hBE).sub (eY.sum λl hlt=>?_);have hi:=hln l hlt;exact(alK jj hB0 h6 (h.ed l.1 hi) (hx l.1 hi).1 (hx l.1 hi).2.1 l.2).dvd (cC _ (SB x hi)) hBE
 have q0:0<=aK t (gq (bH g) x):=oL λl hlt=>(h.anb hx0 (hl l hlt)).1
 have q1:=uN (f:=gq (bH g) x) (v:=4800) jj (l:=t) (k:=4) (λl hlt=>(h.anb hx0 (hl l hlt)).2) hk
 have e4:((4:Nat):Rat)=4:=rfl
 have w2:=w1.2
 have zn:=IL hBE aAL nD kd kd
 have hdr:=λi (hi:i<g.e.length)=>hdz.rat hi
 obtain⟨Q,a1,a2,a3⟩:=hdz
 have hEQ:=bR p1 a1
 have ata:=qU p2 a2
 have dD:eY (Xe.gE g x*Q) (aK t (gr (bH g) x d)):=eY.sum λl hlt=>by have hi:=hln l hlt;obtain⟨z,ez,-⟩:=a3 l.1 hi;exact eY.mul p1 a1 (h.slD hx0 hi l.2) ⟨z,ez⟩
 have hN:(0:Rat)<=((2^q:Nat):Rat):=bj.mpr (aR _)
 have hgr:∀l∈t,0<=gr (bH g) x d l/\gr (bH g) x d l<=1000001*((2^q:Nat):Rat):=λl hlt=>by have hi:=hln l hlt;have s1:=uF (h.nn hi) (hx0 _ hi) l.2;have s2:=XV (h.ed l.1 hi).uq (h.eb l.1 hi) (hx0 _ hi) l.2;have s3:=hd l.1 hi;have s4:=(hdr l.1 hi).le;refine⟨ce s1 s3,?_⟩;have s5:=be s2 s3;have s6:=cM s4 (show(0:Rat)<=1000001 by decide);show zI (bZ (ix g.e l.1)) (x l.1) l.2*d l.1<=_;grind
 have r0:0<=aK t (gr (bH g) x d):=oL λl hlt=>(hgr l hlt).1
 have r1:=uN (f:=gr (bH g) x d) (v:=1000001*((2^q:Nat):Rat)) (ce jj hN) (l:=t) (k:=4) (λl hlt=>(hgr l hlt).2) hk
 have hK:((4000004*2^q:Nat):Rat)=((4:Nat):Rat)*(1000001*((2^q:Nat):Rat)):=by rw[eJ,e4];have:((4000004:Nat):Rat)=4000004:=rfl;rw[this];grind
 rw[<-hK]at r1
 have hK2:4000004*2^q<=2^(22+q):=by rw[dx];exact bq _ jj
 have zd:=(X7 hEQ ata dD hK2 (by have:(0:Rat)<=((4000004*2^q:Nat):Rat):=bj.mpr (aR _);grind) r1)
 have zd:mW (446+2*q) (aK t (gr (bH g) x d)):=zd.mono jb
 refine⟨zn.mono jb,zd,λhpos=>⟨(zn.div zd kd).mono jb,?_⟩⟩
 obtain⟨w,v0,v1,vD⟩:=Ya hB0 hEQ (nD.dvd (cC _ (aL _ _)) (bR hB0 hEQ)) dD hpos r1
 refine⟨B*w,aL _ _,bR hB0 v0,?_,vD⟩
 have:=qU hb (ar v1 (qU hK2 ata))
 exact ar this (Aw jb)
def jT.c_p(h:jT g)(hB0:0<B)(h6:60∣B)(hb:B<=2^b)(hx:∀i,i<g.e.length->SmB B (x i))(hd:∀i,i<g.e.length->0<=d i)(hdz:Ho g.e.length q d){D:Rat×List fZ}(hD:D∈(bH g).ds){k:Nat}:∀v∈sK D.1 (gq (bH g) x) (gr (bH g) x d) 0 0 (D.2.take k),aip B (b+1100+2*q) (b+2200+2*q) v:=λv hv=>by
 obtain⟨j,hj,ej⟩:=aD hD;have hj2:j<g.d.length:=by grind[zL]
 have e0:D=(dW g j,dL g j):=by rw[<-ej,<-Ru hj2];grind[dY]
 subst e0;obtain⟨k',h1,h2,h3⟩:=afG _ _ _ v hv;rw[gk]at h2 h3;rw[gk,List.take_take]at h2;rw[List.take_take]at h3;rw[h2];exact(h.c_d hB0 h6 hb hx hd hdz hj2 _).2.2 h3
def jT.nr(h:jT g)(hB0:0<B)(h6:60∣B)(hb:B<=2^b)(hb2:b<=190000000)(hx:∀i,i<g.e.length->SmB B (x i))(hd:∀i,i<g.e.length->0<=d i)(hdz:Ho g.e.length q d)(hq:q<=1000000):
  NrN (B*Xe.gE g x) g x d/\∀v∈kT g.e.length (bH g) (oh g x) x d,aip B (b+1100+2*q) (b+2200+2*q) v:=by
 have hx0:∀i,i<g.e.length->0<=x i:=λi hi=>(hx i hi).2.1
 obtain⟨p1,p2⟩:=h.gE hx0
 have heB:=aa0
 have hall:∀v∈kT g.e.length (bH g) (oh g x) x d,aip B (b+1100+2*q) (b+2200+2*q) v:=λv hv=>by
  rcases bO.mp hv with hv|hv
  .exact h.c_e hB0 h6 hb hx hdz jp v hv
  .obtain⟨D,hD,hv⟩:=cr.mp hv;rw[<-cj (l:=D.2)]at hv;exact h.c_p hB0 h6 hb hx hd hdz hD v hv
 refine⟨⟨h.mg hB0 h6 hb jb hx,λi hi=>⟨h.nn hi,hx0 i hi⟩,λi hi=>(hdz.rat hi).sz jb,λi hi _=>⟨ChS B b (bZ (ix g.e i)),h.ch0 hB0 hb hx hi,λm hm=>ChS.ok h hi h6 hb2 hm,λm t hm ht=>hm.next h hi h6 ht⟩,λi hi hp y hy=>?_,λi hi=>?_,λj hj k hk=>?_,λj hj l hl=>?_⟩,hall⟩
 .obtain⟨z1,z2,z3⟩:=h.ny hB0 h6 hb hx hdz hi hp hy
  exact⟨z1.sz jb,z2.sz jb,z3.1.sz jb⟩
 .exact ane (λv hv=>(h.c_e hB0 h6 hb hx hdz hi v hv).1) jb
 .obtain⟨z1,z2,z3⟩:=h.c_d hB0 h6 hb hx hd hdz hj k
  refine⟨ane (r:=b+2200+2*q) (λv hv=>?_) jb,z1.sz jb,z2.sz jb,?_⟩
  .rcases bO.mp hv with hv|hv
   .rcases bO.mp hv with hv|hv
    .exact(h.c_e hB0 h6 hb hx hdz jp v hv).1
    .obtain⟨D,hD,hv⟩:=cr.mp hv
     rw[<-cj (l:=D.2)]at hv
     exact(h.c_p hB0 h6 hb hx hd hdz (eg hD) v hv).1
   .exact(h.c_p hB0 h6 hb hx hd hdz (h.ds hj) (k:=k) v hv).1
  .by_cases e:aK ((dL g j).take k) (gr (bH g) x d)=0
   .grind[Sz.zero]
   .exact(z1.div z2 e).sz jb
 .obtain⟨-,-,w3⟩:=h.ami (h.ds hj)
  have hle:=w3 l hl
  have hi:=(h.Nh.fM l hle).1
  have s1:=uF (h.nn hi) (hx0 _ hi) l.2
  have s2:=XV (h.ed l.1 hi).uq (h.eb l.1 hi) (hx0 _ hi) l.2
  obtain⟨q0,q1⟩:=h.anb hx0 hle
  have e1:((1000001:Nat):Rat)=1000001:=rfl
  have zs:mW (eB+20) (zI (bZ (ix g.e l.1)) (x l.1) l.2):=X7 (K:=1000001) p1 p2 (h.slD hx0 hi l.2) jj kd jb
  refine⟨?_,?_,?_⟩
  .have hBE:=bR hB0 p1
   exact(IL hBE (qU hb p2) ((alK jj hB0 h6 (h.ed l.1 hi) (hx l.1 hi).1 (hx l.1 hi).2.1 l.2).dvd (cC _ (SB x hi)) hBE) (by have:0<=uX (bZ (ix g.e l.1)) (x l.1) l.2:=q0;grind) (by have:uX (bZ (ix g.e l.1)) (x l.1) l.2<=4800:=q1;grind)).sz jb
  .unfold gs
   rw[ab rfl]
   exact zs.sz jb
  .exact(zs.mul (hdz.rat hi)).sz jb
end
def kvS(F:Nat->Nat->Rat)(P:List Nat)(f:Nat):Nat->Nat->Rat
 |0,k=>if k=f then 1 else 0
 |r+1,k=>if k=at0 P r then-F r f else kvS F P f r k
def kvF(F:Nat->Nat->Rat)(P:List Nat)(f:Nat):Nat->Rat:=kvS F P f P.length
def adJ{F:Nat->Nat->Rat}{P:List Nat}{f k:Nat}:∀r,(∀a,a<r->k≠at0 P a)->kvS F P f r k=if k=f then 1 else 0
 |0,_=>rfl
 |r+1,h=>by unfold kvS;rw[ae (h r jb)];exact adJ r λa ha=>h a jb
def anf{F:Nat->Nat->Rat}{P:List Nat}{f:Nat}(hlt:∀a b,b<a->a<P.length->at0 P b<at0 P a){a:Nat}:∀r,r<=P.length->a<r->kvS F P f r (at0 P a)=-F a f
 |0,_,h=>jb
 |r+1,hr,ha=>by
  unfold kvS;by_cases e:a=r
  .subst e;rw[ab rfl]
  .have:=hlt r a jb jb;rw[ae jb];exact anf hlt r jb jb
def aAM{F:Nat->Nat->Rat}{P:List Nat}{f:Nat}(hlt:∀a b,b<a->a<P.length->at0 P b<at0 P a)(hf:f∉P):kvF F P f f=1/\(∀a,a<P.length->kvF F P f (at0 P a)=-F a f)/\∀k,k∉P->k≠f->kvF F P f k=0:=by
 refine⟨?_,λa ha=>anf hlt _ jp ha,λk hk hne=>?_⟩
 .have:=adJ (F:=F) (P:=P) (f:=f) (k:=f) P.length λa ha e=>hf (by grind[jy]);rwa[ab rfl]at this
 .have:=adJ (F:=F) (P:=P) (f:=f) (k:=k) P.length λa ha e=>hk (by grind[jy]);rwa[ae hne]at this
section
variable {n:Nat} {M:Nat→Nat→Rat} {l:List Nat}
def sub_one(M:Nat->Nat->Rat)(l:List Nat)(a b:Nat):qj M l a b=1*(x9 M l a b-if a=b then 1 else 0):=by unfold qj;grind
def ang(hl:J5 n M l):∃f,f<l.length/\f∉(ech l.length (qj M l) l.length).2:=
 ara (LY _ _ _ _) (ah3 hl.nodup hl.lt hl.arf hl.ne hl.col _ 1 λa b _ _=>sub_one M l a b)
def arI(hM:NI n M)(hl:J5 n M l){f:Nat}(hf:f<l.length)(hfP:f∉(ech l.length (qj M l) l.length).2):
  (∀j,j<n->rX l (kvF (ech l.length (qj M l) l.length).1 (ech l.length (qj M l) l.length).2 f) j=mv n M (rX l (kvF (ech l.length (qj M l) l.length).1 (ech l.length (qj M l) l.length).2 f)) j)/\∀i∈l,0<rX l (kvF (ech l.length (qj M l) l.length).1 (ech l.length (qj M l) l.length).2 f) i:=by
 have hE:=LY l.length l.length (qj M l) l.length
 obtain⟨k1,k2,k3⟩:=aAM (F:=(ech l.length (qj M l) l.length).1) hE.lt hfP
 have hs:=aq9 hE hf hfP k1 k2 λk _ h1 h2=>k3 k h1 h2
 exact ah2 hM hl.nodup hl.lt hl.arf hl.min hf k1 (ah4 (s:=1) jj (λa b _ _=>sub_one M l a b) hs)
def aCT{m a:Nat}{F:Nat->Nat->Rat}{P:List Nat}{f:Nat}(hP:P.length<=m)(hf:f<m)(h:FP m m a F)(hl:l.length=m):Ho n a (rX l (kvF F P f)):=by
 obtain⟨Q,h1,h2,h3⟩:=h;have key:∀r,r<=P.length->∀k,∃z:Int,kvS F P f r k=(z:Rat)/(Q:Rat)/\z.natAbs<=2^a:=λr=>by
  induction r with
  |zero=>
   intro _ k
   unfold kvS
   split
   .refine⟨Q,?_,jb⟩
    have:=iT h1
    have e:(((Q:Nat):Int):Rat)=(Q:Rat):=rfl
    grind
   .exact⟨0,by grind,aR _⟩
  |succ r ih=>
   intro hr k
   unfold kvS
   split
   .obtain⟨z,e,hz⟩:=h3 r f jb hf
    exact⟨-z,by grind,jb⟩
   .exact ih jb k
 refine⟨Q,h1,h2,λi _=>?_⟩;unfold rX;split
 .exact key _ jp _
 .exact⟨0,by grind,aR _⟩
def aiq(hM:NI n M)(hn:l.Nodup)(hl:∀i∈l,i<n)(hc:XW n M l)(hno:∀S:Nat->Prop,(∃i,i<n/\S i)->(∀i,i<n->S i->i∈l)->¬Ins.Shut n M S)
  {B:Nat->Nat->Rat}{s:Nat->Rat}(hs:∀i,i<l.length->s i≠0) (hB:∀i j,i<l.length->j<l.length->B i j=s i*qj M l i j) (z:Nat->Rat) (hz:∀i,i<l.length->aF l.length (λj=>B i j*z j)=0):∀j,j<l.length->z j=0:=by
 refine amI hM hn hl hc hno λa ha=>?_
 have h:=hz a ha
 have e:aF l.length (λj=>B a j*z j)=s a*aF l.length (λj=>x9 M l a j*z j-if j=a then z a else 0):=by rw[<-iq];grind[Go.Proofs.Ins.aP,Go.Proofs.Xe.qj]
 rw[e,iR,jR ha]at h
 grind
def anh{B:Nat->Nat->Rat}{s v c:Nat->Rat}(hs:∀i,i<l.length->s i≠0)(hB:∀i j,i<l.length->j<l.length->B i j=s i*qj M l i j)(hBn:∀i,i<l.length->B i l.length=s i* -(c (at0 l i)))(hv:∀i,i<l.length->aF l.length (λj=>B i j*v j)=B i l.length):
  ∀a,a<l.length->v a=aF l.length (λb=>x9 M l a b*v b)+c (at0 l a):=by
 intro a ha
 have h:=hv a ha
 have e:aF l.length (λj=>B a j*v j)=s a*aF l.length (λj=>x9 M l a j*v j-if j=a then v a else 0):=by rw[<-iq];grind[Go.Proofs.Ins.aP,Go.Proofs.Xe.qj]
 rw[e,hBn a ha,iR,jR ha]at h
 grind
def NW(n a:Nat)(W:Nat->Nat->Rat):Prop:=∀i j,i<n->j<=n->∃z:Int,W i j=(z:Rat)/\z.natAbs<=2^a
def NW.step{a k:Nat}{W:Nat->Nat->Rat}{p:Rat}(h:NW n a W)(hk:k<n)(hp:Ic p)(p0:p≠0)(hi:∀i j,i<n->j<=n->Ic (L8 W k p i j)):NW n (2*a+1) (L8 W k p):=λi j hin hj=>by
 obtain⟨z,ez⟩:=hi i j hin hj;refine⟨z,ez,?_⟩;have e2:(2:Nat)^(2*a+1)=2^a*2^a+2^a*2^a:=by rw[dm,Nat.two_mul a,dx];omega
 have h1:1<=2^a:=gH;have h2:2^a<=2^a*2^a:=ft _ h1;unfold L8 at ez;by_cases e:i=k
 .rw[ab e]at ez;obtain⟨y,ey,hy⟩:=h k j hk hj;rw[ey]at ez;have:=eL.mp ez;omega
 .rw[ae e]at ez;obtain⟨q,rfl⟩:=hp;obtain⟨y1,e1,hy1⟩:=h k k hk jb;obtain⟨y2,e3,hy2⟩:=h i j hin hj;obtain⟨y3,e4,hy3⟩:=h i k hin jb;obtain⟨y4,e5,hy4⟩:=h k j hk hj;rw[e1,e3,e4,e5]at ez;have e6:((y1*y2-y3*y4:Int):Rat)=((z*q:Int):Rat):=by grind
  have e7:=eL.mp e6;have hq:1<=q.natAbs:=by have:q≠0:=λe=>p0 (by simp_all);omega
  have k1:=cK hy1 hy2;have k2:=cK hy3 hy4;have k3:(z*q).natAbs<=(y1*y2).natAbs+(y3*y4).natAbs:=jb;rw[eO,eO,eO]at k3;have k4:z.natAbs<=z.natAbs*q.natAbs:=ft _ hq;omega
def aAN{m a:Nat}{W:Nat->Nat->Rat}{p:Rat}(h:NW m a W)(hd:∀i,i<m->W i i=p)(p0:p≠0)(hm:0<m)(hl:l.length=m)(hnd:l.Nodup):Ho n a (rX l λi=>W i m/W i i):=by
 obtain⟨q,eq,hq⟩:=h 0 0 hm jb;rw[hd 0 hm]at eq;have hq0:q≠0:=λe=>p0 (by simp_all);obtain⟨s,hs,es⟩:=X5 q;have hss:=adA hs;refine⟨q.natAbs,jb,hq,λi _=>?_⟩;by_cases hi:i∈l
 .obtain⟨k,hk,rfl⟩:=GY hi;rw[G5 hnd _ hk];obtain⟨z,ez,hz⟩:=h k m jb jp;refine⟨s*z,?_,?_⟩
  .grind
  grind
 .rw[wK hi];exact⟨0,by grind,aR _⟩
def Bar.diag{W B:Nat->Nat->Rat}{p:Rat}(h:Bar n n B W p):∀i,i<n->W i i=p:=by obtain⟨X,-,h2,h3,-⟩:=h.ex;grind
end
def aAO(s t:Bool){u v:Nat}(hv:0<v):Ins.fr (false==(s==t)) u v=((iv s u:Int):Rat)/((iv t v:Int):Rat):=by
 have h:=Qb (iv s u) (v:Int) jb;rw[Bg,gL]at h;by_cases hu:u=0
 .simp_all[iv,VO,Rat.div_def]
 .have e1:decide ((v:Int)<0)=false:=ap jb;rw[e1]at h;have e2:decide (iv s u<0)=s:=by grind[iv]
  rw[e2]at h;cases t with
  |false=>
   have:(false==(s==false))=(!(s==false)):=by simp
   rw[this,h];rfl
  |true=>
   have e3:(false==(s==true))=(!((!s)==false)):=by simp
   have h2:=Qb (iv (!s) u) (v:Int) jb
   rw[Bg,gL,e1]at h2
   have e4:decide (iv (!s) u<0)= !s:=by grind[iv]
   rw[e4]at h2
   rw[e3,h2]
   have e5:iv (!s) u=-iv s u:=by grind[iv]
   have e6:iv true v=-(v:Int):=rfl
   have hv0:((v:Int):Rat)≠0:=λe=>by simp_all
   rw[e5,e6,Rat.intCast_neg,Rat.intCast_neg]
   grind
def Bar.aw0{n k:Nat}{B W W':Nat->Nat->Rat}{p:Rat}(h:Bar n k B W p)(hk:k<=n)(hw:∀i j,i<n->j<=n->W i j=W' i j):Bar n k B W' p:=by obtain⟨h1,h2,h3,X,x1,x2,x3,x4⟩:=h;exact⟨h1,h2,h3,X,x1,x2,λl j hl hj=>by grind,λi j a b c=>by grind⟩
def aw1{J:St}(hW:WF J){mb n m lo hi:Nat}{S:Nat->Nat->Bool}{U:Nat->Nat->Nat}{bs:Nat->Nat}(hM:Bh J.h mb n m S U bs lo hi)(hn:n<=16)(hm:m<=17){k:Nat}(hk:k<n)(hkm:k<m){c:Cap}{kb:Nat}(hkb:J.h kb=some ⟨[.int .i64 (.ofNat k)],none⟩)(hex:∃i,k<=i/\i<n/\U i k≠0):
  aB EN 275 [.c (.sl mb (k*1) (n-k) c),.fn 276 [.ptr kb 0]] J λr J'=>(∃a,r=jN a/\k+a<n/\U (k+a) k≠0)/\Fr J J':=by
 refine aI (dO.o _ _) dO.h ?_
 unfold dO
 dsimp only
 have hcl:=λ(args:List V) (J:St) (K:V->St->Prop)=>lU (E:=EN) (K:=K) (vO.o args J) vO.h
 unfold vO at hcl
 dsimp only at hcl
 refine WN ?_
 refine aG (λq tm J'=>∃j,q=n-k-j/\j<=n-k/\r8 tm 0=.c (.sl mb (k*1) (n-k) c)/\r8 tm 1=.fn 276 [.ptr kb 0]/\r8 tm 7=jN (n-k)/\r8 tm 8=jN j/\(∀a,a<j->U (k+a) k=0)/\Fr J J') (n-k) ?_ ?_
 .refine⟨0,jb,jb,?_⟩
  refine WP ?_
  grind[Fr.refl]
 .rintro q tm J' ⟨j,rfl,hj,t0,t1,t7,t8,hd,hf⟩
  have lM:=Fr.refl hf.wf
  refine W3 ?_
  refine aH (λhlt=>?_) (λhlt=>?_)
  .have hkj:k+j<n:=jb
   have q0:=hf.get hW hM.o
   have qr:=hf.get hW (hM.r _ hkj).1
   have hkb':=hf.get hW hkb
   have e0:ld J'.h mb (k*1+j*1) 1 false=some (.c (.sl (bs (k+j)) 0 m (.ex m))):=by rw[ay q0,show k*1+j*1=(k+j)*1 by omega];show zT (ones n _) _ 1 false=_;rw[WE n _ (k+j) hkj];rfl
   by_cases h0:U (k+j) k=0
   .have e1:decide (bn (U (k+j) k)=⟨#[]⟩)=true:=aw (by rw[h0];rfl)
    simp(disch:=try exact jz)only[go_sem,W4,e0,hcl,ay hkb',ay qr,e1]
    refine⟨n-k-(j+1),jb,j+1,rfl,jb,rfl,λa ha=>?_,fr⟩
    grind
   .have e1:=am2 (show 0<U (k+j) k by omega)
    simp(disch:=try exact jz)only[go_sem,W4,e0,hcl,ay hkb',ay qr,e1]
    exact⟨⟨j,rfl,hkj,h0⟩,fr⟩
  .exfalso
   obtain⟨i,h1,h2,h3⟩:=hex
   exact h3 (by have:=hd (i-k) jb;grind)
end Go.Proofs.Xe
