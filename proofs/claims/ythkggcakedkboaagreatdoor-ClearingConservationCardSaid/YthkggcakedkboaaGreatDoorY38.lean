import Derived.Test.YthkggcakedkboaaGreatDoorY37
set_option linter.all false
set_option maxHeartbeats 8000000
namespace Go.Proofs.Xe
open Go.RowKit Go.Proofs.Ins
def nS(M:Nat->Nat->Rat)(l:List Nat)(a b:Nat):Rat:=vS M l a b-if a=b then 1 else 0
def Gt(M:Nat->Nat->Rat)(l:List Nat)(a b a' b':Nat):Rat:=if a'<a then nS M l a' b' else if a'=a/\b'<b then vS M l a' b' else 0
def aoi(M:Nat->Nat->Rat)(l:List Nat)(a b:Nat):rF (rC (Gt M l a b)) a b (eH (vS M l a b))=rC (Gt M l a (b+1)):=by grind[rF,rC,Gt]
def akl{M:Nat->Nat->Rat}{l:List Nat}{a k i c:Nat}(hc:c<k)(ha:a<k):rF (rC (Gt M l a k)) a a (eH (vS M l a a-1)) i c=rC (Gt M l (a+1) 0) i c:=by grind[rF,rC,Gt,nS]
set_option maxRecDepth 10000 in
def apE{σ:St}(hW:WF σ){p:Nat->Prop}{mv iv:B}{n:Nat}{M:Nat->Nat->Rat}(hM:dR p σ.h mv n (λ_=>n) M)(hz2:∀j i,j<n->i<n->Sz (M j i))(hz3:∀i,i<n->Sz (M i i-1)){l:List Nat}(hl:YJ σ.h iv l)(hl1:l.length<=1000)(hln:∀i∈l,i<n):
  aC EN 110 [.c mv,.c iv] σ λr σ'=>(∃mb bs,r=.c (.sl mb 0 l.length (.ex l.length))/\σ.aj<=mb/\ou σ'.h mb l.length (rC (nS M l)) bs (mb+1) σ'.aj)/\Fr σ σ':=by
 refine aN (xA.o _ _) xA.h ?_
 unfold xA
 dsimp only
 have hlen:=hl.len
 have hFr:=Fr.refl hW
 have z1:=sz1
 simp(disch:=try exact jz) only[go_sem,z3,hlen]
 refine(YB hW hl1).mono ?_
 rintro _ σ1 ⟨⟨bs,rfl,hX⟩,hf1⟩
 have hle1:=hf1.le
 have hnx1:=hX.l
 simp(disch:=try exact jz) only[go_sem,z3,hlen]
 refine aF (λx tm σ'=>∃a,x=l.length-a/\a<=l.length/\Tr.ah tm 0=.c mv/\Tr.ah tm 1=.c iv/\Tr.ah tm 5=.c (.sl σ.aj 0 l.length (.ex l.length))/\Tr.ah tm 13=.c iv/\Tr.ah tm 14=.c (.int .i64 (.ofNat l.length))/\Tr.ah tm 15=.c (.int .i64 (.ofNat a))
  /\ou σ'.h σ.aj l.length (rC (Gt M l a 0)) bs (σ.aj+1) σ1.aj/\Fr σ σ'/\σ1.aj<=σ'.aj) l.length ?_ ?_
 .refine⟨0,jb,jb,?_⟩
  simp(disch:=try exact jz) only[go_sem,z3,am]
  refine⟨?_,hf1,jp⟩
  have e:rC (Gt M l 0 0)=rC λ_ _=>0:=by grind[rC,Gt]
  grind
 .rintro x tm σ' ⟨a,rfl,ha,t0,t1,t5,t13,t14,t15,hX,hf,hnx⟩
  simp(disch:=try exact jz) only[go_sem,z3,t0,t1,t5,t13,t14,t15,aG]
  refine aH (λhlt=>?_) (λhlt=>?_)
  .obtain⟨bi,oi,ci,rfl,Qu⟩:=hl.one jb
   have hld:=hf.ld hW (Qu a hlt)
   have hia:=hln _ (jc hlt)
   obtain⟨bm,om,cm,T,rfl,-,ayV,hT⟩:=hM.at hia
   simp(disch:=try exact jz) only[go_sem,z3,t0,t1,t5,t13,t14,t15,hld,hlen]
   refine aF (λx tm σ2=>∃b,x=l.length-b/\b<=l.length/\Tr.ah tm 0=.c (.sl bm om n cm)/\Tr.ah tm 1=.c (.sl bi oi l.length ci)/\Tr.ah tm 5=.c (.sl σ.aj 0 l.length (.ex l.length))/\Tr.ah tm 6=.c (.int .i64 (.ofNat a))/\Tr.ah tm 7=.c (.int .i64 (.ofNat (at0 l a)))
    /\Tr.ah tm 13=.c (.sl bi oi l.length ci)/\Tr.ah tm 14=.c (.int .i64 (.ofNat l.length))/\Tr.ah tm 15=.c (.int .i64 (.ofNat a))/\Tr.ah tm 20=.c (.sl bi oi l.length ci)/\Tr.ah tm 21=.c (.int .i64 (.ofNat l.length))/\Tr.ah tm 22=.c (.int .i64 (.ofNat b))
    /\ou σ2.h σ.aj l.length (rC (Gt M l a b)) bs (σ.aj+1) σ1.aj/\Fr σ σ2/\σ1.aj<=σ2.aj) l.length ?_ ?_
   .refine⟨0,jb,jb,?_⟩
    simp(disch:=try exact jz) only[go_sem,z3,t0,t1,t5,t13,t14,t15,am]
    grind
   .rintro x VU σ2 ⟨b,rfl,hb,t0,t1,t5,t6,t7,t13,t14,t15,t20,t21,t22,hX2,hf2,hnx2⟩
    have abd:=Fr.refl hf2.wf
    obtain⟨q0,hR,-,-⟩:=hX2
    obtain⟨q1,g1,g2⟩:=hR.r a hlt
    have q1:σ2.h (bs a)=some ⟨bZ l.length (Gt M l a b a),none⟩:=q1
    unfold yc at q0
    simp(disch:=try exact jz) only[go_sem,z3,t0,t1,t5,t6,t7,t13,t14,t15,t20,t21,t22,aG]
    refine aH (λhlb=>?_) (λhlb=>?_)
    .have YP:=hf2.ld hW (Qu b hlb)
     have hib:=hln _ (jc hlb)
     obtain⟨bt,ot,ct,rfl,-,atg⟩:=bf.at3 hT hib
     have atg:=hf2.ld hW atg
     have awH:=hf2.ld hW ayV
     simp(disch:=try exact jz) only[go_sem,z3,t0,t1,t5,t6,t7,t13,t14,t15,t20,t21,t22,YP,atg,awH,ak q0,ak q1,aJ q1,q1]
     refine⟨l.length-(b+1),jb,b+1,rfl,jb,rfl,⟨(au _ _ _ _ jb).trans q0,?_,jb,jb⟩,fr,hnx2⟩
     rw[<-aoi]
     refine hR.set hlt (bW λc _=>?_)
     unfold jk aP rC
     split<;>rfl
    .have:b=l.length:=jb
     subst this
     have hmm:=hM.at hia
     have z4:=hz2 _ _ hia hia
     have z5:=hz3 _ hia
     have e7:Gt M l a l.length a a=M (at0 l a) (at0 l a):=by unfold Gt;rw[ae jb,ab ⟨rfl,hlt⟩];rfl
     have q1e:zI (bZ l.length (Gt M l a l.length a)) (0+a*3) 3 true=some (.agg [.bool (rn (M (at0 l a) (at0 l a))),.str (rs (M (at0 l a) (at0 l a))),.str (rd (M (at0 l a) (at0 l a)))]):=by rw[cI,Uj _ _ _ hlt,e7]
     simp(disch:=try exact jz) only[go_sem,z3,t0,t1,t5,t6,t7,t13,t14,t15,t20,t21,ak q0,ak q1,aJ q1,q1,e7]
     refine⟨l.length-(a+1),jb,a+1,rfl,jb,rfl,⟨(au _ _ _ _ jb).trans q0,?_,jb,jb⟩,fr,hnx2⟩
     refine(hR.set (x:=eH (M (at0 l a) (at0 l a)-1)) hlt (bW λc _=>?_)).congr λi _ c hc=>akl hc hlt
     unfold jk aP rC
     split<;>rfl
  .have:a=l.length:=jb
   subst this
   simp(disch:=try exact jz) only[go_sem,z3,t5]
   refine⟨⟨_,bs,rfl,jp,⟨hX.o,?_,hX.b,jb⟩⟩,hf⟩
   refine(hX.r.congr λi hi c _=>?_).mono (λ_ _ _=>rfl) jp hnx
   unfold rC Gt
   rw[ab hi]
structure kM(g:fP):Prop where
 n:g.e.length<=8
 bld:Yr 60 g
 sm:aak 134217728 g
 z:FY g=0
 k6:∀i,i<g.e.length->kE g.e i<=6
 ed:∀i,i<g.e.length->ED 60 60 (kE g.e i) (cO (ix g.e i))
 eb:∀i,i<g.e.length->EB (kE g.e i) (cO (ix g.e i))
 er:∀i,i<g.e.length->dH (cO (ix g.e i)).rk<=48/\(cO (ix g.e i)).rk.length<=8/\(cO (ix g.e i)).ps.length<=2/\∀p∈(cO (ix g.e i)).ps,dH p.2<=28/\p.2.length<=4
 cap:∀i,i<g.e.length->∀k,oM 60 60 (ix (ix g.e i).c k).a.q
 hold:∀i,i<g.e.length->∀c,c<kE g.e i->(ix (ix g.e i).c c).h=.negSucc 0\/∃hh:Nat,(ix (ix g.e i).c c).h=.ofNat hh/\hh<g.e.length
 m:∀i,i<g.e.length->(ix g.e i).m.fits 1000000/\oM 60 60 (ix g.e i).m.q
 d3:g.d.length<=3
 d:∀d,d<g.d.length->(ix g.d d).l.length<=4/\(ix g.d d).w.fits 1000000/\oM 60 60 (ix g.d d).w.q
def ayW:(60:Rat)<=uQ:=by
 have h:((60:Nat):Rat)<=uQ:=by unfold uQ;grind
 exact h
def oM.mn{A:Nat}{U V q:Rat}(h:oM A U q)(hUV:U<=V):oM A V q:=⟨h.1,h.2.1,cG h.2.2 hUV⟩
def xU.mn{P Q:Rat->Prop}(hPQ:∀q,P q->Q q){n:Nat}{l:fU}(h:xU P n l):xU Q n l:=λt ht p hp=>⟨(h t ht p hp).1,hPQ _ (h t ht p hp).2⟩
def ED.mn{A n:Nat}{U V:Rat}{e:fC}(h:ED A U n e)(hUV:U<=V):ED A V n e:=⟨xU.mn (λ_ h=>oM.mn h hUV) h.rk,λp hp=>xU.mn (λ_ h=>oM.mn h hUV) (h.ps p hp)⟩
def ED.uq{A n:Nat}{e:fC}(h:ED A 60 n e):ED A uQ n e:=h.mn ayW
def YR{n k:Nat}{l:fU}{m:Rat}(h:xU (λq=>dV 60 q/\0<=q/\q<=60) n l)(h0:0<=m)(hk:dH l<=k)(h1:1<=k):wJ 60 l m<=3600*k:=by
 unfold wJ;split
 .next hf=>
  have ht:=gI hf;have h2:=Yl (h _ ht);have h3:=En ht;obtain⟨e,-⟩:=U9 (A:=60) jj (Dw (h.D _ ht)) (zZ h0 hf);generalize aV (ix l (dP l m))=s at*;refine OY ?_;have e60:((60:Nat):Rat)=60:=rfl;have e18:((3600:Nat):Rat)=3600:=rfl;have h4:((ix l (dP l m)).length:Rat)<=(k:Rat):=bo.mpr jb;grind
 .omega
def YS{n k:Nat}{m:Rat}{e:fC}(h:ED 60 60 n e)(h0:0<=m)(h1:1<=k):∀{l:List (List Nat×fU)},(∀p∈l,p∈e.ps/\dH p.2<=k)->afj 60 e m l<=(3600*k)^l.length
 |[],_=>cK 1
 |p::l,hl=>by unfold afj;rw[bR,dp,dq];exact cE (YS h h0 h1 λq hq=>hl q (by simp[hq])) (YR (h.ps p (hl p kc).1) (mX h.nn h0 p) (hl p kc).2 h1)
def abt{D b:Nat}(h0:0<D)(h:D<=2^b)(hb:b<=200000000):BD D:=by refine⟨h0,cR h (aE adh (bL jj ?_))⟩;unfold dK;omega
def eB:Nat:=408
theorem YT:eB=408:=rfl
def gE(g:fP)(x:Nat->Rat):Nat:=OX g.e.length λi=>BI 60 (cO (ix g.e i)) (x i)
section
variable {g:fP} {B b:Nat} {x:Nat→Rat}
def kM.cur(h:kM g){i:Nat}(hi:i<g.e.length){y:Rat}(hy:0<=y):0<BI 60 (cO (ix g.e i)) y/\BI 60 (cO (ix g.e i)) y<=2^51:=by
 have hE:=h.ed i hi;obtain⟨h1,-,h2,h3⟩:=h.er i hi;refine⟨IC jj hE hy,?_⟩;have a:=YR hE.rk hy h1 jj;have b:=YS (k:=28) hE hy jj (l:=(cO (ix g.e i)).ps) λp hp=>⟨hp,(h3 p hp).1⟩
 have c:(3600*28)^(cO (ix g.e i)).ps.length<=(3600*28)^2:=bL jj h2;exact aw (cE a (aw b c)) jj
def kM.gE(h:kM g)(hx:∀i,i<g.e.length->0<=x i):0<Xe.gE g x/\Xe.gE g x<=2^eB:=by refine⟨RZ λi hi=>(h.cur hi (hx i hi)).1,?_⟩;have h1:=Yk (n:=g.e.length) (k:=2^51) λi hi=>(h.cur hi (hx i hi)).2;refine aw h1 ?_;rw[<-Nat.pow_mul];exact yP (by have:=h.n;grind[YT])
def PE(x:Nat->Rat){i:Nat}(hi:i<g.e.length):BI 60 (cO (ix g.e i)) (x i)∣Xe.gE g x:=Si (f:=λi=>BI 60 (cO (ix g.e i)) (x i)) hi
def kM.dok(h:kM g)(hB:0<B)(hb:B<=2^b)(hb2:b<=199000000)(hx:∀i,i<g.e.length->0<=x i):BD (B*Xe.gE g x):=
 abt (b:=b+eB) (ck hB (h.gE hx).1) (oC hb (h.gE hx).2) (by grind[YT])
def akm{q:Rat}(h:oM 60 60 q):q<=vQ:=by have h1:=OM (k:=60) jj;grind
def I5{f:Nat->Rat}(hf:∀k,oM 60 60 (f k)):∀n,dV 60 (aB n f)/\0<=aB n f/\aB n f<=(n:Rat)*60
 |0=>⟨dV.zero _,aR,by show(0:Rat)<=((0:Nat):Rat)*60;simp⟩
 |n+1=>by obtain⟨h1,h2,h3⟩:=I5 hf n;obtain⟨k1,k2,k3⟩:=hf n;have e:((n+1:Nat):Rat)=(n:Rat)+1:=gb _ _;exact⟨h1.add k1,by unfold aB;grind,by rw[e];unfold aB;grind⟩
def kM.Ku(h:kM g):JD g.e.length (aY g):=ai0 (FB h.z)
def kM.nn(h:kM g){i:Nat}(hi:i<g.e.length):AB (cO (ix g.e i)):=(h.ed i hi).nn
def kM.mg(h:kM g)(hB0:0<B)(h6:60∣B)(hb:B<=2^b)(hb2:b<=199000000)(hx:∀i,i<g.e.length->SmB B (x i)):Vo (B*Xe.gE g x) g x:=by
 have hz:=FB h.z;have hx0:∀i,i<g.e.length->0<=x i:=λi hi=>(hx i hi).2.1;have hD:=h.dok hB0 hb hb2 hx0;have hBD:B∣B*Xe.gE g x:=aM _ _;have h60:=bN h6 hBD;have hu:=tX;have hB:=h.bld;have hdv:∀i,i<g.e.length->B*BI 60 (cO (ix g.e i)) (x i)∣B*Xe.gE g x:=λi hi=>cD _ (PE x hi);have hxZ:∀i,i<g.e.length->Zk (B*Xe.gE g x) 1 (x i):=λi hi=>nU hD hBD (hx i hi).1 (hx i hi).2.1 (hx i hi).v;have hcZ:∀{q:Rat},oM 60 60 q->Zk (B*Xe.gE g x) 1 q:=λhq=>nU hD h60 hq.1 hq.2.1 (akm hq);have hlE:∀i,i<g.e.length->AB (cO (ix g.e i))/\InE (kE g.e i) (cO (ix g.e i)):=λi hi=>Em (hz.e i hi);have hq:∀i,i<g.e.length->∀c,c<kE g.e i->0<=gq (aY g) x (i,c)/\Zk (B*Xe.gE g x) 1 (gq (aY g) x (i,c)):=λi hi c hc=>by obtain⟨h1,h2⟩:=hlE i hi;have h3:=Jw h1 (hx i hi).2.1 c;have h4:=as2 h1 h2 (hx i hi).2.1 hc;exact⟨h3,nU hD (hdv i hi) (aiX jj hB0 h6 (h.ed i hi) (hx i hi).1 (hx i hi).2.1 c) h3 (cG h4 (hx i hi).v)⟩
 have hr:∀i c,Zk (B*Xe.gE g x) 5000 (EM (aY g) x (i,c)):=λi c=>by
  have h3:=h.d3;have key:∀j,j<=g.d.length->Zk (B*Xe.gE g x) (j*44) (Vk g x j (i,c)):=λj=>by
   induction j with
   |zero=>intro _;exact Zk.zero.mono (bw _)
   |succ j ih=>
    intro hj
    have hj':j<g.d.length:=jb
    rw[Sr x hj',cg]
    obtain⟨hl,-,hw⟩:=h.d j hj'
    have hlen:(dL g j).length=(ix g.d j).l.length:=cU _
    refine(ih jb).add ((ade (K:=0) (M:=4) (hcZ hw) _ (λa ha=>?_) Zk.zero jb).mono jb)
    obtain⟨y,hy,rfl⟩:=cB.mp ha
    obtain⟨k,hk,rfl⟩:=aL hy
    rw[<-dX hk]
    obtain⟨e,c',h1,h2,h3⟩:=hB.lg j hj' k hk
    rw[h1]
    exact(hq e h2 c' h3).2
  rw[<-Yu];exact(key g.d.length jp).mono jb
 have hu5:=ajA;have hv:=OM (k:=1000001) jj;have ev:((1000001:Nat):Rat)=1000001:=rfl;rw[ev]at hv;refine⟨⟨⟨hD,hB.n,hB.d,λi hi=>?_,λi hi=>by have:=h.k6 i hi;omega,λd hd=>⟨(h.d d hd).2.1,(h.d d hd).2.2.2.1,hcZ (h.d d hd).2.2⟩,λd hd=>⟨hB.l d hd,hB.lg d hd⟩,λi hi=>hq i hi,λi hi c _=>(hr i c).sz hD jb,h.Ku.nodup⟩,λi _ c _=>hr i c,λi hi=>⟨(h.m i hi).1,hcZ (h.m i hi).2⟩,h.hold⟩,λi hi=>?_,λi hi c _=>?_⟩
 .have hk6:=h.k6 i hi;obtain⟨s1,s2,s3⟩:=I5 (h.cap i hi) (kE g.e i);have h4:((kE g.e i:Nat):Rat)<=((6:Nat):Rat):=bo.mpr jb;have e6:((6:Nat):Rat)=6:=rfl;have hT:Zk (B*Xe.gE g x) 1 (nM (ix g.e i) (kE g.e i)):=nU hD h60 s1 s2 (by unfold nM;grind);exact⟨ai3 hD h60 (h.ed i hi).uq (h.eb i hi),ai4 jj hB0 h6 hD (hdv i hi) (h.ed i hi).uq (h.eb i hi) (hx i hi).1 (hx i hi).2.1 (hx i hi).v,hT.sz hD jb,((hxZ i hi).sub hT).sz hD jb⟩
 .exact ai5 jj hB0 h6 hD (hdv i hi) (h.ed i hi).uq (h.eb i hi) (hx i hi).1 (hx i hi).2.1 (hx i hi).v
 .have h1:=qX (h.ed i hi).nn (hx i hi).2.1 c;have h2:=Vs (h.ed i hi).uq (h.eb i hi) (hx i hi).2.1 c;exact⟨h1,nU hD (bN (gH _ _) (hdv i hi)) (aiY jj (h.ed i hi) (hx i hi).2.1 c) h1 (cG h2 hv)⟩
def kM.map(h:kM g)(hB0:0<B)(h6:60∣B)(hb:B<=2^b)(hb2:b<=199000000)(hx:∀i,i<g.e.length->SmB B (x i)):asR 60 (B*Xe.gE g x) g x:=by have hD:=h.dok hB0 hb hb2 λi hi=>(hx i hi).2.1;have hu:=tX;exact⟨abt (b:=6) jj jj jj,h.bld,(h.mg hB0 h6 hb hb2 hx).A,h.sm,h.z,λi hi=>⟨(hx i hi).2.1,(nU hD (aM _ _) (hx i hi).1 (hx i hi).2.1 (hx i hi).v).sz hD jb⟩⟩
def kM.sub(h:kM g)(hx:∀i,i<g.e.length->0<=x i):KD g.e.length (gM g.e.length (aY g) x):=(vP h.Ku).sub hx
def kM.slD(h:kM g)(hx:∀i,i<g.e.length->0<=x i){i:Nat}(hi:i<g.e.length)(c:Nat):dV (Xe.gE g x) (xQ (cO (ix g.e i)) (x i) c):=
 (aiY jj (h.ed i hi) (hx i hi) c).dvd (PE x hi) (h.gE hx).1
def kM.mD(h:kM g)(hx:∀i,i<g.e.length->0<=x i){j i:Nat}(hi:i<g.e.length):dV (Xe.gE g x) (gM g.e.length (aY g) x j i):=by
 have hgk:=h.Ku;have hgs:∀l:fD,l.1<g.e.length->dV (Xe.gE g x) (gs (aY g) x i l):=λl hl=>by
  unfold gs;split
  .exact h.slD hx hl l.2
  .exact dV.zero _
 unfold gM;refine dV.add (abk λc _=>?_) (dV.sum λd hd=>?_)
 .grind[dV.zero]
 .have hl:=λl hl=>hgs l (tN hgk hd (l:=l) hl);grind[Go.Proofs.Xe.dV.sum,Go.Proofs.Ins.dM,Go.Proofs.Xe.dV.add,Go.Proofs.Xe.ajW,Go.Proofs.Xe.dV.zero,Go.Proofs.Ins.nR]
def kM.m01(h:kM g)(hx:∀i,i<g.e.length->0<=x i){j i:Nat}(hj:j<g.e.length)(hi:i<g.e.length):0<=gM g.e.length (aY g) x j i/\gM g.e.length (aY g) x j i<=1:=by have hM:=h.sub hx;exact⟨hM.nn j i hj hi,cG (Dl (f:=λj=>gM g.e.length (aY g) x j i) hj λk hk=>hM.nn k i hk hi) (hM.le i hi)⟩
def Vz{D b K:Nat}{q:Rat}(hD:0<D)(hb:D<=2^b)(h:dV D q)(h0: -(K:Rat)<=q)(h1:q<=(K:Rat)):∃z:Int,q=(z:Rat)/(D:Rat)/\z.natAbs<=K*D:=by
 obtain⟨z,rfl⟩:=h;refine⟨z,rfl,?_⟩;have hD':=iI hD;have hp:=Pq hD;have e:(z:Rat)/(D:Rat)*(D:Rat)=(z:Rat):=by grind
 have h4:=bj h1 (dE hp);have h5:=bj h0 (dE hp);rw[e]at h4 h5;have e2: -(K:Rat)*(D:Rat)=((-((K*D:Nat):Int):Int):Rat):=by rw[Rat.intCast_neg];have:(((K*D:Nat):Int):Rat)=(K:Rat)*(D:Rat):=eZ _ _;grind
 rw[<-eZ]at h4;rw[e2]at h5;have h4:((z:Int):Rat)<=(((K*D:Nat):Int):Rat):=h4;have h4:=fT.mp h4;have h5:=fT.mp h5;omega
def VA{D b k K:Nat}{q:Rat}(hD:0<D)(hb:D<=2^b)(h:dV D q)(hk:K<=2^k)(h0: -(K:Rat)<=q)(h1:q<=(K:Rat)):lN (b+k) q:=by obtain⟨z,e,hz⟩:=Vz hD hb h h0 h1;exact⟨z,D,hD,aw hb (yP jb),aw hz (by rw[fg];exact oC hk hb),e⟩
def kM.ayX(h:kM g)(hx:∀i,i<g.e.length->0<=x i){l:List Nat}(hl:∀i∈l,i<g.e.length):DK l.length l.length eB (nS (gM g.e.length (aY g) x) l):=by
 obtain⟨p1,p2⟩:=h.gE hx;refine⟨Xe.gE g x,p1,p2,λa c ha hc=>?_⟩;have h1:=hl _ (jc ha);have h2:=hl _ (jc hc);have h3:=h.m01 hx h1 h2;have h4:=h.mD hx (j:=at0 l a) h2;have e1:((1:Nat):Rat)=1:=rfl;have hone:dV (Xe.gE g x) (1:Rat):=⟨Xe.gE g x,by have:=iI p1;have e:(((Xe.gE g x:Nat):Int):Rat)=((Xe.gE g x:Nat):Rat):=rfl;grind⟩
 have hd:dV (Xe.gE g x) (nS (gM g.e.length (aY g) x) l a c):=by unfold nS vS;refine h4.sub ?_;grind[dV.zero]
 obtain⟨z,e,hz⟩:=Vz (K:=1) p1 p2 hd (by grind[nS,vS]) (by grind[nS,vS]);grind
end
end Go.Proofs.Xe
namespace Go.Proofs.Ins
open Go.Proofs.Xe
def aoj{l:fU}(h:Kq l)(c:Int):0<=jG l c:=by
 induction l with
 |nil=>exact aR
 |cons t l ih=>
  have:=ih h.tl.2
  have:=wG h.tl.1 c
  show 0<=fZ t c+jG l c
  grind
def aok{l:fU}(h:Kq l)(c:Int):∀{m:Rat},0<=m->iy l m c<=jG l c:=by
 induction l with
 |nil=>exact λ_=>aR
 |cons t l ih=>
  intro m hm
  have h1:=wG h.tl.1 c
  have h2:=aoj h.tl.2 c
  show(if m<aV t then fZ t c*(m/aV t)else fZ t c+iy l (m-aV t) c)<=fZ t c+jG l c
  split
  .next hlt=>
   have h3:m/aV t<=1:=xM kd kd
   have h4:=cL h3 h1
   grind
  .have:=ih h.tl.2 (m:=m-aV t) kd
   grind
def PG(t u:dJ)(c:Int):fZ (t++u) c=fZ t c+fZ u c:=by
 induction t with
 |nil=>show fZ u c=0+fZ u c;grind
 |cons p t ih=>show(if p.1=c then p.2 else 0)+fZ (t++u) c=(if p.1=c then p.2 else 0)+fZ t c+fZ u c;rw[ih];grind
def akn(t u:dJ):aV (t++u)=aV t+aV u:=by
 induction t with
 |nil=>show aV u=0+aV u;grind
 |cons p t ih=>show p.2+aV (t++u)=p.2+aV t+aV u;rw[ih];grind
def ako(f:Nat->dJ)(c:Int)(l:List Nat):jG (l.map f) c=aI l λr=>fZ (f r) c:=by
 induction l with
 |nil=>rfl
 |cons a l ih=>show fZ (f a) c+jG (l.map f) c=fZ (f a) c+aI l _;rw[ih]
def akp(f:Nat->dJ)(l:List Nat):jw (l.map f)=aI l λr=>aV (f r):=by
 induction l with
 |nil=>rfl
 |cons a l ih=>show aV (f a)+jw (l.map f)=aV (f a)+aI l _;rw[ih]
def adp(cs:List C5)(r c:Nat):∀k,fZ (BH cs r k) (c:Int)=if c<k/\(ix cs c).r=(r:Int)then(ix cs c).a.q else 0
 |0=>by rw[ae jb];rfl
 |k+1=>by
  show fZ (BH cs r k++_) _=_;rw[PG,adp cs r c k];by_cases e:c=k
  .subst e;by_cases h:(ix cs c).r=(r:Int)
   .rw[ae jb,ab h,ab ⟨jb,h⟩];show 0+((if((c:Nat):Int)=(c:Int)then _ else 0)+0)=_;rw[ab rfl];grind
   .rw[ae jb,ae h,ae (λe=>h e.2)];show(0:Rat)+0=0;grind
  .have h0:fZ (if(ix cs k).r=(r:Int)then [((k:Int),(ix cs k).a.q)]else []) (c:Int)=0:=by
    split
    .show(if(k:Int)=(c:Int)then _ else(0:Rat))+0=0;rw[ae jb];grind
    .rfl
   rw[h0];by_cases h:c<k/\(ix cs c).r=(r:Int)
   .rw[ab h,ab ⟨jb,h.2⟩];grind
   .rw[ae h,ae (λe=>h ⟨jb,e.2⟩)];grind
def SQ(f:Nat->Rat):aI (List.range 8) f=f 0+(f 1+(f 2+(f 3+(f 4+(f 5+(f 6+f 7)))))):=by show f 0+(f 1+(f 2+(f 3+(f 4+(f 5+(f 6+(f 7+0)))))))=_;rw[de]
def ath{cs:List C5}{c r:Nat}(hc:c<cs.length)(hr:r<8)(e:(ix cs c).r=(r:Int)):jG (U8 cs cs.length) (c:Int)=(ix cs c).a.q:=by unfold U8;rw[ako,SQ];simp only[adp,hc,am,e];have:r=0\/r=1\/r=2\/r=3\/r=4\/r=5\/r=6\/r=7:=jb;rcases this with rfl|rfl|rfl|rfl|rfl|rfl|rfl|rfl<;>simp<;>grind
def adq(cs:List C5)(r:Nat):∀k,aV (BH cs r k)=aB k λc=>if(ix cs c).r=(r:Int)then(ix cs c).a.q else 0
 |0=>rfl
 |k+1=>by
  show aV (BH cs r k++_)=aB k _+_;rw[akn,adq cs r k];split
  .next h=>show _+((ix cs k).a.q+0)=aB k _+(if _ then _ else _);rw[ab h,de]
  .next h=>show _+0=aB k _+(if _ then _ else _);rw[ae h]
def ati{cs:List C5}(h:∀c,c<cs.length->∃r:Nat,r<8/\(ix cs c).r=(r:Int)):jw (U8 cs cs.length)=aB cs.length λc=>(ix cs c).a.q:=by unfold U8;rw[akp,SQ];simp only[adq];simp only[<-dB];refine aK λc hc=>?_;obtain⟨r,hr,e⟩:=h c hc;rw[e];have:r=0\/r=1\/r=2\/r=3\/r=4\/r=5\/r=6\/r=7:=jb;rcases this with rfl|rfl|rfl|rfl|rfl|rfl|rfl|rfl<;>simp<;>grind
def atj{s:(Nat->Rat)×dJ}{x:Ah}(hx:x.k=-1\/0<=x.k)(i:Nat):(LM s x).1 i+fZ (LM s x).2 (i:Int)=s.1 i+fZ s.2 (i:Int):=by
 unfold LM;by_cases e:x.k=-1
 .rw[ab e];show s.1 i+fZ (s.2++[((-1:Int),x.a.q)]) (i:Int)=_;rw[PG];show s.1 i+(fZ s.2 i+((if(-1:Int)=(i:Int)then _ else 0)+0))=_;rw[ae jb];grind
 .rw[ae e];dsimp only;rw[PG];generalize (if x.b=true then jC (s.1 x.k.toNat) x.a.q else s.1 x.k.toNat)=v;show(if i=x.k.toNat then s.1 i-v else s.1 i)+(fZ s.2 i+((if x.k=(i:Int)then v else 0)+0))=_;by_cases h:i=x.k.toNat
  .rw[ab h,ab jb];grind
  .rw[ae h,ae jb];grind
def adr:∀(t:FW){s:(Nat->Rat)×dJ},(∀x∈t,x.k=-1\/0<=x.k)->∀i:Nat,(t.foldl LM s).1 i+fZ (t.foldl LM s).2 (i:Int)=s.1 i+fZ s.2 (i:Int)
 |[],_,_,_=>rfl
 |x::t,s,h,i=>(adr t (s:=LM s x) (λy hy=>h y (by simp[hy])) i).trans (atj (h x kc) i)
def VB:∀(a:gV){s:(Nat->Rat)×fU},(∀t∈a,∀x∈t,x.k=-1\/0<=x.k)->∀i:Nat,(a.foldl ltS s).1 i+jG (a.foldl ltS s).2 (i:Int)=s.1 i+jG s.2 (i:Int)
 |[],_,_,_=>rfl
 |t::a,s,h,i=>by refine(VB a (s:=ltS s t) (λu hu=>h u (by simp[hu])) i).trans ?_;show(t.foldl LM (s.1,[])).1 i+jG (s.2++[(t.foldl LM (s.1,[])).2]) (i:Int)=_;rw[Ei];have:=adr t (s:=(s.1,[])) (h t kc) i;have e:fZ [] (i:Int)=0:=rfl;dsimp only at this;rw[e]at this;grind
def VD(f:Nat->Rat)(i:Nat):∀ms:List Nat,ms.Nodup->fZ (vO ms f) (i:Int)=if i∈ms then f i else 0
 |[],_=>by rw[ae kc];rfl
 |a::ms,h=>by
  rw[ga]at h;show(if(a:Int)=(i:Int)then f a else 0)+fZ (vO ms f) i=_;rw[VD f i ms h.2];by_cases e:i=a
  .subst e;rw[ab rfl,ae h.1,ab kc];grind
  .rw[ae jb];by_cases h2:i∈ms
   .rw[ab h2,ab (by simp[h2])];grind
   .rw[ae h2,ae (by simp[e,h2])];grind
def akq{n:Nat}{cs:List C5}{a:gV}(ha:∀t∈a,∀x∈t,x.k=-1\/0<=x.k/\x.k<n){i:Nat}(hi:i∈jW a):jG (oq cs a).2 (i:Int)=(ix cs i).a.q:=by show jG ((lsA cs a).2++[vO (jW a) (lsA cs a).1]) (i:Int)=_;rw[Ei,VD _ _ _ (F8 ha),ab hi];have:=VB a (s:=((λi:Nat=>(ix cs i).a.q),[])) (λt ht x hx=>by have:=ha t ht x hx;omega) i;have e:jG [] (i:Int)=0:=rfl;dsimp only at this;rw[e]at this;unfold lsA;grind
def YU{i:Nat}:∀(t:FW){s:(Nat->Rat)×dJ},(∀x∈t,x.k=-1\/0<=x.k/\x.k≠(i:Int))->(t.foldl LM s).1 i=s.1 i
 |[],_,_=>rfl
 |x::t,s,h=>by
  refine(YU t (s:=LM s x) λy hy=>h y (by simp[hy])).trans ?_;have hx:=h x kc;unfold LM;by_cases e:x.k=-1
  .rw[ab e]
  .rw[ae e];exact ae jb
def YV{i:Nat}:∀(a:gV){s:(Nat->Rat)×fU},(∀t∈a,∀x∈t,x.k=-1\/0<=x.k/\x.k≠(i:Int))->(a.foldl ltS s).1 i=s.1 i
 |[],_,_=>rfl
 |t::a,s,h=>(YV a (s:=ltS s t) λu hu=>h u (by simp[hu])).trans (YU t (h t kc))
def aol{n:Nat}{cs:List C5}{a:gV}(ha:∀t∈a,∀x∈t,x.k=-1\/0<=x.k/\x.k<n){i:Nat}(hi:i∉jW a):jG (oq cs a).2 (i:Int)=0:=by
 show jG ((lsA cs a).2++[vO (jW a) (lsA cs a).1]) (i:Int)=_;rw[Ei,VD _ _ _ (F8 ha),ae hi];have h1:=VB a (s:=((λi:Nat=>(ix cs i).a.q),[])) (λt ht x hx=>by have:=ha t ht x hx;omega) i;have h2:=YV (i:=i) a (s:=((λi:Nat=>(ix cs i).a.q),[])) (λt ht x hx=>by
  rcases ha t ht x hx with h|h
  .exact .inl h
  .refine .inr ⟨h.1,λe=>hi ((uN ha).mpr ?_)⟩;unfold EH;refine cP.mpr ⟨t,ht,?_⟩;unfold memT;exact cP.mpr ⟨x,hx,by rw[e];simp⟩)
 have e:jG [] (i:Int)=0:=rfl;dsimp only at h1 h2;rw[e]at h1;unfold lsA;grind
def atl{n:Nat}{l:fU}(hN:Kq l)(hI:InL n l):aB n (λc=>jG l (c:Int))<=jw l:=by
 induction l with
 |nil=>show aB n (λ_=>(0:Rat))<=0;rw[bK λ_ _=>rfl];exact aR
 |cons t l ih=>
  have h1:=ih hN.tl.2 λu hu=>hI u (by simp[hu])
  have h2:=acB (hI t kc)
  have h3:=wG hN.tl.1 (-1)
  have e:aB n (λc=>jG (t::l) (c:Int))=aB n (λc=>fZ t (c:Int))+aB n λc=>jG l (c:Int):=by rw[<-dB];rfl
  rw[e]
  show _<=aV t+jw l
  grind
theorem zy{l:fU}(h:Kq l):0<=jw l:=by
 induction l with
 |nil=>exact aR
 |cons u l ih=>show 0<=aV u+jw l;have:=ih h.tl.2;have:=yJ h.tl.1;grind
def PI{l:fU}(h:Kq l):∀{m:Rat},jw l<=m->ji l m=jw l:=by
 induction l with
 |nil=>exact λ_=>rfl
 |cons t l ih=>
  intro m hm
  have hm:aV t+jw l<=m:=hm
  have h1:=zy h.tl.2
  show(if m<aV t then m else aV t+ji l (m-aV t))=aV t+jw l
  rw[ae kd,ih h.tl.2 kd]
section
variable {A:Nat} {e:yV} {x:Rat}
def aom(h:O1 A e){p:List Nat×fU}(hp:p∈(cO e).ps):∃a,p=oq e.c a/\∀t∈a,∀x∈t,x.k=-1\/0<=x.k/\x.k<e.c.length:=by obtain⟨a,ha,rfl⟩:=cB.mp hp;obtain⟨j,hj,rfl⟩:=aL ha;exact⟨_,rfl,λt ht x hx=>((h.a j hj).p t (by rw[dX hj];exact ht) x hx).1⟩
def ads(h:O1 A e)(hN:AB (cO e))(hx:0<=x){c:Nat}(hc:c<e.c.length):y8 (cO e) x c<=(ix e.c c).a.q:=by obtain⟨r,hr,er⟩:=h.r c hc;have:=aok hN.rk (c:Int) hx;rw[show jG (cO e).rk (c:Int)=_ from ath hc hr er]at this;exact this
def aon(h:O1 A e)(hN:AB (cO e))(hI:InE e.c.length (cO e))(hx:0<=x):aB e.c.length (rX (cO e) x)+(EF (x-nM e e.c.length) 0+Zd (cO e) x)=x:=by
 have hp:∀p∈(cO e).ps,kL (cO e) x p-ji p.2 (kL (cO e) x p)=0:=λp hp=>by
  have hi:=hI.ps p hp;have hnn:=hN.ps p hp;have hnd:p.1.Nodup:=by
   have:=hI.dis;clear hi hnn;revert hp;generalize (cO e).ps=ps at this;induction ps with
   |nil=>intro hp;cases hp
   |cons u ps ih=>
    intro hp
    rw[fm,eV]at this
    rcases bz.mp hp with rfl|hp
    .exact this.1
    .exact ih this.2.1 hp
  have hlt:∀i∈p.1,i<e.c.length:=λi hi=>hI.mem i (bA.mpr ⟨p,hp,hi⟩);have h1:kL (cO e) x p<=aI p.1 λi=>(ix e.c i).a.q:=uo λi hi=>ads h hN hx (hlt i hi);have h2:=Jz (n:=e.c.length) (λi=>(ix e.c i).a.q) p.1 hnd hlt;have h3:aB e.c.length (λi=>if i∈p.1 then(ix e.c i).a.q else 0)<=aB e.c.length λi=>jG p.2 (i:Int):=nP λi _=>by
   obtain⟨a,rfl,ha⟩:=aom h hp;by_cases hm:i∈jW a
   .rw[ab (show i∈(oq e.c a).1 from hm),akq ha hm];exact aR
   .rw[ae (show¬i∈(oq e.c a).1 from hm),aol ha hm];exact aR
  have h4:=atl hnn hi;rw[Oo (mX hN hx p) kd];grind
 have h1:=Lr hN hI hx;rw[gZ hp]at h1;have h2:jw (cO e).rk=nM e e.c.length:=ati λc hc=>h.r c hc;have h3:ji (cO e).rk x=x-EF (x-nM e e.c.length) 0:=by
  rw[O4];by_cases hle:x<=nM e e.c.length
  .rw[Oo hx (by rw[h2];exact hle)];grind[oD]
  .rw[PI hN.rk (by rw[h2];grind),h2];grind[oD]
 grind
end
def YW{W:Rat}{q:fD->Rat}:∀{t:List fD}{Q:Rat},t.Nodup->aI t (Aa W q Q t)=oD (Q+aI t q-W)-oD (Q-W)
 |[],Q,_=>by show(0:Rat)=oD (Q+0-W)-oD (Q-W);grind
 |a::t,Q,hn=>by
  rw[ga]at hn;show Aa W q Q (a::t) a+aI t (Aa W q Q (a::t))=oD (Q+(q a+aI t q)-W)-oD (Q-W);have e1:aI t (Aa W q Q (a::t))=aI t (Aa W q (Q+q a) t):=dO λb hb=>by rw[JG,ae (λe:a=b=>hn.1 (by rw[e];exact hb)),fY]
  rw[e1,YW hn.2,JG,ab rfl,Ep hn.1];rw[show Q+(q a+aI t q)=Q+q a+aI t q by grind];grind
def adt{α β:Type}(f:α->List β):∀{ps:List α},(ps.flatMap f).Nodup->∀p∈ps,(f p).Nodup
 |[],_,_,h=>by cases h
 |u::ps,hn,p,hp=>by
  rw[fm,eV]at hn;rcases bz.mp hp with rfl|hp
  .exact hn.1
  .exact adt f hn.2.1 p hp
def PK{α:Type}(u v:List α)(f:α->Rat):aI (u++v) f=aI u f+aI v f:=by
 induction u with
 |nil=>show aI v f=0+aI v f;grind
 |cons a u ih=>show f a+aI (u++v) f=f a+aI u f+aI v f;rw[ih];grind
def VE{α:Type}[Inhabited α](l:List α)(f:α->Rat):aI l f=aB l.length λi=>f (ix l i):=by
 have key:∀k,k<=l.length->aI (l.take k) f=aB k λi=>f (ix l i):=λk=>by
  induction k with
  |zero=>intro _;rfl
  |succ k ih=>
   intro h
   rw[bC jb,PK,ih jb]
   show _+(f (ix l k)+0)=_+f (ix l k)
   rw[de]
 have h:=key l.length jp;rwa[bP]at h
def adu{α β:Type}(m:α->β)(f:β->Rat)(l:List α):aI (l.map m) f=aI l λa=>f (m a):=by
 induction l with
 |nil=>rfl
 |cons a l ih=>show f (m a)+aI (l.map m) f=f (m a)+aI l _;rw[ih]
section
variable {n:Nat} {g:GL} {x:Nat→Rat}
end
section
variable {A:Nat} {e:yV} {x:Rat}
end
def YX{α β:Type}{f:α->List β}{v:α->Rat}{b:β}:∀{ps:List α},(ps.flatMap f).Nodup->(∀p∈ps,b∉f p->v p=0)->∀p∈ps,b∈f p->aI ps v=v p
 |[],_,_,_,h,_=>by cases h
 |u::ps,hn,hv,p,hp,hb=>by
  rw[fm,eV]at hn;show v u+aI ps v=v p;rcases bz.mp hp with rfl|hp
  .rw[gZ λq hq=>hv q (by simp[hq]) λhbq=>hn.2.2 b hb b (bA.mpr ⟨q,hq,hbq⟩) rfl];grind
  .rw[YX hn.2.1 (λq hq=>hv q (by simp[hq])) p hp hb,hv u kc λhbu=>hn.2.2 b hbu b (bA.mpr ⟨p,hp,hb⟩) rfl];grind
section
variable {n:Nat} {g:GL} {x y c:Nat→Rat}
def aoo(hg:JD n g)(hx:Nn n x)(hf:∀j,j<n->x j=c j+gG n g x j):aB n c=aB n (λi=>x i-aB (g.k i) (rX (g.e i) (x i)))+aB n (λi=>aB (g.k i) (Jy g x i))+aI g.ds (Qe g x):=by rw[<-aaJ hg x hx];exact aK λi hi=>by have:=hf i hi;grind
def akr{l:fD}(hl:l∉g.fA):l9 g x l=gq g x l:=by have:EM g x l=0:=gZ λd hd=>Ep λh=>hl (bA.mpr ⟨d,hd,h⟩);unfold l9;rw[this];grind
def aks(hg:JD n g){d:Rat×List fD}(hd:d∈g.ds):aI d.2 (l9 g x)=jC d.1 (aI d.2 (gq g x)):=by
 have hnd:=adt (λd:Rat×List fD=>d.2) hg.nodup;have h1:aI d.2 (EM g x)=aI d.2 (Aa d.1 (gq g x) 0 d.2):=dO λl hl=>YX (f:=λd:Rat×List fD=>d.2) (b:=l) (v:=λd=>Aa d.1 (gq g x) 0 d.2 l) hg.nodup (λ_ _ h=>Ep h) d hd hl;rw[YW (hnd d hd)]at h1;have h2:aI d.2 (l9 g x)=aI d.2 (gq g x)-aI d.2 (EM g x):=by rw[<-Ip];rfl
 have h3:=hg.pos d hd;rw[h2,h1];unfold oD jC;split<;>split<;>split<;>grind
end
section
variable {A:Nat} {e:yV} {x y:Rat}
end
end Go.Proofs.Ins
namespace Go.Proofs.Xe
open Go.RowKit Go.Proofs.Ins
def YZ{g:fP}(hV:VG g){i k:Nat}:EJ g i k=true↔(i,k)∈(aY g).fA:=by
 have e:(aY g).fA=g.d.flatMap λd=>d.l.map uX:=by show(g.d.map λd=>(d.w.q,d.l.map uX)).flatMap (·.2)=_;rw[gA]
 rw[e];unfold EJ;rw[RP];unfold nI;rw[cP];constructor
 .rintro⟨l,hl,he⟩;obtain⟨d,hd,hl⟩:=bA.mp hl;refine bA.mpr ⟨d,hd,cB.mpr ⟨l,hl,?_⟩⟩;simp at he;unfold uX;rw[he.1,he.2];rfl
 .intro h;obtain⟨d,hd,hl⟩:=bA.mp h;obtain⟨l,hl,he⟩:=cB.mp hl;refine⟨l,bA.mpr ⟨d,hd,hl⟩,?_⟩;obtain⟨j,hj,rfl⟩:=aL hd;rw[<-dX hj]at hl;obtain⟨m,hm,rfl⟩:=aL hl;obtain⟨a,b,e1,-,-⟩:=hV.l j hj m hm;rw[<-dX hm,e1]at he⊢;unfold uX at he;simp at he;simp[he]
def nrA(g:fP)(f:Nat->Nat->Rat)(i:Nat)(acc:List Rat):Nat->List Rat
 |0=>acc
 |k+1=>if(ix (ix g.e i).c k).h=.negSucc 0/\EJ g i k=false then nrA g f i acc k++[f i k]else nrA g f i acc k
def SS(g:fP)(f:Nat->Nat->Rat):Nat->List Rat
 |0=>[]
 |i+1=>nrA g f i (SS g f i) (ix g.e i).c.length
def Qv(g:fP)(f:Nat->Nat->Rat)(d:Nat):Nat->Rat
 |0=>0
 |j+1=>Qv g f d j+if holdL g.e (ix (ix g.d d).l j)=.negSucc 0 then f (ix (ix g.d d).l j).e.toNat (ix (ix g.d d).l j).k.toNat else 0
def nrD(g:fP)(f:Nat->Nat->Rat):Nat->List Rat
 |0=>SS g f g.e.length
 |d+1=>nrD g f d++[Qv g f d (ix g.d d).l.length]
def PL(g:fP)(f:Nat->Nat->Rat):List Rat:=nrD g f g.d.length
section
variable {g:fP} {f f' : Nat→Nat→Rat}
def adv(i:Nat)(acc:List Rat):∀k,aI (nrA g f i acc k) id=aI acc id+aB k λc=>if(ix (ix g.e i).c c).h=.negSucc 0/\EJ g i c=false then f i c else 0
 |0=>by show aI acc id=aI acc id+0;grind
 |k+1=>by
  have ih:=adv i acc k;unfold nrA;show _=aI acc id+(aB k _+if _ then _ else _)
  split
  .rw[PK,ih];show _+(f i k+0)=_;grind
  .rw[ih];grind
def adw:∀i,aI (SS g f i) id=aB i λi=>aB (ix g.e i).c.length λc=>if(ix (ix g.e i).c c).h=.negSucc 0/\EJ g i c=false then f i c else 0
 |0=>rfl
 |i+1=>by unfold SS;rw[adv,adw i];rfl
def adx:∀d,aI (nrD g f d) id=aI (SS g f g.e.length) id+aB d λd=>Qv g f d (ix g.d d).l.length
 |0=>by show aI (SS g f g.e.length) id=_+0;grind
 |d+1=>by
  show aI (nrD g f d++[_]) id=_+(aB d _+_)
  rw[PK,adx d];show _+(Qv g f d _+0)=_;grind
def ady(d:Nat):∀j,Qv g f d j=aB j λk=>if holdL g.e (ix (ix g.d d).l k)=.negSucc 0 then f (ix (ix g.d d).l k).e.toNat (ix (ix g.d d).l k).k.toNat else 0
 |0=>rfl
 |j+1=>by show Qv g f d j+_=aB j _+_;rw[ady d j]
variable {x y:Nat→Rat}
def aop(hz:GZ g){d:Nat}(hd:d<g.d.length):Qv g (λi c=>l9 (aY g) x (i,c)) d (ix g.d d).l.length=Qe (aY g) x ((ix g.d d).w.q,(ix g.d d).l.map uX):=by
 have hm:((ix g.d d).w.q,(ix g.d d).l.map uX)∈(aY g).ds:=cB.mpr ⟨_,iR hd,rfl⟩;rw[ady,<-VE (ix g.d d).l λl=>if holdL g.e l=.negSucc 0 then l9 (aY g) x (l.e.toNat,l.k.toNat)else 0];have h1:=anN hz _ hm;unfold Qe;rw[dO (g:=λl=>if KF (aY g) ((ix g.d d).w.q,(ix g.d d).l.map uX)=-1 then l9 (aY g) x (uX l)else 0) λl hl=>by have:=h1 (uX l) (cB.mpr ⟨l,hl,rfl⟩);rw[<-this];rfl]
 split
 .rw[<-aks (ai0 hz) hm,adu]
 .exact gZ λ_ _=>rfl
def aoq(hV:VG g)(i c:Nat):(if(ix (ix g.e i).c c).h=.negSucc 0/\EJ g i c=false then l9 (aY g) x (i,c)else 0)=Jy (aY g) x i c:=by
 unfold Jy;by_cases h1:EJ g i c=true
 .rw[ae (by rw[h1];simp),ae (λh=>h.1 ((YZ hV).mp h1))]
 .have h2:(i,c)∉(aY g).fA:=λh=>h1 ((YZ hV).mpr h);have h3:EJ g i c=false:=by simpa using h1
  by_cases h4:(ix (ix g.e i).c c).h=.negSucc 0
  .rw[ab ⟨h4,h3⟩,ab ⟨h2,h4⟩,akr h2]
  .rw[ae (λh=>h4 h.1),ae (λh=>h4 h.2)]
def atm(hz:GZ g)(hV:VG g):aI (PL g λi c=>l9 (aY g) x (i,c)) id=aB g.e.length (λi=>aB ((aY g).k i) (Jy (aY g) x i))+aI (aY g).ds (Qe (aY g) x):=by
 unfold PL;rw[adx,adw];congr 1
 .exact aK λi _=>aK λc _=>aoq hV i c
 .show _=aI (g.d.map λd=>(d.w.q,d.l.map uX)) _;rw[adu,VE];exact aK λd hd=>aop hz hd
end
end Go.Proofs.Xe
