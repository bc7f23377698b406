import Derived.Test.YthkggcakedkboaaGreatDoorYb36
set_option linter.all false
set_option maxRecDepth 100000
set_option maxHeartbeats 8000000
namespace Go.Proofs.Xe
open Go.RowKit Go.Proofs.Ins
def nV(M:Nat->Nat->Rat)(l:List Nat)(a b:Nat):Rat:=vI M l a b-if a=b then 1 else 0
def F9(M:Nat->Nat->Rat)(l:List Nat)(a b a' b':Nat):Rat:=if a'<a then nV M l a' b' else if a'=a/\b'<b then vI M l a' b' else 0
def anP(M:Nat->Nat->Rat)(l:List Nat)(a b:Nat):rE (rC (F9 M l a b)) a b (gK (vI M l a b))=rC (F9 M l a (b+1)):=by grind[rE,rC,F9]
def ajT{M:Nat->Nat->Rat}{l:List Nat}{a k i c:Nat}(hc:c<k)(ha:a<k):rE (rC (F9 M l a k)) a a (gK (vI M l a a-1)) i c=rC (F9 M l (a+1) 0) i c:=by grind[rE,rC,F9,nV]
def ao8{σ:St}(hW:WF σ){p:Nat->Prop}{mv iv:B}{n:Nat}{M:Nat->Nat->Rat}(hM:dR p σ.h mv n (λ_=>n) M)(hz2:∀j i,j<n->i<n->Sz (M j i))(hz3:∀i,i<n->Sz (M i i-1)){l:List Nat}(hl:Yr σ.h iv l)(hl1:l.length<=1000)(hln:∀i∈l,i<n):
  aC EN 110 [.c mv,.c iv] σ λr σ'=>(∃mb bs,r=.c (.sl mb 0 l.length (.ex l.length))/\σ.aj<=mb/\oH σ'.h mb l.length (rC (nV M l)) bs (mb+1) σ'.aj)/\Fr σ σ':=by
 refine aP (wX.o _ _) wX.h ?_
 unfold wX
 dsimp only
 have hlen:=hl.len
 have hFr:=Fr.refl hW
 have z1:=sz1
 simp(disch:=try exact jz) only[go_sem,z3,hlen]
 refine(Yj hW hl1).mono ?_
 rintro _ σ1 ⟨⟨bs,rfl,hX⟩,hf1⟩
 have hle1:=hf1.le
 have hnx1:=hX.l
 simp(disch:=try exact jz) only[go_sem,z3,hlen]
 refine aF (λx tm σ'=>∃a,x=l.length-a/\a<=l.length/\Tr.ah tm 0=.c mv/\Tr.ah tm 1=.c iv/\Tr.ah tm 5=.c (.sl σ.aj 0 l.length (.ex l.length))/\Tr.ah tm 13=.c iv/\Tr.ah tm 14=.c (.int .i64 (.ofNat l.length))/\Tr.ah tm 15=.c (.int .i64 (.ofNat a))
  /\oH σ'.h σ.aj l.length (rC (F9 M l a 0)) bs (σ.aj+1) σ1.aj/\Fr σ σ'/\σ1.aj<=σ'.aj) l.length ?_ ?_
 .refine⟨0,jb,jb,?_⟩
  simp(disch:=try exact jz) only[go_sem,z3,am]
  refine⟨?_,hf1,jp⟩
  have e:rC (F9 M l 0 0)=rC λ_ _=>0:=by grind[rC,F9]
  grind
 .rintro x tm σ' ⟨a,rfl,ha,t0,t1,t5,t13,t14,t15,hX,hf,hnx⟩
  simp(disch:=try exact jz) only[go_sem,z3,t0,t1,t5,t13,t14,t15,aG]
  refine aH (λhlt=>?_) (λhlt=>?_)
  .obtain⟨bi,oi,ci,rfl,Qo⟩:=hl.one jb
   have hld:=hf.ld hW (Qo a hlt)
   have hia:=hln _ (iZ hlt)
   obtain⟨bm,om,cm,T,rfl,-,ayk,hT⟩:=hM.at hia
   simp(disch:=try exact jz) only[go_sem,z3,t0,t1,t5,t13,t14,t15,hld,hlen]
   refine aF (λx tm σ2=>∃b,x=l.length-b/\b<=l.length/\Tr.ah tm 0=.c (.sl bm om n cm)/\Tr.ah tm 1=.c (.sl bi oi l.length ci)/\Tr.ah tm 5=.c (.sl σ.aj 0 l.length (.ex l.length))/\Tr.ah tm 6=.c (.int .i64 (.ofNat a))/\Tr.ah tm 7=.c (.int .i64 (.ofNat (at0 l a)))
    /\Tr.ah tm 13=.c (.sl bi oi l.length ci)/\Tr.ah tm 14=.c (.int .i64 (.ofNat l.length))/\Tr.ah tm 15=.c (.int .i64 (.ofNat a))/\Tr.ah tm 20=.c (.sl bi oi l.length ci)/\Tr.ah tm 21=.c (.int .i64 (.ofNat l.length))/\Tr.ah tm 22=.c (.int .i64 (.ofNat b))
    /\oH σ2.h σ.aj l.length (rC (F9 M l a b)) bs (σ.aj+1) σ1.aj/\Fr σ σ2/\σ1.aj<=σ2.aj) l.length ?_ ?_
   .refine⟨0,jb,jb,?_⟩
    simp(disch:=try exact jz) only[go_sem,z3,t0,t1,t5,t13,t14,t15,am]
    grind
   .rintro x Wn σ2 ⟨b,rfl,hb,t0,t1,t5,t6,t7,t13,t14,t15,t20,t21,t22,hX2,hf2,hnx2⟩
    have aaR:=Fr.refl hf2.wf
    obtain⟨q0,hR,-,-⟩:=hX2
    obtain⟨q1,g1,g2⟩:=hR.r a hlt
    have q1:σ2.h (bs a)=some ⟨cZ l.length (F9 M l a b a),none⟩:=q1
    unfold xW at q0
    simp(disch:=try exact jz) only[go_sem,z3,t0,t1,t5,t6,t7,t13,t14,t15,t20,t21,t22,aG]
    refine aH (λhlb=>?_) (λhlb=>?_)
    .have Yx:=hf2.ld hW (Qo b hlb)
     have hib:=hln _ (iZ hlb)
     obtain⟨bt,ot,ct,rfl,-,asM⟩:=aZ.at3 hT hib
     have asM:=hf2.ld hW asM
     have av5:=hf2.ld hW ayk
     simp(disch:=try exact jz) only[go_sem,z3,t0,t1,t5,t6,t7,t13,t14,t15,t20,t21,t22,Yx,asM,av5,ak q0,ak q1,aJ q1,q1]
     refine⟨l.length-(b+1),jb,b+1,rfl,jb,rfl,⟨(au _ _ _ _ jb).trans q0,?_,jb,jb⟩,fr,hnx2⟩
     rw[<-anP]
     refine hR.set hlt (cO λc _=>?_)
     unfold ji aO rC
     split<;>rfl
    .have:b=l.length:=jb
     subst this
     have hmm:=hM.at hia
     have z4:=hz2 _ _ hia hia
     have z5:=hz3 _ hia
     have e7:F9 M l a l.length a a=M (at0 l a) (at0 l a):=by unfold F9;rw[ae jb,ab ⟨rfl,hlt⟩];rfl
     have q1e:zH (cZ l.length (F9 M l a l.length a)) (0+a*3) 3 true=some (.agg [.bool (rn (M (at0 l a) (at0 l a))),.str (rs (M (at0 l a) (at0 l a))),.str (rd (M (at0 l a) (at0 l a)))]):=by rw[cQ,TU _ _ _ hlt,e7]
     simp(disch:=try exact jz) only[go_sem,z3,t0,t1,t5,t6,t7,t13,t14,t15,t20,t21,ak q0,ak q1,aJ q1,q1,e7]
     refine⟨l.length-(a+1),jb,a+1,rfl,jb,rfl,⟨(au _ _ _ _ jb).trans q0,?_,jb,jb⟩,fr,hnx2⟩
     refine(hR.set (x:=gK (M (at0 l a) (at0 l a)-1)) hlt (cO λc _=>?_)).congr λi _ c hc=>ajT hc hlt
     unfold ji aO rC
     split<;>rfl
  .have:a=l.length:=jb
   subst this
   simp(disch:=try exact jz) only[go_sem,z3,t5]
   refine⟨⟨_,bs,rfl,jp,⟨hX.o,?_,hX.b,jb⟩⟩,hf⟩
   refine(hX.r.congr λi hi c _=>?_).mono (λ_ _ _=>rfl) jp hnx
   unfold rC F9
   rw[ab hi]
structure jS(g:iw):Prop where
 n:g.e.length<=8
 bld:Yb 60 g
 sm:ZY 134217728 g
 z:NP g=0
 k6:∀i,i<g.e.length->kE g.e i<=6
 ed:∀i,i<g.e.length->ED 60 60 (kE g.e i) (bY (ix g.e i))
 eb:∀i,i<g.e.length->EB (kE g.e i) (bY (ix g.e i))
 er:∀i,i<g.e.length->dH (bY (ix g.e i)).rk<=48/\(bY (ix g.e i)).rk.length<=8/\(bY (ix g.e i)).ps.length<=2/\∀p∈(bY (ix g.e i)).ps,dH p.2<=28/\p.2.length<=4
 cap:∀i,i<g.e.length->∀k,pR 60 60 (ix (ix g.e i).c k).a.q
 hold:∀i,i<g.e.length->∀c,c<kE g.e i->(ix (ix g.e i).c c).h=.negSucc 0\/∃hh:Nat,(ix (ix g.e i).c c).h=.ofNat hh/\hh<g.e.length
 m:∀i,i<g.e.length->(ix g.e i).m.fits 1000000/\pR 60 60 (ix g.e i).m.q
 d3:g.d.length<=3
 d:∀d,d<g.d.length->(ix g.d d).l.length<=4/\(ix g.d d).w.fits 1000000/\pR 60 60 (ix g.d d).w.q
def ayl:(60:Rat)<=uQ:=by
 have h:((60:Nat):Rat)<=uQ:=by unfold uQ;grind
 exact h
def pR.mn{A:Nat}{U V q:Rat}(h:pR A U q)(hUV:U<=V):pR A V q:=⟨h.1,h.2.1,cL h.2.2 hUV⟩
def xI.mn{P Q:Rat->Prop}(hPQ:∀q,P q->Q q){n:Nat}{l:fP}(h:xI P n l):xI Q n l:=λt ht p hp=>⟨(h t ht p hp).1,hPQ _ (h t ht p hp).2⟩
def ED.mn{A n:Nat}{U V:Rat}{e:fA}(h:ED A U n e)(hUV:U<=V):ED A V n e:=⟨xI.mn (λ_ h=>pR.mn h hUV) h.rk,λp hp=>xI.mn (λ_ h=>pR.mn h hUV) (h.ps p hp)⟩
def ED.uq{A n:Nat}{e:fA}(h:ED A 60 n e):ED A uQ n e:=h.mn ayl
def Yy{n k:Nat}{l:fP}{m:Rat}(h:xI (λq=>dX 60 q/\0<=q/\q<=60) n l)(h0:0<=m)(hk:dH l<=k)(h1:1<=k):wz 60 l m<=3600*k:=by
 unfold wz;split
 .next hf=>
  have ht:=gy hf;have h2:=X8 (h _ ht);have h3:=Ei ht;obtain⟨e,-⟩:=UM (A:=60) jj (Dp (h.D _ ht)) (Aa h0 hf);generalize aT (ix l (dP l m))=s at*;refine OT ?_;have e60:((60:Nat):Rat)=60:=rfl;have e18:((3600:Nat):Rat)=3600:=rfl;have h4:((ix l (dP l m)).length:Rat)<=(k:Rat):=bo.mpr jb;grind
 .omega
def Yz{n k:Nat}{m:Rat}{e:fA}(h:ED 60 60 n e)(h0:0<=m)(h1:1<=k):∀{l:List (List Nat×fP)},(∀p∈l,p∈e.ps/\dH p.2<=k)->aeV 60 e m l<=(3600*k)^l.length
 |[],_=>cU 1
 |p::l,hl=>by unfold aeV;rw[bO,eh,eo];exact cI (Yz h h0 h1 λq hq=>hl q (by simp[hq])) (Yy (h.ps p (hl p kc).1) (l7 h.nn h0 p) (hl p kc).2 h1)
def aa5{D b:Nat}(h0:0<D)(h:D<=2^b)(hb:b<=200000000):Bv D:=by refine⟨h0,da h (aE acW (bB jj ?_))⟩;unfold dK;omega
def eB:Nat:=408
theorem YB:eB=408:=rfl
def gE(g:iw)(x:Nat->Rat):Nat:=OQ g.e.length λi=>BD 60 (bY (ix g.e i)) (x i)
section
variable {g:iw} {B b:Nat} {x:Nat→Rat}
def jS.cur(h:jS g){i:Nat}(hi:i<g.e.length){y:Rat}(hy:0<=y):0<BD 60 (bY (ix g.e i)) y/\BD 60 (bY (ix g.e i)) y<=2^51:=by
 have hE:=h.ed i hi;obtain⟨h1,-,h2,h3⟩:=h.er i hi;refine⟨Iq jj hE hy,?_⟩;have a:=Yy hE.rk hy h1 jj;have b:=Yz (k:=28) hE hy jj (l:=(bY (ix g.e i)).ps) λp hp=>⟨hp,(h3 p hp).1⟩
 have c:(3600*28)^(bY (ix g.e i)).ps.length<=(3600*28)^2:=bB jj h2;exact av (cI a (av b c)) jj
def jS.gE(h:jS g)(hx:∀i,i<g.e.length->0<=x i):0<Xe.gE g x/\Xe.gE g x<=2^eB:=by refine⟨Rt λi hi=>(h.cur hi (hx i hi)).1,?_⟩;have h1:=X7 (n:=g.e.length) (k:=2^51) λi hi=>(h.cur hi (hx i hi)).2;refine av h1 ?_;rw[<-Nat.pow_mul];exact yN (by have:=h.n;grind[YB])
def Pv(x:Nat->Rat){i:Nat}(hi:i<g.e.length):BD 60 (bY (ix g.e i)) (x i)∣Xe.gE g x:=Ru (f:=λi=>BD 60 (bY (ix g.e i)) (x i)) hi
def jS.dok(h:jS g)(hB:0<B)(hb:B<=2^b)(hb2:b<=199000000)(hx:∀i,i<g.e.length->0<=x i):Bv (B*Xe.gE g x):=
 aa5 (b:=b+eB) (cw hB (h.gE hx).1) (oJ hb (h.gE hx).2) (by grind[YB])
def ajU{q:Rat}(h:pR 60 60 q):q<=vQ:=by have h1:=OE (k:=60) jj;grind
def Px{f:Nat->Rat}(hf:∀k,pR 60 60 (f k)):∀n,dX 60 (aB n f)/\0<=aB n f/\aB n f<=(n:Rat)*60
 |0=>⟨dX.zero _,aM,by show(0:Rat)<=((0:Nat):Rat)*60;simp⟩
 |n+1=>by obtain⟨h1,h2,h3⟩:=Px hf n;obtain⟨k1,k2,k3⟩:=hf n;have e:((n+1:Nat):Rat)=(n:Rat)+1:=gL _ _;exact⟨h1.add k1,by unfold aB;grind,by rw[e];unfold aB;grind⟩
def jS.JH(h:jS g):IV g.e.length (bC g):=arN (Ir h.z)
def jS.nn(h:jS g){i:Nat}(hi:i<g.e.length):zU (bY (ix g.e i)):=(h.ed i hi).nn
def jS.mg(h:jS g)(hB0:0<B)(h6:60∣B)(hb:B<=2^b)(hb2:b<=199000000)(hx:∀i,i<g.e.length->SmB B (x i)):U5 (B*Xe.gE g x) g x:=by
 have hz:=Ir h.z;have hx0:∀i,i<g.e.length->0<=x i:=λi hi=>(hx i hi).2.1;have hD:=h.dok hB0 hb hb2 hx0;have hBD:B∣B*Xe.gE g x:=aR _ _;have h60:=bL h6 hBD;have hu:=tH;have hB:=h.bld;have hdv:∀i,i<g.e.length->B*BD 60 (bY (ix g.e i)) (x i)∣B*Xe.gE g x:=λi hi=>cH _ (Pv x hi);have hxZ:∀i,i<g.e.length->Zk (B*Xe.gE g x) 1 (x i):=λi hi=>nY hD hBD (hx i hi).1 (hx i hi).2.1 (hx i hi).v;have hcZ:∀{q:Rat},pR 60 60 q->Zk (B*Xe.gE g x) 1 q:=λhq=>nY hD h60 hq.1 hq.2.1 (ajU hq);have hlE:∀i,i<g.e.length->zU (bY (ix g.e i))/\InE (kE g.e i) (bY (ix g.e i)):=λi hi=>yK (hz.e i hi);have hq:∀i,i<g.e.length->∀c,c<kE g.e i->0<=gq (bC g) x (i,c)/\Zk (B*Xe.gE g x) 1 (gq (bC g) x (i,c)):=λi hi c hc=>by obtain⟨h1,h2⟩:=hlE i hi;have h3:=Jr h1 (hx i hi).2.1 c;have h4:=asy h1 h2 (hx i hi).2.1 hc;exact⟨h3,nY hD (hdv i hi) (aiz jj hB0 h6 (h.ed i hi) (hx i hi).1 (hx i hi).2.1 c) h3 (cL h4 (hx i hi).v)⟩
 have hr:∀i c,Zk (B*Xe.gE g x) 5000 (Dz (bC g) x (i,c)):=λi c=>by
  have h3:=h.d3;have key:∀j,j<=g.d.length->Zk (B*Xe.gE g x) (j*44) (U2 g x j (i,c)):=λj=>by
   induction j with
   |zero=>intro _;exact Zk.zero.mono (bw _)
   |succ j ih=>
    intro hj
    have hj':j<g.d.length:=jb
    rw[Rx x hj',cB]
    obtain⟨hl,-,hw⟩:=h.d j hj'
    have hlen:(dL g j).length=(ix g.d j).l.length:=df _
    refine(ih jb).add ((acT (K:=0) (M:=4) (hcZ hw) _ (λa ha=>?_) Zk.zero jb).mono jb)
    obtain⟨y,hy,rfl⟩:=cT.mp ha
    obtain⟨k,hk,rfl⟩:=aL hy
    rw[<-fD hk]
    obtain⟨e,c',h1,h2,h3⟩:=hB.lg j hj' k hk
    rw[h1]
    exact(hq e h2 c' h3).2
  rw[<-Ye];exact(key g.d.length jp).mono jb
 have hu5:=aja;have hv:=OE (k:=1000001) jj;have ev:((1000001:Nat):Rat)=1000001:=rfl;rw[ev]at hv;refine⟨⟨⟨hD,hB.n,hB.d,λi hi=>?_,λi hi=>by have:=h.k6 i hi;omega,λd hd=>⟨(h.d d hd).2.1,(h.d d hd).2.2.2.1,hcZ (h.d d hd).2.2⟩,λd hd=>⟨hB.l d hd,hB.lg d hd⟩,λi hi=>hq i hi,λi hi c _=>(hr i c).sz hD jb,h.JH.nodup⟩,λi _ c _=>hr i c,λi hi=>⟨(h.m i hi).1,hcZ (h.m i hi).2⟩,h.hold⟩,λi hi=>?_,λi hi c _=>?_⟩
 .have hk6:=h.k6 i hi;obtain⟨s1,s2,s3⟩:=Px (h.cap i hi) (kE g.e i);have h4:((kE g.e i:Nat):Rat)<=((6:Nat):Rat):=bo.mpr jb;have e6:((6:Nat):Rat)=6:=rfl;have hT:Zk (B*Xe.gE g x) 1 (nM (ix g.e i) (kE g.e i)):=nY hD h60 s1 s2 (by unfold nM;grind);exact⟨aiE hD h60 (h.ed i hi).uq (h.eb i hi),aiF jj hB0 h6 hD (hdv i hi) (h.ed i hi).uq (h.eb i hi) (hx i hi).1 (hx i hi).2.1 (hx i hi).v,hT.sz hD jb,((hxZ i hi).sub hT).sz hD jb⟩
 .exact aiG jj hB0 h6 hD (hdv i hi) (h.ed i hi).uq (h.eb i hi) (hx i hi).1 (hx i hi).2.1 (hx i hi).v
 .have h1:=qX (h.ed i hi).nn (hx i hi).2.1 c;have h2:=U9 (h.ed i hi).uq (h.eb i hi) (hx i hi).2.1 c;exact⟨h1,nY hD (bL (ic _ _) (hdv i hi)) (aiA jj (h.ed i hi) (hx i hi).2.1 c) h1 (cL h2 hv)⟩
def jS.map(h:jS g)(hB0:0<B)(h6:60∣B)(hb:B<=2^b)(hb2:b<=199000000)(hx:∀i,i<g.e.length->SmB B (x i)):asl 60 (B*Xe.gE g x) g x:=by have hD:=h.dok hB0 hb hb2 λi hi=>(hx i hi).2.1;have hu:=tH;exact⟨aa5 (b:=6) jj jj jj,h.bld,(h.mg hB0 h6 hb hb2 hx).A,h.sm,h.z,λi hi=>⟨(hx i hi).2.1,(nY hD (aR _ _) (hx i hi).1 (hx i hi).2.1 (hx i hi).v).sz hD jb⟩⟩
def jS.sub(h:jS g)(hx:∀i,i<g.e.length->0<=x i):Kq g.e.length (gM g.e.length (bC g) x):=(vH h.JH).sub hx
def jS.slD(h:jS g)(hx:∀i,i<g.e.length->0<=x i){i:Nat}(hi:i<g.e.length)(c:Nat):dX (Xe.gE g x) (xH (bY (ix g.e i)) (x i) c):=
 (aiA jj (h.ed i hi) (hx i hi) c).dvd (Pv x hi) (h.gE hx).1
def jS.mD(h:jS g)(hx:∀i,i<g.e.length->0<=x i){j i:Nat}(hi:i<g.e.length):dX (Xe.gE g x) (gM g.e.length (bC g) x j i):=by
 have hgk:=h.JH;have hgs:∀l:eX,l.1<g.e.length->dX (Xe.gE g x) (gs (bC g) x i l):=λl hl=>by
  unfold gs;split
  .exact h.slD hx hl l.2
  .exact dX.zero _
 unfold gM;refine dX.add (aaX λc _=>?_) (dX.sum λd hd=>?_)
 .grind[dX.zero]
 .have hl:=λl hl=>hgs l (rF hgk hd (l:=l) hl);grind[Go.Proofs.Xe.dX.sum,Go.Proofs.Ins.dM,Go.Proofs.Xe.dX.add,Go.Proofs.Xe.ajw,Go.Proofs.Xe.dX.zero,Go.Proofs.Ins.nT]
def jS.m01(h:jS g)(hx:∀i,i<g.e.length->0<=x i){j i:Nat}(hj:j<g.e.length)(hi:i<g.e.length):0<=gM g.e.length (bC g) x j i/\gM g.e.length (bC g) x j i<=1:=by have hM:=h.sub hx;exact⟨hM.nn j i hj hi,cL (Di (f:=λj=>gM g.e.length (bC g) x j i) hj λk hk=>hM.nn k i hk hi) (hM.le i hi)⟩
def Vg{D b K:Nat}{q:Rat}(hD:0<D)(hb:D<=2^b)(h:dX D q)(h0: -(K:Rat)<=q)(h1:q<=(K:Rat)):∃z:Int,q=(z:Rat)/(D:Rat)/\z.natAbs<=K*D:=by
 obtain⟨z,rfl⟩:=h;refine⟨z,rfl,?_⟩;have hD':=iG hD;have hp:=Pg hD;have e:(z:Rat)/(D:Rat)*(D:Rat)=(z:Rat):=by grind
 have h4:=bh h1 (eO hp);have h5:=bh h0 (eO hp);rw[e]at h4 h5;have e2: -(K:Rat)*(D:Rat)=((-((K*D:Nat):Int):Int):Rat):=by rw[Rat.intCast_neg];have:(((K*D:Nat):Int):Rat)=(K:Rat)*(D:Rat):=fw _ _;grind
 rw[<-fw]at h4;rw[e2]at h5;have h4:((z:Int):Rat)<=(((K*D:Nat):Int):Rat):=h4;have h4:=gx.mp h4;have h5:=gx.mp h5;omega
def Vh{D b k K:Nat}{q:Rat}(hD:0<D)(hb:D<=2^b)(h:dX D q)(hk:K<=2^k)(h0: -(K:Rat)<=q)(h1:q<=(K:Rat)):lJ (b+k) q:=by obtain⟨z,e,hz⟩:=Vg hD hb h h0 h1;exact⟨z,D,hD,av hb (yN jb),av hz (by rw[fT];exact oJ hk hb),e⟩
def jS.aym(h:jS g)(hx:∀i,i<g.e.length->0<=x i){l:List Nat}(hl:∀i∈l,i<g.e.length):DI l.length l.length eB (nV (gM g.e.length (bC g) x) l):=by
 obtain⟨p1,p2⟩:=h.gE hx;refine⟨Xe.gE g x,p1,p2,λa c ha hc=>?_⟩;have h1:=hl _ (iZ ha);have h2:=hl _ (iZ hc);have h3:=h.m01 hx h1 h2;have h4:=h.mD hx (j:=at0 l a) h2;have e1:((1:Nat):Rat)=1:=rfl;have hone:dX (Xe.gE g x) (1:Rat):=⟨Xe.gE g x,by have:=iG p1;have e:(((Xe.gE g x:Nat):Int):Rat)=((Xe.gE g x:Nat):Rat):=rfl;grind⟩
 have hd:dX (Xe.gE g x) (nV (gM g.e.length (bC g) x) l a c):=by unfold nV vI;refine h4.sub ?_;grind[dX.zero]
 obtain⟨z,e,hz⟩:=Vg (K:=1) p1 p2 hd (by grind[nV,vI]) (by grind[nV,vI]);grind
end
end Go.Proofs.Xe
namespace Go.Proofs.Ins
open Go.Proofs.Xe
def anQ{l:fP}(h:Jm l)(c:Int):0<=iU l c:=by
 induction l with
 |nil=>exact aM
 |cons t l ih=>
  have:=ih h.tl.2
  have:=vY h.tl.1 c
  show 0<=dY t c+iU l c
  grind
def ac2{l:fP}(h:Jm l)(c:Int):∀{m:Rat},0<=m->fZ l m c<=iU l c:=by
 induction l with
 |nil=>exact λ_=>aM
 |cons t l ih=>
  intro m hm
  have h1:=vY h.tl.1 c
  have h2:=anQ h.tl.2 c
  show(if m<aT t then dY t c*(m/aT t)else dY t c+fZ l (m-aT t) c)<=dY t c+iU l c
  split
  .next hlt=>
   have h3:m/aT t<=1:=xC kd kd
   have h4:=cW h3 h1
   grind
  .have:=ih h.tl.2 (m:=m-aT t) kd
   grind
def Py(t u:dJ)(c:Int):dY (t++u) c=dY t c+dY u c:=by
 induction t with
 |nil=>show dY u c=0+dY u c;grind
 |cons p t ih=>show(if p.1=c then p.2 else 0)+dY (t++u) c=(if p.1=c then p.2 else 0)+dY t c+dY u c;rw[ih];grind
def ajV(t u:dJ):aT (t++u)=aT t+aT u:=by
 induction t with
 |nil=>show aT u=0+aT u;grind
 |cons p t ih=>show p.2+aT (t++u)=p.2+aT t+aT u;rw[ih];grind
def YC(f:Nat->dJ)(c:Int)(l:List Nat):iU (l.map f) c=aI l λr=>dY (f r) c:=by
 induction l with
 |nil=>rfl
 |cons a l ih=>show dY (f a) c+iU (l.map f) c=dY (f a) c+aI l _;rw[ih]
def ajW(f:Nat->dJ)(l:List Nat):jr (l.map f)=aI l λr=>aT (f r):=by
 induction l with
 |nil=>rfl
 |cons a l ih=>show aT (f a)+jr (l.map f)=aT (f a)+aI l _;rw[ih]
def IQ(cs:List C5)(r c:Nat):∀k,dY (zD cs r k) (c:Int)=if c<k/\(ix cs c).r=(r:Int)then(ix cs c).a.q else 0
 |0=>by rw[ae jb];rfl
 |k+1=>by
  show dY (zD cs r k++_) _=_;rw[Py,IQ cs r c k];by_cases e:c=k
  .subst e;by_cases h:(ix cs c).r=(r:Int)
   .rw[ae jb,ab h,ab ⟨jb,h⟩];show 0+((if((c:Nat):Int)=(c:Int)then _ else 0)+0)=_;rw[ab rfl];grind
   .rw[ae jb,ae h,ae (λe=>h e.2)];show(0:Rat)+0=0;grind
  .have h0:dY (if(ix cs k).r=(r:Int)then [((k:Int),(ix cs k).a.q)]else []) (c:Int)=0:=by
    split
    .show(if(k:Int)=(c:Int)then _ else(0:Rat))+0=0;rw[ae jb];grind
    .rfl
   rw[h0];by_cases h:c<k/\(ix cs c).r=(r:Int)
   .rw[ab h,ab ⟨jb,h.2⟩];grind
   .rw[ae h,ae (λe=>h ⟨jb,e.2⟩)];grind
def RZ(f:Nat->Rat):aI (List.range 8) f=f 0+(f 1+(f 2+(f 3+(f 4+(f 5+(f 6+f 7)))))):=by show f 0+(f 1+(f 2+(f 3+(f 4+(f 5+(f 6+(f 7+0)))))))=_;rw[dC]
def asO{cs:List C5}{c r:Nat}(hc:c<cs.length)(hr:r<8)(e:(ix cs c).r=(r:Int)):iU (Kt cs cs.length) (c:Int)=(ix cs c).a.q:=by unfold Kt;rw[YC,RZ];simp only[IQ,hc,am,e];have:r=0\/r=1\/r=2\/r=3\/r=4\/r=5\/r=6\/r=7:=jb;rcases this with rfl|rfl|rfl|rfl|rfl|rfl|rfl|rfl<;>simp<;>grind
def ac3(cs:List C5)(r:Nat):∀k,aT (zD cs r k)=aB k λc=>if(ix cs c).r=(r:Int)then(ix cs c).a.q else 0
 |0=>rfl
 |k+1=>by
  show aT (zD cs r k++_)=aB k _+_;rw[ajV,ac3 cs r k];split
  .next h=>show _+((ix cs k).a.q+0)=aB k _+(if _ then _ else _);rw[ab h,dC]
  .next h=>show _+0=aB k _+(if _ then _ else _);rw[ae h]
def asP{cs:List C5}(h:∀c,c<cs.length->∃r:Nat,r<8/\(ix cs c).r=(r:Int)):jr (Kt cs cs.length)=aB cs.length λc=>(ix cs c).a.q:=by unfold Kt;rw[ajW,RZ];simp only[ac3];simp only[<-dF];refine aK λc hc=>?_;obtain⟨r,hr,e⟩:=h c hc;rw[e];have:r=0\/r=1\/r=2\/r=3\/r=4\/r=5\/r=6\/r=7:=jb;rcases this with rfl|rfl|rfl|rfl|rfl|rfl|rfl|rfl<;>simp<;>grind
def asQ{s:(Nat->Rat)×dJ}{x:Ai}(hx:x.k=-1\/0<=x.k)(i:Nat):(Lj s x).1 i+dY (Lj s x).2 (i:Int)=s.1 i+dY s.2 (i:Int):=by
 unfold Lj;by_cases e:x.k=-1
 .rw[ab e];show s.1 i+dY (s.2++[((-1:Int),x.a.q)]) (i:Int)=_;rw[Py];show s.1 i+(dY s.2 i+((if(-1:Int)=(i:Int)then _ else 0)+0))=_;rw[ae jb];grind
 .rw[ae e];dsimp only;rw[Py];generalize (if x.b=true then jP (s.1 x.k.toNat) x.a.q else s.1 x.k.toNat)=v;show(if i=x.k.toNat then s.1 i-v else s.1 i)+(dY s.2 i+((if x.k=(i:Int)then v else 0)+0))=_;by_cases h:i=x.k.toNat
  .rw[ab h,ab jb];grind
  .rw[ae h,ae jb];grind
def ac4:∀(t:Ht){s:(Nat->Rat)×dJ},(∀x∈t,x.k=-1\/0<=x.k)->∀i:Nat,(t.foldl Lj s).1 i+dY (t.foldl Lj s).2 (i:Int)=s.1 i+dY s.2 (i:Int)
 |[],_,_,_=>rfl
 |x::t,s,h,i=>(ac4 t (s:=Lj s x) (λy hy=>h y (by simp[hy])) i).trans (asQ (h x kc) i)
def Vj:∀(a:ig){s:(Nat->Rat)×fP},(∀t∈a,∀x∈t,x.k=-1\/0<=x.k)->∀i:Nat,(a.foldl ltS s).1 i+iU (a.foldl ltS s).2 (i:Int)=s.1 i+iU s.2 (i:Int)
 |[],_,_,_=>rfl
 |t::a,s,h,i=>by refine(Vj a (s:=ltS s t) (λu hu=>h u (by simp[hu])) i).trans ?_;show(t.foldl Lj (s.1,[])).1 i+iU (s.2++[(t.foldl Lj (s.1,[])).2]) (i:Int)=_;rw[Ee];have:=ac4 t (s:=(s.1,[])) (h t kc) i;have e:dY [] (i:Int)=0:=rfl;dsimp only at this;rw[e]at this;grind
def Vk(f:Nat->Rat)(i:Nat):∀ms:List Nat,ms.Nodup->dY (vG ms f) (i:Int)=if i∈ms then f i else 0
 |[],_=>by rw[ae kc];rfl
 |a::ms,h=>by
  rw[gm]at h;show(if(a:Int)=(i:Int)then f a else 0)+dY (vG ms f) i=_;rw[Vk f i ms h.2];by_cases e:i=a
  .subst e;rw[ab rfl,ae h.1,ab kc];grind
  .rw[ae jb];by_cases h2:i∈ms
   .rw[ab h2,ab (by simp[h2])];grind
   .rw[ae h2,ae (by simp[e,h2])];grind
def YD{n:Nat}{cs:List C5}{a:ig}(ha:∀t∈a,∀x∈t,x.k=-1\/0<=x.k/\x.k<n){i:Nat}(hi:i∈jH a):iU (nK cs a).2 (i:Int)=(ix cs i).a.q:=by show iU ((lsA cs a).2++[vG (jH a) (lsA cs a).1]) (i:Int)=_;rw[Ee,Vk _ _ _ (FU ha),ab hi];have:=Vj a (s:=((λi:Nat=>(ix cs i).a.q),[])) (λt ht x hx=>by have:=ha t ht x hx;omega) i;have e:iU [] (i:Int)=0:=rfl;dsimp only at this;rw[e]at this;unfold lsA;grind
def YE{i:Nat}:∀(t:Ht){s:(Nat->Rat)×dJ},(∀x∈t,x.k=-1\/0<=x.k/\x.k≠(i:Int))->(t.foldl Lj s).1 i=s.1 i
 |[],_,_=>rfl
 |x::t,s,h=>by
  refine(YE t (s:=Lj s x) λy hy=>h y (by simp[hy])).trans ?_;have hx:=h x kc;unfold Lj;by_cases e:x.k=-1
  .rw[ab e]
  .rw[ae e];exact ae jb
def YF{i:Nat}:∀(a:ig){s:(Nat->Rat)×fP},(∀t∈a,∀x∈t,x.k=-1\/0<=x.k/\x.k≠(i:Int))->(a.foldl ltS s).1 i=s.1 i
 |[],_,_=>rfl
 |t::a,s,h=>(YF a (s:=ltS s t) λu hu=>h u (by simp[hu])).trans (YE t (h t kc))
def ac5{n:Nat}{cs:List C5}{a:ig}(ha:∀t∈a,∀x∈t,x.k=-1\/0<=x.k/\x.k<n){i:Nat}(hi:i∉jH a):iU (nK cs a).2 (i:Int)=0:=by
 show iU ((lsA cs a).2++[vG (jH a) (lsA cs a).1]) (i:Int)=_;rw[Ee,Vk _ _ _ (FU ha),ae hi];have h1:=Vj a (s:=((λi:Nat=>(ix cs i).a.q),[])) (λt ht x hx=>by have:=ha t ht x hx;omega) i;have h2:=YF (i:=i) a (s:=((λi:Nat=>(ix cs i).a.q),[])) (λt ht x hx=>by
  rcases ha t ht x hx with h|h
  .exact .inl h
  .refine .inr ⟨h.1,λe=>hi ((uG ha).mpr ?_)⟩;unfold NK;refine fq.mpr ⟨t,ht,?_⟩;unfold memT;exact fq.mpr ⟨x,hx,by rw[e];simp⟩)
 have e:iU [] (i:Int)=0:=rfl;dsimp only at h1 h2;rw[e]at h1;unfold lsA;grind
def asR{n:Nat}{l:fP}(hN:Jm l)(hI:InL n l):aB n (λc=>iU l (c:Int))<=jr l:=by
 induction l with
 |nil=>show aB n (λ_=>(0:Rat))<=0;rw[bI λ_ _=>rfl];exact aM
 |cons t l ih=>
  have h1:=ih hN.tl.2 λu hu=>hI u (by simp[hu])
  have h2:=ab9 (hI t kc)
  have h3:=vY hN.tl.1 (-1)
  have e:aB n (λc=>iU (t::l) (c:Int))=aB n (λc=>dY t (c:Int))+aB n λc=>iU l (c:Int):=by rw[<-dF];rfl
  rw[e]
  show _<=aT t+jr l
  grind
theorem y7{l:fP}(h:Jm l):0<=jr l:=by
 induction l with
 |nil=>exact aM
 |cons u l ih=>show 0<=aT u+jr l;have:=ih h.tl.2;have:=yG h.tl.1;grind
def Pz{l:fP}(h:Jm l):∀{m:Rat},jr l<=m->jg l m=jr l:=by
 induction l with
 |nil=>exact λ_=>rfl
 |cons t l ih=>
  intro m hm
  have hm:aT t+jr l<=m:=hm
  have h1:=y7 h.tl.2
  show(if m<aT t then m else aT t+jg l (m-aT t))=aT t+jr l
  rw[ae kd,ih h.tl.2 kd]
section
variable {A:Nat} {e:zC} {x:Rat}
def ac6(h:FX A e){p:List Nat×fP}(hp:p∈(bY e).ps):∃a,p=nK e.c a/\∀t∈a,∀x∈t,x.k=-1\/0<=x.k/\x.k<e.c.length:=by obtain⟨a,ha,rfl⟩:=cT.mp hp;obtain⟨j,hj,rfl⟩:=aL ha;exact⟨_,rfl,λt ht x hx=>((h.a j hj).p t (by rw[fD hj];exact ht) x hx).1⟩
def LV(h:FX A e)(hN:zU (bY e))(hx:0<=x){c:Nat}(hc:c<e.c.length):xP (bY e) x c<=(ix e.c c).a.q:=by obtain⟨r,hr,er⟩:=h.r c hc;have:=ac2 hN.rk (c:Int) hx;rw[show iU (bY e).rk (c:Int)=_ from asO hc hr er]at this;exact this
def anR(h:FX A e)(hN:zU (bY e))(hI:InE e.c.length (bY e))(hx:0<=x){c:Nat}(hc:c<e.c.length):rX (bY e) x c<=(ix e.c c).a.q:=by
 have hA:=(h.c c).2.1;have hp:∀p∈(bY e).ps,fZ p.2 (kD (bY e) x p) c<=if c∈p.1 then(ix e.c c).a.q else 0:=λp hp=>by
  have h1:=ac2 (hN.ps p hp) (c:Int) (l7 hN hx p);obtain⟨a,rfl,ha⟩:=ac6 h hp;by_cases hm:c∈jH a
  .rw[YD ha hm]at h1;rw[ab (show c∈(nK e.c a).1 from hm)];exact h1
  .rw[ac5 ha hm]at h1;rw[ae (show¬c∈(nK e.c a).1 from hm)];exact h1
 have h2:=nS hp;have h3:∀ps:List (List Nat×fP),(ps.flatMap (·.1)).Nodup->aI ps (λp=>if c∈p.1 then(ix e.c c).a.q else 0)=if c∈ps.flatMap (·.1)then(ix e.c c).a.q else 0:=λps=>by
  induction ps with
  |nil=>exact λ_=>rfl
  |cons p ps ih=>
   intro hn
   rw[eL,eZ]at hn
   show(if c∈p.1 then _ else _)+aI ps _=_
   rw[ih hn.2.1,eL]
   by_cases e1:c∈p.1
   .rw[ab e1,ae (λe2=>hn.2.2 c e1 c e2 rfl),ab (bA.mpr (.inl e1))];grind
   .rw[ae e1]
    by_cases e2:c∈ps.flatMap (·.1)
    .rw[ab e2,ab (bA.mpr (.inr e2))];grind
    .rw[ae e2,ae (λe=>(bA.mp e).elim e1 e2)];grind
 rw[h3 _ hI.dis]at h2;have h4:=LV h hN hx hc;have h5:=Oj (bY e) c;unfold rX;by_cases hq:pooled (bY e) c=true
 .rw[ab (h5.mp hq)]at h2;rw[ab hq];grind
 .rw[ae (λe=>hq (h5.mpr e))]at h2;rw[ae hq];grind
def anS(h:FX A e)(hN:zU (bY e))(hI:InE e.c.length (bY e))(hx:0<=x):aB e.c.length (rX (bY e) x)+(Ey (x-nM e e.c.length) 0+YV (bY e) x)=x:=by
 have hp:∀p∈(bY e).ps,kD (bY e) x p-jg p.2 (kD (bY e) x p)=0:=λp hp=>by
  have hi:=hI.ps p hp;have hnn:=hN.ps p hp;have hnd:p.1.Nodup:=by
   have:=hI.dis;clear hi hnn;revert hp;generalize (bY e).ps=ps at this;induction ps with
   |nil=>intro hp;cases hp
   |cons u ps ih=>
    intro hp
    rw[eL,eZ]at this
    rcases bz.mp hp with rfl|hp
    .exact this.1
    .exact ih this.2.1 hp
  have hlt:∀i∈p.1,i<e.c.length:=λi hi=>hI.mem i (cF.mpr ⟨p,hp,hi⟩);have h1:kD (bY e) x p<=aI p.1 λi=>(ix e.c i).a.q:=nS λi hi=>LV h hN hx (hlt i hi);have h2:=Js (n:=e.c.length) (λi=>(ix e.c i).a.q) p.1 hnd hlt;have h3:aB e.c.length (λi=>if i∈p.1 then(ix e.c i).a.q else 0)<=aB e.c.length λi=>iU p.2 (i:Int):=nR λi _=>by
   obtain⟨a,rfl,ha⟩:=ac6 h hp;by_cases hm:i∈jH a
   .rw[ab (show i∈(nK e.c a).1 from hm),YD ha hm];exact aM
   .rw[ae (show¬i∈(nK e.c a).1 from hm),ac5 ha hm];exact aM
  have h4:=asR hnn hi;rw[Og (l7 hN hx p) kd];grind
 have h1:=KU hN hI hx;rw[iT hp]at h1;have h2:jr (bY e).rk=nM e e.c.length:=asP λc hc=>h.r c hc;have h3:jg (bY e).rk x=x-Ey (x-nM e e.c.length) 0:=by
  rw[OV];by_cases hle:x<=nM e e.c.length
  .rw[Og hx (by rw[h2];exact hle)];grind[nI]
  .rw[Pz hN.rk (by rw[h2];grind),h2];grind[nI]
 grind
end
def Vl{W:Rat}{q:eX->Rat}{l:eX}:∀{t:List eX}{Q:Rat},t.Nodup->(∀a∈t,0<=q a)->0<=xX W q Q t l/\xX W q Q t l<=if l∈t then q l else 0
 |[],_,_,_=>by rw[ae kc];exact⟨aM,aM⟩
 |a::t,Q,hn,hq=>by
  rw[gm]at hn;have h1:=hq a kc;obtain⟨i1,i2⟩:=Vl (W:=W) (q:=q) (l:=l) (t:=t) (Q:=Q+q a) hn.2 (λb hb=>hq b (by simp[hb]));rw[Em];have h2:0<=nI (Q+q a-W)-nI (Q-W)/\nI (Q+q a-W)-nI (Q-W)<=q a:=by unfold nI;constructor<;>split<;>split<;>grind
  by_cases e:a=l
  .subst e;rw[ae hn.1]at i2;rw[ab rfl,ab kc];grind
  .rw[ae e];by_cases e2:l∈t
   .rw[ab (List.mem_cons_of_mem _ e2)];rw[ab e2]at i2;grind
   .rw[ae (λh=>(bz.mp h).elim (λh=>e h.symm) e2)];rw[ae e2]at i2;grind
def YG{W:Rat}{q:eX->Rat}:∀{t:List eX}{Q:Rat},t.Nodup->aI t (xX W q Q t)=nI (Q+aI t q-W)-nI (Q-W)
 |[],Q,_=>by show(0:Rat)=nI (Q+0-W)-nI (Q-W);grind
 |a::t,Q,hn=>by
  rw[gm]at hn;show xX W q Q (a::t) a+aI t (xX W q Q (a::t))=nI (Q+(q a+aI t q)-W)-nI (Q-W);have e1:aI t (xX W q Q (a::t))=aI t (xX W q (Q+q a) t):=dV λb hb=>by rw[Em,ae (λe:a=b=>hn.1 (by rw[e];exact hb)),gH]
  rw[e1,YG hn.2,Em,ab rfl,LC hn.1];rw[show Q+(q a+aI t q)=Q+q a+aI t q by grind];grind
def Vm{α β:Type}(f:α->List β):∀{ps:List α},(ps.flatMap f).Nodup->∀p∈ps,(f p).Nodup
 |[],_,_,h=>by cases h
 |u::ps,hn,p,hp=>by
  rw[eL,eZ]at hn;rcases bz.mp hp with rfl|hp
  .exact hn.1
  .exact Vm f hn.2.1 p hp
def ac7{α:Type}(f:α->List eX)(v:Rat)(b:eX):∀{ps:List α},(ps.flatMap f).Nodup->aI ps (λp=>if b∈f p then v else 0)=if b∈ps.flatMap f then v else 0
 |[],_=>rfl
 |p::ps,hn=>by
  rw[eL,eZ]at hn;show(if b∈f p then _ else _)+aI ps _=_;rw[ac7 f v b hn.2.1,eL];by_cases e1:b∈f p
  .rw[ab e1,ae (λe2=>hn.2.2 b e1 b e2 rfl),ab (bA.mpr (.inl e1))];grind
  .rw[ae e1];by_cases e2:b∈ps.flatMap f
   .rw[ab e2,ab (bA.mpr (.inr e2))];grind
   .rw[ae e2,ae (λe=>(bA.mp e).elim e1 e2)];grind
def Vo{α:Type}{f:α->Rat}{a:α}:∀{l:List α},(∀b∈l,0<=f b)->a∈l->f a<=aI l f
 |b::l,h,ha=>by
  have h1:=h b kc;have h2:0<=aI l f:=kH λc hc=>h c (by simp[hc]);show f a<=f b+aI l f;rcases bz.mp ha with rfl|ha
  .grind
  .have:=Vo (λc hc=>h c (by simp[hc])) ha;grind
def ajX{α:Type}(u v:List α)(f:α->Rat):aI (u++v) f=aI u f+aI v f:=by
 induction u with
 |nil=>show aI v f=0+aI v f;grind
 |cons a u ih=>show f a+aI (u++v) f=f a+aI u f+aI v f;rw[ih];grind
def anT{α:Type}[Inhabited α](l:List α)(f:α->Rat):aI l f=aB l.length λi=>f (ix l i):=by
 have key:∀k,k<=l.length->aI (l.take k) f=aB k λi=>f (ix l i):=λk=>by
  induction k with
  |zero=>intro _;rfl
  |succ k ih=>
   intro h
   rw[bF jb,ajX,ih jb]
   show _+(f (ix l k)+0)=_+f (ix l k)
   rw[dC]
 have h:=key l.length jp;rwa[ce]at h
def anU{α β:Type}(m:α->β)(f:β->Rat)(l:List α):aI (l.map m) f=aI l λa=>f (m a):=by
 induction l with
 |nil=>rfl
 |cons a l ih=>show f (m a)+aI (l.map m) f=f (m a)+aI l _;rw[ih]
section
variable {n:Nat} {g:GL} {x:Nat→Rat}
def ajY(hg:IV n g)(hx:Nn n x){d:Rat×List eX}(hd:d∈g.ds):∀a∈d.2,0<=gq g x a:=λ_ ha=>J5 hg hx (rF hg hd ha)
def asT(hg:IV n g)(hx:Nn n x){l:eX}(hl:l.1<n):0<=ql g x l/\ql g x l<=gq g x l:=by have h0:=J5 hg hx hl;have hb:=λd hd=>Vl (W:=d.1) (l:=l) (Q:=0) (Vm (λd:Rat×List eX=>d.2) hg.nodup d hd) (ajY hg hx hd);have h1:0<=Dz g x l:=kH λd hd=>(hb d hd).1;have h2:Dz g x l<=aI g.ds λd=>if l∈d.2 then gq g x l else 0:=nS λd hd=>(hb d hd).2;rw[ac7 (λd:Rat×List eX=>d.2) (gq g x l) l hg.nodup]at h2;unfold ql;split at h2<;>grind
def afr(hg:IV n g)(hx:Nn n x){d:Rat×List eX}(hd:d∈g.ds):aI d.2 (ql g x)<=d.1:=by
 have hnd:=Vm (λd:Rat×List eX=>d.2) hg.nodup;have h1:aI d.2 (xX d.1 (gq g x) 0 d.2)<=aI d.2 (Dz g x):=nS λl _=>Vo (f:=λd=>xX d.1 (gq g x) 0 d.2 l) (λd' hd'=>(Vl (hnd d' hd') (ajY hg hx hd')).1) hd;rw[YG (hnd d hd)]at h1;have h2:aI d.2 (ql g x)=aI d.2 (gq g x)-aI d.2 (Dz g x):=by rw[<-Ig];rfl
 have h3:=hg.pos d hd;rw[h2];unfold nI at h1;split at h1<;>split at h1<;>grind
end
def ac8{k c:Int}:∀(j:Nat){l:fP},Jm l->(∀t∈l.take j,dY t k=0)->∀{m:Rat},0<=m->0<fZ l m k->iU (l.take j) c<=fZ l m c
 |0,_,h,_,_,hm,_=>Oc h c hm
 |j+1,[],_,_,_,_,_=>aM
 |j+1,t::l,h,hk,m,hm,hp=>by
  have hk0:=hk t kc;have hp:0<(if m<aT t then dY t k*(m/aT t)else dY t k+fZ l (m-aT t) k):=hp;rw[hk0]at hp;show dY t c+iU (l.take j) c<=if m<aT t then dY t c*(m/aT t)else dY t c+fZ l (m-aT t) c;by_cases e:m<aT t
  .rw[ab e,Rat.zero_mul]at hp;exact absurd hp (Rat.lt_irrefl)
  .rw[ae e]at hp⊢;have:=ac8 (k:=k) (c:=c) j h.tl.2 (λu hu=>hk u (by simp[hu])) (m:=m-aT t) kd kd;grind
section
variable {A:Nat} {e:zC} {x:Rat}
def anV(h:FX A e)(hN:zU (bY e))(hx:0<=x){c k:Nat}(hc:c<e.c.length)(hk:k<e.c.length)(hr:(ix e.c c).r<(ix e.c k).r)(hp:0<xP (bY e) x k):xP (bY e) x c=(ix e.c c).a.q:=by
 obtain⟨r,hr8,er⟩:=h.r c hc;obtain⟨s,hs8,es⟩:=h.r k hk;have hrs:r<s:=by
  have h9:Int.ofNat r<Int.ofNat s:=by rw[<-er,<-es];exact hr
  exact Int.ofNat_lt.mp h9
 have hA:=(h.c c).2.1;have h1:=LV h hN hx hc;have ht:(Kt e.c e.c.length).take (r+1)=(List.range (r+1)).map λr=>zD e.c r e.c.length:=by show((List.range 8).map λr=>zD e.c r e.c.length).take (r+1)=_;rw[<-List.map_take,List.take_range,Nat.min_eq_left jb]
 have h2:iU ((Kt e.c e.c.length).take (r+1)) (c:Int)<=fZ (Kt e.c e.c.length) x (c:Int):=by
  refine ac8 (k:=(k:Int)) (r+1) hN.rk (λt Gh=>?_) hx hp;replace Gh:t∈(Kt e.c e.c.length).take (r+1):=Gh;rw[ht]at Gh;obtain⟨j,hj,rfl⟩:=cT.mp Gh;have hj:=iA.mp hj;rw[IQ,ae (λh=>by have h9:=h.2;rw[es]at h9;have h9:s=j:=Int.ofNat.inj h9;omega)]
 have h3:(ix e.c c).a.q<=iU ((Kt e.c e.c.length).take (r+1)) (c:Int):=by
  rw[ht,YC];have e1:dY (zD e.c r e.c.length) (c:Int)=(ix e.c c).a.q:=by rw[IQ,ab ⟨hc,er⟩]
  rw[<-e1];exact Vo (f:=λj=>dY (zD e.c j e.c.length) (c:Int)) (a:=r) (l:=List.range (r+1)) (λj _=>by
   show 0<=dY (zD e.c j e.c.length) (c:Int);rw[IQ];split
   .exact hA
   .exact aM) (iA.mpr jb)
 have h4:xP (bY e) x c=fZ (Kt e.c e.c.length) x (c:Int):=rfl;rw[h4]at h1⊢;exact Rat.le_antisymm h1 (cL h3 h2)
end
section
variable {n:Nat} {g:GL} {x y c:Nat→Rat}
end
section
variable {A:Nat} {e:zC} {x y:Rat}
end
end Go.Proofs.Ins
namespace Go.Proofs.Xe
open Go.RowKit Go.Proofs.Ins
section
variable {g:iw} {f f' : Nat→Nat→Rat}
variable {x y:Nat→Rat}
end
section
variable {g:iw} {f:Nat→Nat→Rat}
end
def YH(o:Option Rat)(q:Rat):Option Rat:=match o with
 |none=>some q
 |some m=>if q<m then some q else some m
def gq0:Option Rat->Rat
 |some q=>q
 |none=>0
structure Qp(h:Tr Bk)(fb ob:Nat)(o:Option Rat):Prop where
 f:h fb=some ⟨[.bool o.isSome],none⟩
 o:h ob=some ⟨[.bool (rn (gq0 o)),.str (rs (gq0 o)),.str (rd (gq0 o))],none⟩
def ajZ{σ:St}(hW:WF σ){fb ob:Nat}{o:Option Rat}(hO:Qp σ.h fb ob o)(hne:fb≠ob){gap rate:Rat}(zg:Sz gap)(zr:Sz rate)(h0:0<rate)(zq:Sz (gap/rate))(zo:Sz (gq0 o)):
  aC EN 114 [.agg [.bool (rn gap),.str (rs gap),.str (rd gap)],.agg [.bool (rn rate),.str (rs rate),.str (rd rate)],.c (.ptr fb 0),.c (.ptr ob 0)] σ λ_ σ'=>Qp σ'.h fb ob (YH o (gap/rate))/\aU [fb,ob] σ σ':=by
 refine aP (je.o _ _) je.h ?_
 unfold je
 dsimp only
 obtain⟨q1,q2⟩:=hO
 have l1:=hW.lt q1
 have l2:=hW.lt q2
 have hdiv:Hq gap rate=gap/rate:=by grind[Hq]
 have hFr:=aU.refl (ex:=[fb,ob]) hW
 cases o with
 |none=>
  have q1:σ.h fb=some ⟨[.bool false],none⟩:=q1
  simp(disch:=try exact jz) only[go_sem,z3,hdiv,ak q1,q1,q2,aJ q1,aJ q2]
  exact⟨⟨aA _ _ _,(au _ _ _ _ (Ne.symm hne)).trans (aA _ _ _)⟩,by repeat(first|assumption|exact aU.refl (by assumption)|exact aU.up (by assumption) kf|exact aU.up (aU.refl (by assumption)) kf|refine aU.set1 ?_ kg kf|refine aU.kM ?_ kg|refine aU.nC ?_ kg|refine aU.ou ?_ kf)⟩
 |some m=>
  have q1:σ.h fb=some ⟨[.bool true],none⟩:=q1
  have q2:σ.h ob=some ⟨[.bool (rn m),.str (rs m),.str (rd m)],none⟩:=q2
  have zo:Sz m:=zo
  simp(disch:=try exact jz) only[go_sem,z3,hdiv,ak q1,q1,ak q2,q2,acY]
  refine aH (λhs=>?_) (λhs=>?_)
  .simp(disch:=try exact jz) only[go_sem,z3,hdiv,ak q1,q1,ak q2,q2,aJ q1,aJ q2]
   have e:YH (some m) (gap/rate)=some (gap/rate):=ab hs
   rw[e]
   exact⟨⟨aA _ _ _,(au _ _ _ _ (Ne.symm hne)).trans (aA _ _ _)⟩,by repeat(first|assumption|exact aU.refl (by assumption)|exact aU.up (by assumption) kf|exact aU.up (aU.refl (by assumption)) kf|refine aU.set1 ?_ kg kf|refine aU.kM ?_ kg|refine aU.nC ?_ kg|refine aU.ou ?_ kf)⟩
  .simp(disch:=try exact jz) only[go_sem,z3,am]
   have e:YH (some m) (gap/rate)=some m:=ae hs
   rw[e]
   refine⟨⟨?_,?_⟩,by repeat(first|assumption|exact aU.refl (by assumption)|exact aU.up (by assumption) kf|exact aU.up (aU.refl (by assumption)) kf|refine aU.set1 ?_ kg kf|refine aU.kM ?_ kg|refine aU.nC ?_ kg|refine aU.ou ?_ kf)⟩
   .grind[au]
   grind[au]
end Go.Proofs.Xe
