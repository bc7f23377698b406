import Derived.Test.YtchhojplceoifaaGreatDoorYc37
set_option linter.all false
set_option maxRecDepth 100000
set_option maxHeartbeats 8000000
namespace Go.Proofs.Xe
open Go.RowKit Go.Proofs.Ins
def oq(M:Nat->Nat->Rat)(l:List Nat)(a b:Nat):Rat:=vU M l a b-if a=b then 1 else 0
def Gn(M:Nat->Nat->Rat)(l:List Nat)(a b a' b':Nat):Rat:=if a'<a then oq M l a' b' else if a'=a/\b'<b then vU M l a' b' else 0
def an2(M:Nat->Nat->Rat)(l:List Nat)(a b:Nat):rO (rC (Gn M l a b)) a b (gZ (vU M l a b))=rC (Gn M l a (b+1)):=by grind[rO,rC,Gn]
def ajX{M:Nat->Nat->Rat}{l:List Nat}{a k i c:Nat}(hc:c<k)(ha:a<k):rO (rC (Gn M l a k)) a a (gZ (vU M l a a-1)) i c=rC (Gn M l (a+1) 0) i c:=by grind[rO,rC,Gn,oq]
def apn{σ:St}(hW:WF σ){p:Nat->Prop}{mv iv:B}{n:Nat}{M:Nat->Nat->Rat}(hM:dV p σ.h mv n (λ_=>n) M)(hz2:∀j i,j<n->i<n->Sz (M j i))(hz3:∀i,i<n->Sz (M i i-1)){l:List Nat}(hl:VB σ.h iv l)(hl1:l.length<=1000)(hln:∀i∈l,i<n):
  aC EN 152 [.c mv,.c iv] σ λr σ'=>(∃mb bs,r=.c (.sl mb 0 l.length (.ex l.length))/\σ.aj<=mb/\oh σ'.h mb l.length (rC (oq M l)) bs (mb+1) σ'.aj)/\Fr σ σ':=by
 refine aO (xK.o _ _) xK.h ?_
 unfold xK
 dsimp only
 have hlen:=hl.len
 have hFr:=Fr.refl hW
 have z1:=sz1
 simp(disch:=try exact jz) only[go_sem,z3,hlen]
 refine(Yk hW hl1).mono ?_
 rintro _ σ1 ⟨⟨bs,rfl,hX⟩,hf1⟩
 have hle1:=hf1.le
 have hnx1:=hX.l
 simp(disch:=try exact jz) only[go_sem,z3,hlen]
 refine aF (λx tm σ'=>∃a,x=l.length-a/\a<=l.length/\Tr.ah tm 0=.c mv/\Tr.ah tm 1=.c iv/\Tr.ah tm 5=.c (.sl σ.aj 0 l.length (.ex l.length))/\Tr.ah tm 13=.c iv/\Tr.ah tm 14=.c (.int .i64 (.ofNat l.length))/\Tr.ah tm 15=.c (.int .i64 (.ofNat a))
  /\oh σ'.h σ.aj l.length (rC (Gn M l a 0)) bs (σ.aj+1) σ1.aj/\Fr σ σ'/\σ1.aj<=σ'.aj) l.length ?_ ?_
 .refine⟨0,jb,jb,?_⟩
  simp(disch:=try exact jz) only[go_sem,z3,am]
  refine⟨?_,hf1,jp⟩
  have e:rC (Gn M l 0 0)=rC λ_ _=>0:=by grind[rC,Gn]
  grind
 .rintro x tm σ' ⟨a,rfl,ha,t0,t1,t5,t13,t14,t15,hX,hf,hnx⟩
  simp(disch:=try exact jz) only[go_sem,z3,t0,t1,t5,t13,t14,t15,aG]
  refine aH (λhlt=>?_) (λhlt=>?_)
  .obtain⟨bi,oi,ci,rfl,Qs⟩:=hl.one jb
   have hld:=hf.ld hW (Qs a hlt)
   have hia:=hln _ (iK hlt)
   obtain⟨bm,om,cm,T,rfl,-,ayq,hT⟩:=hM.at hia
   simp(disch:=try exact jz) only[go_sem,z3,t0,t1,t5,t13,t14,t15,hld,hlen]
   refine aF (λx tm σ2=>∃b,x=l.length-b/\b<=l.length/\Tr.ah tm 0=.c (.sl bm om n cm)/\Tr.ah tm 1=.c (.sl bi oi l.length ci)/\Tr.ah tm 5=.c (.sl σ.aj 0 l.length (.ex l.length))/\Tr.ah tm 6=.c (.int .i64 (.ofNat a))/\Tr.ah tm 7=.c (.int .i64 (.ofNat (at0 l a)))
    /\Tr.ah tm 13=.c (.sl bi oi l.length ci)/\Tr.ah tm 14=.c (.int .i64 (.ofNat l.length))/\Tr.ah tm 15=.c (.int .i64 (.ofNat a))/\Tr.ah tm 20=.c (.sl bi oi l.length ci)/\Tr.ah tm 21=.c (.int .i64 (.ofNat l.length))/\Tr.ah tm 22=.c (.int .i64 (.ofNat b))
    /\oh σ2.h σ.aj l.length (rC (Gn M l a b)) bs (σ.aj+1) σ1.aj/\Fr σ σ2/\σ1.aj<=σ2.aj) l.length ?_ ?_
   .refine⟨0,jb,jb,?_⟩
    simp(disch:=try exact jz) only[go_sem,z3,t0,t1,t5,t13,t14,t15,am]
    grind
   .rintro x VR σ2 ⟨b,rfl,hb,t0,t1,t5,t6,t7,t13,t14,t15,t20,t21,t22,hX2,hf2,hnx2⟩
    have JE:=Fr.refl hf2.wf
    obtain⟨q0,hR,-,-⟩:=hX2
    obtain⟨q1,g1,g2⟩:=hR.r a hlt
    have q1:σ2.h (bs a)=some ⟨bY l.length (Gn M l a b a),none⟩:=q1
    unfold yB at q0
    simp(disch:=try exact jz) only[go_sem,z3,t0,t1,t5,t6,t7,t13,t14,t15,t20,t21,t22,aG]
    refine aH (λhlb=>?_) (λhlb=>?_)
    .have YG:=hf2.ld hW (Qs b hlb)
     have hib:=hln _ (iK hlb)
     obtain⟨bt,ot,ct,rfl,-,as7⟩:=aZ.at3 hT hib
     have as7:=hf2.ld hW as7
     have awp:=hf2.ld hW ayq
     simp(disch:=try exact jz) only[go_sem,z3,t0,t1,t5,t6,t7,t13,t14,t15,t20,t21,t22,YG,as7,awp,ak q0,ak q1,aI q1,q1]
     refine⟨l.length-(b+1),jb,b+1,rfl,jb,rfl,⟨(au _ _ _ _ jb).trans q0,?_,jb,jb⟩,fr,hnx2⟩
     rw[<-an2]
     refine hR.set hlt (dh λc _=>?_)
     unfold jk aN rC
     split<;>rfl
    .have:b=l.length:=jb
     subst this
     have hmm:=hM.at hia
     have z4:=hz2 _ _ hia hia
     have z5:=hz3 _ hia
     have e7:Gn M l a l.length a a=M (at0 l a) (at0 l a):=by unfold Gn;rw[ae jb,ab ⟨rfl,hlt⟩];rfl
     have q1e:zI (bY l.length (Gn M l a l.length a)) (0+a*3) 3 true=some (.agg [.bool (rn (M (at0 l a) (at0 l a))),.str (rs (M (at0 l a) (at0 l a))),.str (rd (M (at0 l a) (at0 l a)))]):=by rw[cK,Uf _ _ _ hlt,e7]
     simp(disch:=try exact jz) only[go_sem,z3,t0,t1,t5,t6,t7,t13,t14,t15,t20,t21,ak q0,ak q1,aI q1,q1,e7]
     refine⟨l.length-(a+1),jb,a+1,rfl,jb,rfl,⟨(au _ _ _ _ jb).trans q0,?_,jb,jb⟩,fr,hnx2⟩
     refine(hR.set (x:=gZ (M (at0 l a) (at0 l a)-1)) hlt (dh λc _=>?_)).congr λi _ c hc=>ajX hc hlt
     unfold jk aN rC
     split<;>rfl
  .have:a=l.length:=jb
   subst this
   simp(disch:=try exact jz) only[go_sem,z3,t5]
   refine⟨⟨_,bs,rfl,jp,⟨hX.o,?_,hX.b,jb⟩⟩,hf⟩
   refine(hX.r.congr λi hi c _=>?_).mono (λ_ _ _=>rfl) jp hnx
   unfold rC Gn
   rw[ab hi]
structure kD(g:gB):Prop where
 n:g.e.length<=8
 bld:RJ 60 g
 sm:aac 134217728 g
 z:NQ g=0
 k6:∀i,i<g.e.length->kE g.e i<=6
 ed:∀i,i<g.e.length->ED 60 60 (kE g.e i) (dU (ix g.e i))
 eb:∀i,i<g.e.length->EB (kE g.e i) (dU (ix g.e i))
 er:∀i,i<g.e.length->dQ (dU (ix g.e i)).rk<=48/\(dU (ix g.e i)).rk.length<=8/\(dU (ix g.e i)).ps.length<=2/\∀p∈(dU (ix g.e i)).ps,dQ p.2<=28/\p.2.length<=4
 cap:∀i,i<g.e.length->∀k,ni 60 60 (ix (ix g.e i).c k).a.q
 hold:∀i,i<g.e.length->∀c,c<kE g.e i->(ix (ix g.e i).c c).h=.negSucc 0\/∃hh:Nat,(ix (ix g.e i).c c).h=.ofNat hh/\hh<g.e.length
 m:∀i,i<g.e.length->(ix g.e i).m.fits 1000000/\ni 60 60 (ix g.e i).m.q
 d3:g.d.length<=3
 d:∀d,d<g.d.length->(ix g.d d).l.length<=4/\(ix g.d d).w.fits 1000000/\ni 60 60 (ix g.d d).w.q
def ayr:(60:Rat)<=uQ:=by
 have h:((60:Nat):Rat)<=uQ:=by unfold uQ;grind
 exact h
def ni.mn{A:Nat}{U V q:Rat}(h:ni A U q)(hUV:U<=V):ni A V q:=⟨h.1,h.2.1,cQ h.2.2 hUV⟩
def yg.mn{P Q:Rat->Prop}(hPQ:∀q,P q->Q q){n:Nat}{l:gQ}(h:yg P n l):yg Q n l:=λt ht p hp=>⟨(h t ht p hp).1,hPQ _ (h t ht p hp).2⟩
def ED.mn{A n:Nat}{U V:Rat}{e:fJ}(h:ED A U n e)(hUV:U<=V):ED A V n e:=⟨yg.mn (λ_ h=>ni.mn h hUV) h.rk,λp hp=>yg.mn (λ_ h=>ni.mn h hUV) (h.ps p hp)⟩
def ED.uq{A n:Nat}{e:fJ}(h:ED A 60 n e):ED A uQ n e:=h.mn ayr
def YH{n k:Nat}{l:gQ}{m:Rat}(h:yg (λq=>eX 60 q/\0<=q/\q<=60) n l)(h0:0<=m)(hk:dQ l<=k)(h1:1<=k):wL 60 l m<=3600*k:=by
 unfold wL;split
 .next hf=>
  have ht:=gy hf;have h2:=Yr (h _ ht);have h3:=EH ht;obtain⟨e,-⟩:=U6 (A:=60) jj (DK (h.D _ ht)) (Ah h0 hf);generalize aW (ix l (dY l m))=s at*;refine O9 ?_;have e60:((60:Nat):Rat)=60:=rfl;have e18:((3600:Nat):Rat)=3600:=rfl;have h4:((ix l (dY l m)).length:Rat)<=(k:Rat):=bz.mpr jb;grind
 .omega
def YI{n k:Nat}{m:Rat}{e:fJ}(h:ED 60 60 n e)(h0:0<=m)(h1:1<=k):∀{l:List (List Nat×gQ)},(∀p∈l,p∈e.ps/\dQ p.2<=k)->aeR 60 e m l<=(3600*k)^l.length
 |[],_=>cT 1
 |p::l,hl=>by unfold aeR;rw[bX,dA,dC];exact cH (YI h h0 h1 λq hq=>hl q (by simp[hq])) (YH (h.ps p (hl p kc).1) (nU h.nn h0 p) (hl p kc).2 h1)
def abf{D b:Nat}(h0:0<D)(h:D<=2^b)(hb:b<=200000000):Cb D:=by refine⟨h0,cY h (aL ac3 (bB jj ?_))⟩;unfold dK;omega
def eB:Nat:=408
theorem YJ:eB=408:=rfl
def gE(g:gB)(x:Nat->Rat):Nat:=O8 g.e.length λi=>BZ 60 (dU (ix g.e i)) (x i)
section
variable {g:gB} {B b:Nat} {x:Nat→Rat}
def kD.cur(h:kD g){i:Nat}(hi:i<g.e.length){y:Rat}(hy:0<=y):0<BZ 60 (dU (ix g.e i)) y/\BZ 60 (dU (ix g.e i)) y<=2^51:=by
 have hE:=h.ed i hi;obtain⟨h1,-,h2,h3⟩:=h.er i hi;refine⟨Iz jj hE hy,?_⟩;have a:=YH hE.rk hy h1 jj;have b:=YI (k:=28) hE hy jj (l:=(dU (ix g.e i)).ps) λp hp=>⟨hp,(h3 p hp).1⟩
 have c:(3600*28)^(dU (ix g.e i)).ps.length<=(3600*28)^2:=bB jj h2;exact aw (cH a (aw b c)) jj
def kD.gE(h:kD g)(hx:∀i,i<g.e.length->0<=x i):0<Xe.gE g x/\Xe.gE g x<=2^eB:=by refine⟨Sr λi hi=>(h.cur hi (hx i hi)).1,?_⟩;have h1:=Yq (n:=g.e.length) (k:=2^51) λi hi=>(h.cur hi (hx i hi)).2;refine aw h1 ?_;rw[<-Nat.pow_mul];exact yU (by have:=h.n;grind[YJ])
def VG(x:Nat->Rat){i:Nat}(hi:i<g.e.length):BZ 60 (dU (ix g.e i)) (x i)∣Xe.gE g x:=SA (f:=λi=>BZ 60 (dU (ix g.e i)) (x i)) hi
def kD.dok(h:kD g)(hB:0<B)(hb:B<=2^b)(hb2:b<=199000000)(hx:∀i,i<g.e.length->0<=x i):Cb (B*Xe.gE g x):=
 abf (b:=b+eB) (cn hB (h.gE hx).1) (oO hb (h.gE hx).2) (by grind[YJ])
def as8{q:Rat}(h:ni 60 60 q):q<=vQ:=by have h1:=Rx (k:=60) jj;grind
def YK{f:Nat->Rat}(hf:∀k,ni 60 60 (f k)):∀n,eX 60 (aB n f)/\0<=aB n f/\aB n f<=(n:Rat)*60
 |0=>⟨eX.zero _,bh,by show(0:Rat)<=((0:Nat):Rat)*60;simp⟩
 |n+1=>by obtain⟨h1,h2,h3⟩:=YK hf n;obtain⟨k1,k2,k3⟩:=hf n;have e:((n+1:Nat):Rat)=(n:Rat)+1:=gp _ _;exact⟨h1.add k1,by unfold aB;grind,by rw[e];unfold aB;grind⟩
def kD.L8(h:kD g):Jy g.e.length (aY g):=aaF (OC h.z)
def kD.nn(h:kD g){i:Nat}(hi:i<g.e.length):BU (dU (ix g.e i)):=(h.ed i hi).nn
def kD.mg(h:kD g)(hB0:0<B)(h6:60∣B)(hb:B<=2^b)(hb2:b<=199000000)(hx:∀i,i<g.e.length->SmB B (x i)):Vq (B*Xe.gE g x) g x:=by
 have hz:=OC h.z;have hx0:∀i,i<g.e.length->0<=x i:=λi hi=>(hx i hi).2.1;have hD:=h.dok hB0 hb hb2 hx0;have hBD:B∣B*Xe.gE g x:=aR _ _;have h60:=bO h6 hBD;have hu:=vN;have hB:=h.bld;have hdv:∀i,i<g.e.length->B*BZ 60 (dU (ix g.e i)) (x i)∣B*Xe.gE g x:=λi hi=>cL _ (VG x hi);have hxZ:∀i,i<g.e.length->Zk (B*Xe.gE g x) 1 (x i):=λi hi=>rQ hD hBD (hx i hi).1 (hx i hi).2.1 (hx i hi).v;have hcZ:∀{q:Rat},ni 60 60 q->Zk (B*Xe.gE g x) 1 q:=λhq=>rQ hD h60 hq.1 hq.2.1 (as8 hq);have Ye:∀i,i<g.e.length->BU (dU (ix g.e i))/\InE (kE g.e i) (dU (ix g.e i)):=λi hi=>Lu (hz.e i hi);have hq:∀i,i<g.e.length->∀c,c<kE g.e i->0<=gq (aY g) x (i,c)/\Zk (B*Xe.gE g x) 1 (gq (aY g) x (i,c)):=λi hi c hc=>by obtain⟨h1,h2⟩:=Ye i hi;have h3:=Jt h1 (hx i hi).2.1 c;have h4:=asY h1 h2 (hx i hi).2.1 hc;exact⟨h3,rQ hD (hdv i hi) (aiz jj hB0 h6 (h.ed i hi) (hx i hi).1 (hx i hi).2.1 c) h3 (cQ h4 (hx i hi).v)⟩
 have hr:∀i c,Zk (B*Xe.gE g x) 5000 (yj (aY g) x (i,c)):=λi c=>by
  have h3:=h.d3;have key:∀j,j<=g.d.length->Zk (B*Xe.gE g x) (j*44) (Vj g x j (i,c)):=λj=>by
   induction j with
   |zero=>intro _;exact Zk.zero.mono (bj _)
   |succ j ih=>
    intro hj
    have hj':j<g.d.length:=jb
    rw[RN x hj',cB]
    obtain⟨hl,-,hw⟩:=h.d j hj'
    have hlen:(dL g j).length=(ix g.d j).l.length:=de _
    refine(ih jb).add ((acX (K:=0) (M:=4) (hcZ hw) _ (λa ha=>?_) Zk.zero jb).mono jb)
    obtain⟨y,hy,rfl⟩:=cV.mp ha
    obtain⟨k,hk,rfl⟩:=aM hy
    rw[<-fE hk]
    obtain⟨e,c',h1,h2,h3⟩:=hB.lg j hj' k hk
    rw[h1]
    exact(hq e h2 c' h3).2
  rw[<-Yc];exact(key g.d.length jp).mono jb
 have hu5:=Vm;have hv:=Rx (k:=1000001) jj;have ev:((1000001:Nat):Rat)=1000001:=rfl;rw[ev]at hv;refine⟨⟨⟨hD,hB.n,hB.d,λi hi=>?_,λi hi=>by have:=h.k6 i hi;omega,λd hd=>⟨(h.d d hd).2.1,(h.d d hd).2.2.2.1,hcZ (h.d d hd).2.2⟩,λd hd=>⟨hB.l d hd,hB.lg d hd⟩,λi hi=>hq i hi,λi hi c _=>(hr i c).sz hD jb,h.L8.nodup⟩,λi _ c _=>hr i c,λi hi=>⟨(h.m i hi).1,hcZ (h.m i hi).2⟩,h.hold⟩,λi hi=>?_,λi hi c _=>?_⟩
 .have hk6:=h.k6 i hi;obtain⟨s1,s2,s3⟩:=YK (h.cap i hi) (kE g.e i);have h4:((kE g.e i:Nat):Rat)<=((6:Nat):Rat):=bz.mpr jb;have e6:((6:Nat):Rat)=6:=rfl;have hT:Zk (B*Xe.gE g x) 1 (rW (ix g.e i) (kE g.e i)):=rQ hD h60 s1 s2 (by unfold rW;grind);exact⟨aiE hD h60 (h.ed i hi).uq (h.eb i hi),aiF jj hB0 h6 hD (hdv i hi) (h.ed i hi).uq (h.eb i hi) (hx i hi).1 (hx i hi).2.1 (hx i hi).v,hT.sz hD jb,((hxZ i hi).sub hT).sz hD jb⟩
 .exact aiG jj hB0 h6 hD (hdv i hi) (h.ed i hi).uq (h.eb i hi) (hx i hi).1 (hx i hi).2.1 (hx i hi).v
 .have h1:=rH (h.ed i hi).nn (hx i hi).2.1 c;have h2:=Vx (h.ed i hi).uq (h.eb i hi) (hx i hi).2.1 c;exact⟨h1,rQ hD (bO (gR _ _) (hdv i hi)) (aiA jj (h.ed i hi) (hx i hi).2.1 c) h1 (cQ h2 hv)⟩
def kD.map(h:kD g)(hB0:0<B)(h6:60∣B)(hb:B<=2^b)(hb2:b<=199000000)(hx:∀i,i<g.e.length->SmB B (x i)):aa1 60 (B*Xe.gE g x) g x:=by have hD:=h.dok hB0 hb hb2 λi hi=>(hx i hi).2.1;have hu:=vN;exact⟨abf (b:=6) jj jj jj,h.bld,(h.mg hB0 h6 hb hb2 hx).A,h.sm,h.z,λi hi=>⟨(hx i hi).2.1,(rQ hD (aR _ _) (hx i hi).1 (hx i hi).2.1 (hx i hi).v).sz hD jb⟩⟩
def kD.sub(h:kD g)(hx:∀i,i<g.e.length->0<=x i):Ih g.e.length (gM g.e.length (aY g) x):=(vT h.L8).sub hx
def kD.slD(h:kD g)(hx:∀i,i<g.e.length->0<=x i){i:Nat}(hi:i<g.e.length)(c:Nat):eX (Xe.gE g x) (x9 (dU (ix g.e i)) (x i) c):=
 (aiA jj (h.ed i hi) (hx i hi) c).dvd (VG x hi) (h.gE hx).1
def kD.mD(h:kD g)(hx:∀i,i<g.e.length->0<=x i){j i:Nat}(hi:i<g.e.length):eX (Xe.gE g x) (gM g.e.length (aY g) x j i):=by
 have hgk:=h.L8;have hgs:∀l:fM,l.1<g.e.length->eX (Xe.gE g x) (gs (aY g) x i l):=λl hl=>by
  unfold gs;split
  .exact h.slD hx hl l.2
  .exact eX.zero _
 unfold gM;refine eX.add (aa5 λc _=>?_) (eX.sum λd hd=>?_)
 .grind[eX.zero]
 .have hl:=λl hl=>hgs l (uh hgk hd (l:=l) hl);grind[Go.Proofs.Xe.eX.sum,Go.Proofs.Ins.dM,Go.Proofs.Xe.eX.add,Go.Proofs.Xe.ajD,Go.Proofs.Xe.eX.zero,Go.Proofs.Ins.nY]
def kD.m01(h:kD g)(hx:∀i,i<g.e.length->0<=x i){j i:Nat}(hj:j<g.e.length)(hi:i<g.e.length):0<=gM g.e.length (aY g) x j i/\gM g.e.length (aY g) x j i<=1:=by have hM:=h.sub hx;exact⟨hM.nn j i hj hi,cQ (Dz (f:=λj=>gM g.e.length (aY g) x j i) hj λk hk=>hM.nn k i hk hi) (hM.le i hi)⟩
def VH{D b K:Nat}{q:Rat}(hD:0<D)(hb:D<=2^b)(h:eX D q)(h0: -(K:Rat)<=q)(h1:q<=(K:Rat)):∃z:Int,q=(z:Rat)/(D:Rat)/\z.natAbs<=K*D:=by
 obtain⟨z,rfl⟩:=h;refine⟨z,rfl,?_⟩;have hD':=iI hD;have hp:=Pg hD;have e:(z:Rat)/(D:Rat)*(D:Rat)=(z:Rat):=by grind
 have h4:=br h1 (et hp);have h5:=br h0 (et hp);rw[e]at h4 h5;have e2: -(K:Rat)*(D:Rat)=((-((K*D:Nat):Int):Int):Rat):=by rw[Rat.intCast_neg];have:(((K*D:Nat):Int):Rat)=(K:Rat)*(D:Rat):=fh _ _;grind
 rw[<-fh]at h4;rw[e2]at h5;have h4:((z:Int):Rat)<=(((K*D:Nat):Int):Rat):=h4;have h4:=gi.mp h4;have h5:=gi.mp h5;omega
def VI{D b k K:Nat}{q:Rat}(hD:0<D)(hb:D<=2^b)(h:eX D q)(hk:K<=2^k)(h0: -(K:Rat)<=q)(h1:q<=(K:Rat)):lH (b+k) q:=by obtain⟨z,e,hz⟩:=VH hD hb h h0 h1;exact⟨z,D,hD,aw hb (yU jb),aw hz (by rw[eZ];exact oO hk hb),e⟩
def kD.ays(h:kD g)(hx:∀i,i<g.e.length->0<=x i){l:List Nat}(hl:∀i∈l,i<g.e.length):DZ l.length l.length eB (oq (gM g.e.length (aY g) x) l):=by
 obtain⟨p1,p2⟩:=h.gE hx;refine⟨Xe.gE g x,p1,p2,λa c ha hc=>?_⟩;have h1:=hl _ (iK ha);have h2:=hl _ (iK hc);have h3:=h.m01 hx h1 h2;have h4:=h.mD hx (j:=at0 l a) h2;have e1:((1:Nat):Rat)=1:=rfl;have hone:eX (Xe.gE g x) (1:Rat):=⟨Xe.gE g x,by have:=iI p1;have e:(((Xe.gE g x:Nat):Int):Rat)=((Xe.gE g x:Nat):Rat):=rfl;grind⟩
 have hd:eX (Xe.gE g x) (oq (gM g.e.length (aY g) x) l a c):=by unfold oq vU;refine h4.sub ?_;grind[eX.zero]
 obtain⟨z,e,hz⟩:=VH (K:=1) p1 p2 hd (by grind[oq,vU]) (by grind[oq,vU]);grind
end
def YL(o:Option Rat)(q:Rat):Option Rat:=match o with
 |none=>some q
 |some m=>if q<m then some q else some m
def gq0:Option Rat->Rat
 |some q=>q
 |none=>0
structure Qu(h:Tr Bk)(fb ob:Nat)(o:Option Rat):Prop where
 f:h fb=some ⟨[.bool o.isSome],none⟩
 o:h ob=some ⟨[.bool (rn (gq0 o)),.str (rs (gq0 o)),.str (rd (gq0 o))],none⟩
def ajY{σ:St}(hW:WF σ){fb ob:Nat}{o:Option Rat}(hO:Qu σ.h fb ob o)(hne:fb≠ob){gap rate:Rat}(zg:Sz gap)(zr:Sz rate)(h0:0<rate)(zq:Sz (gap/rate))(zo:Sz (gq0 o)):
  aC EN 156 [.agg [.bool (rn gap),.str (rs gap),.str (rd gap)],.agg [.bool (rn rate),.str (rs rate),.str (rd rate)],.c (.ptr fb 0),.c (.ptr ob 0)] σ λ_ σ'=>Qu σ'.h fb ob (YL o (gap/rate))/\aU [fb,ob] σ σ':=by
 refine aO (ji.o _ _) ji.h ?_
 unfold ji
 dsimp only
 obtain⟨q1,q2⟩:=hO
 have l1:=hW.lt q1
 have l2:=hW.lt q2
 have hdiv:Ht gap rate=gap/rate:=by grind[Ht]
 have hFr:=aU.refl (ex:=[fb,ob]) hW
 cases o with
 |none=>
  have q1:σ.h fb=some ⟨[.bool false],none⟩:=q1
  simp(disch:=try exact jz) only[go_sem,z3,hdiv,ak q1,q1,q2,aI q1,aI q2]
  exact⟨⟨aA _ _ _,(au _ _ _ _ (Ne.symm hne)).trans (aA _ _ _)⟩,by repeat(first|assumption|exact aU.refl (by assumption)|exact aU.up (by assumption) kf|exact aU.up (aU.refl (by assumption)) kf|refine aU.set1 ?_ kg kf|refine aU.kK ?_ kg|refine aU.nP ?_ kg|refine aU.oG ?_ kf)⟩
 |some m=>
  have q1:σ.h fb=some ⟨[.bool true],none⟩:=q1
  have q2:σ.h ob=some ⟨[.bool (rn m),.str (rs m),.str (rd m)],none⟩:=q2
  have zo:Sz m:=zo
  simp(disch:=try exact jz) only[go_sem,z3,hdiv,ak q1,q1,ak q2,q2,VA]
  refine aH (λhs=>?_) (λhs=>?_)
  .simp(disch:=try exact jz) only[go_sem,z3,hdiv,ak q1,q1,ak q2,q2,aI q1,aI q2]
   have e:YL (some m) (gap/rate)=some (gap/rate):=ab hs
   rw[e]
   exact⟨⟨aA _ _ _,(au _ _ _ _ (Ne.symm hne)).trans (aA _ _ _)⟩,by repeat(first|assumption|exact aU.refl (by assumption)|exact aU.up (by assumption) kf|exact aU.up (aU.refl (by assumption)) kf|refine aU.set1 ?_ kg kf|refine aU.kK ?_ kg|refine aU.nP ?_ kg|refine aU.oG ?_ kf)⟩
  .simp(disch:=try exact jz) only[go_sem,z3,am]
   have e:YL (some m) (gap/rate)=some m:=ae hs
   rw[e]
   refine⟨⟨?_,?_⟩,by repeat(first|assumption|exact aU.refl (by assumption)|exact aU.up (by assumption) kf|exact aU.up (aU.refl (by assumption)) kf|refine aU.set1 ?_ kg kf|refine aU.kK ?_ kg|refine aU.nP ?_ kg|refine aU.oG ?_ kf)⟩
   .grind[au]
   grind[au]
def Ar(l:List Rat):Option Rat:=l.foldl YL none
def SH(l:List Rat)(q:Rat):Ar (l++[q])=YL (Ar l) q:=by grind[Ar]
def JO:∀(l:List Rat) (m:Rat),∃k,l.foldl YL (some m)=some k/\(k=m\/k∈l)/\k<=m/\∀v∈l,k<=v
 |[],m=>⟨m,rfl,.inl rfl,bh,λv hv=>by cases hv⟩
 |a::l,m=>by
  rw[List.foldl_cons];by_cases h:a<m
  .rw[show YL (some m) a=some a from ab h];obtain⟨k,h1,h2,h3,h4⟩:=JO l a;grind
  .rw[show YL (some m) a=some m from ae h];obtain⟨k,h1,h2,h3,h4⟩:=JO l m;grind
def VJ(l:List Rat):(l=[]/\Ar l=none)\/∃m,Ar l=some m/\m∈l/\∀v∈l,m<=v:=by
 cases l with
 |nil=>exact .inl ⟨rfl,rfl⟩
 |cons a l=>
  obtain⟨k,h1,h2,h3,h4⟩:=JO l a
  refine .inr ⟨k,h1,?_,λv hv=>?_⟩
  .grind
  grind
theorem VT.uniq{e:fJ}{n:Nat}{z x:Rat}{o o':Option Rat}(h:VT e n z x o)(h':VT e n z x o'):o=o':=by
 induction h with
 |no h=>cases h' with
  |no=>rfl
  |stop h2=>grind
  |go h2=>grind
 |stop h hs=>cases h' with
  |no h2=>grind
  |stop h2=>grind
  |go h2 hs2=>grind
 |go h hs _ ih=>cases h' with
  |no h2=>grind
  |stop h2 hs2=>grind
  |go h2 _ hr=>grind
open Classical in
noncomputable def nxE(e:fJ)(n:Nat)(x:Rat):Option Rat:=if h:∃o,VT e n x x o then h.choose else none
def ajZ{e:fJ}{n:Nat}{x:Rat}{o:Option Rat}(h:VT e n x x o):nxE e n x=o:=by
 have h2:∃o,VT e n x x o:=⟨o,h⟩
 grind[nxE,VT.uniq]
noncomputable def mJ(g:gB)(x:Nat->Rat)(i:Nat):Option Rat:=(nxE (dU (ix g.e i)) (kE g.e i) (x i)).map λy=>y-x i
theorem SI{W:Rat}{q r:fM->Rat}:∀(t:List fM) (a:fM) (Q R:Rat),qF W q r Q R (t++[a])=qF W q r Q R t++(if Q+aK t q+q a<W/\0<R+aK t r+r a then [(W-(Q+aK t q+q a))/(R+aK t r+r a)]else [])
 |[],a,Q,R=>by show(if _ then _ else _)++[]=[]++_;simp_all[aK,da]
 |b::t,a,Q,R=>by show(if _ then _ else _)++qF W q r _ _ (t++[a])=((if _ then _ else _)++qF W q r _ _ t)++_;rw[SI t a,ik];have e1:aK (b::t) q=q b+aK t q:=rfl;have e2:aK (b::t) r=r b+aK t r:=rfl;rw[e1,e2,fa Q,fa R]
noncomputable def VK(g:gB)(x d:Nat->Rat)(j:Nat):List Rat:=Bz (mJ g x) d g.e.length++((aY g).ds.take j).flatMap λd'=>qF d'.1 (gq (aY g) x) (gr (aY g) x d) 0 0 d'.2
noncomputable def D8(g:gB)(x d:Nat->Rat)(j k:Nat):List Rat:=VK g x d j++qF (dW g j) (gq (aY g) x) (gr (aY g) x d) 0 0 ((dL g j).take k)
def afm(g:gB)(x d:Nat->Rat)(j:Nat):D8 g x d j 0=VK g x d j:=by unfold D8;rw[cM];exact dy _
def aj0(g:gB)(x d:Nat->Rat){j:Nat}(h:j<g.d.length):D8 g x d j (dL g j).length=VK g x d (j+1):=by grind[D8,VK,take_snoc,yt,OQ]
def afn(g:gB)(x d:Nat->Rat){j k:Nat}(h:k<(dL g j).length):D8 g x d j (k+1)=D8 g x d j k++(if aK ((dL g j).take (k+1)) (gq (aY g) x)<dW g j/\0<aK ((dL g j).take (k+1)) (gr (aY g) x d)then [(dW g j-aK ((dL g j).take (k+1)) (gq (aY g) x))/aK ((dL g j).take (k+1)) (gr (aY g) x d)]else []):=by grind[D8,take_snoc,SI,mM]
structure NrN(D:Nat)(g:gB)(x d:Nat->Rat):Prop where
 m:Vq D g x
 nn:∀i,i<g.e.length->BU (dU (ix g.e i))/\0<=x i
 dz:∀i,i<g.e.length->Sz (d i)
 nx:∀i,i<g.e.length->0<d i->∃S:Rat->Prop,S (x i)/\(∀m,S m->∃D,Cb D/\EOk D (kE g.e i) (dU (ix g.e i))/\MOk D (dU (ix g.e i)) m/\ROk D (dU (ix g.e i)) m/\SOk (dU (ix g.e i)) m)/\∀m t,S m->Il (dU (ix g.e i)) m=some t->S (m+t)
 ny:∀i,i<g.e.length->0<d i->∀y,nxE (dU (ix g.e i)) (kE g.e i) (x i)=some y->Sz y/\Sz (y-x i)/\Sz ((y-x i)/d i)
 c1:∀i,i<=g.e.length->Sz (gq0 (Ar (Bz (mJ g x) d i)))
 c2:∀j,j<g.d.length->∀k,k<=(dL g j).length->Sz (gq0 (Ar (D8 g x d j k)))/\Sz (dW g j-aK ((dL g j).take k) (gq (aY g) x))/\Sz (aK ((dL g j).take k) (gr (aY g) x d))
  /\Sz ((dW g j-aK ((dL g j).take k) (gq (aY g) x))/aK ((dL g j).take k) (gr (aY g) x d))
 c3:∀j,j<g.d.length->∀l∈dL g j,Sz (gq (aY g) x l)/\Sz (gs (aY g) x l.1 l)/\Sz (gr (aY g) x d l)
def SK{σ:St}(hW:WF σ){sb:Nat}{g:gB}{x d:Nat->Rat}(hs:DU (Lt σ.aj) σ.h sb g){p:Nat->Prop}{xv Y4 Dv Sv:B}(hx:jf p σ.h xv g.e.length x)(hd:jf p σ.h Y4 g.e.length d)(hDv:dV p σ.h Dv g.e.length (kE g.e) (Qe g x))(hSv:dV p σ.h Sv g.e.length (kE g.e) (KD g x)){D:Nat}(hN:NrN D g x d):
  aC EN 100 [.c (.ptr sb 0),.c xv,.c Y4,.agg [Dv,Sv]] σ λr σ'=>r=.aV (.agg [.bool (rn (gq0 (Ar (jQ g.e.length (aY g) (mJ g x) x d)))),.str (rs (gq0 (Ar (jQ g.e.length (aY g) (mJ g x) x d)))),.str (rd (gq0 (Ar (jQ g.e.length (aY g) (mJ g x) x d))))]) (.aV (.c (.bool (Ar (jQ g.e.length (aY g) (mJ g x) x d)).isSome)) .tnil)/\Fr σ σ':=by
 refine aO (jE.o _ _) jE.h ?_
 unfold jE
 dsimp only
 have hs':=hs
 obtain⟨⟨ev,gv,lv,bv,hsb,hg,⟨R,P,hL1,hL2⟩,hB⟩,hsl⟩:=hs
 have Y6:=hN.m.A.s
 have hn:=Y6.n
 have hnd:=Y6.d
 have hD:=Y6.hD
 have hlk:=hL1.kn
 have hll:=hL1.len
 have hlD:=hg.d.len
 have hdk:=hg.d.kn
 have k1:=hDv.kn
 have k2:=hSv.kn
 have hsl:sb<σ.aj:=hsl
 have hFr:=Fr.refl hW
 simp(disch:=try exact jz) only[go_sem,z3,k1,k2,ak hsb,hll,hlk]
 refine bP.mono (Q:=λex tm σ'=>ex=.exit 0/\Tr.ah tm 0=.c (.ptr sb 0)/\Tr.ah tm 2=.c Y4/\Tr.ah tm 7=.c (.ptr σ.aj 0)/\Tr.ah tm 8=.c (.ptr (σ.aj+1) 0)/\Tr.ah tm 10=.c (.ptr (σ.aj+1+1) 0)/\Tr.ah tm 11=.c (.ptr (σ.aj+1+1+1) 0)/\Tr.ah tm 12=.fn 156 [.ptr (σ.aj+1+1+1) 0,.ptr (σ.aj+1+1) 0]
   /\σ'.h σ.aj=some ⟨[Dv,Sv],none⟩/\σ'.h (σ.aj+1)=some ⟨[.bool (rn 0),.str (rs 0),.str (rd 0)],none⟩/\Qu σ'.h (σ.aj+1+1+1) (σ.aj+1+1) (Ar (Bz (mJ g x) d g.e.length))/\Fr σ σ'/\σ.aj+1+1+1+1<=σ'.aj)
  (aF (λq tm σ'=>∃i,q=g.e.length-i/\i<=g.e.length/\Tr.ah tm 0=.c (.ptr sb 0)/\Tr.ah tm 1=.c xv/\Tr.ah tm 2=.c Y4/\Tr.ah tm 7=.c (.ptr σ.aj 0)/\Tr.ah tm 8=.c (.ptr (σ.aj+1) 0)/\Tr.ah tm 10=.c (.ptr (σ.aj+1+1) 0)/\Tr.ah tm 11=.c (.ptr (σ.aj+1+1+1) 0)/\Tr.ah tm 12=.fn 156 [.ptr (σ.aj+1+1+1) 0,.ptr (σ.aj+1+1) 0]
   /\Tr.ah tm 27=.c lv/\Tr.ah tm 28=.c (.int .i64 (.ofNat g.e.length))/\Tr.ah tm 29=.c (.int .i64 (.ofNat i))/\σ'.h σ.aj=some ⟨[Dv,Sv],none⟩/\σ'.h (σ.aj+1)=some ⟨[.bool (rn 0),.str (rs 0),.str (rd 0)],none⟩/\Qu σ'.h (σ.aj+1+1+1) (σ.aj+1+1) (Ar (Bz (mJ g x) d i))/\Fr σ σ'/\σ.aj+1+1+1+1<=σ'.aj) g.e.length ?_ ?_) ?_
 .refine⟨0,jb,jb,?_⟩
  simp(disch:=try exact jz) only[go_sem,z3,am]
  refine⟨⟨aA _ _ _,?_⟩,fr,jb⟩
  rw[au _ _ _ _ jb,au _ _ _ _ jb,aA]
  rfl
 .rintro q tm σ' ⟨i,rfl,hi,t0,t1,t2,t7,t8,t10,t11,t12,t27,t28,t29,q7,q8,hO,hf,hnx⟩
  have hle:=hf.le
  have jv:=Fr.refl hf.wf
  simp(disch:=try exact jz) only[go_sem,z3,t0,t1,t2,t7,t8,t10,t11,t12,t27,t28,t29,aG]
  refine aH (λhlt=>?_) (λhlt=>?_)
  .obtain⟨b5,o5,c5,rfl,-,bZ⟩:=hL1.pos jb
   have hLi:=hL2 i hlt
   have hRk:=hLi.rk.kn
   have hPk:=hLi.VU
   obtain⟨he1,he2,-,-⟩:=Y6.e i hlt
   have bZ:=hf.ld hW (bZ i hlt)
   obtain⟨b6,o6,c6,e6,-,bK⟩:=aZ.at3 hd hlt
   obtain⟨b7,o7,c7,e7,-,dw⟩:=aZ.at3 hx hlt
   have azC:=hW.dB bK
   have awq:=hW.dB dw
   have bK:=hf.ld hW bK
   have dw:=hf.ld hW dw
   have a6:V.c (.sl b6 o6 g.e.length c6)=V.c Y4:=by rw[e6]
   have a7:V.c (.sl b7 o7 g.e.length c7)=V.c xv:=by rw[e7]
   rw[e6]at t2
   rw[e7]at t1
   have hb6:=hf.wf.dB bK
   have hb7:=hf.wf.dB dw
   have hb5:=hf.wf.dB bZ
   have z1:=hN.dz i hlt
   unfold jA at bZ
   by_cases hp:0<d i
   .have hl7:=hf.wf.lt q7
    obtain⟨S,s1,s2,s3⟩:=hN.nx i hlt hp
    obtain⟨n1,n2⟩:=hN.nn i hlt
    have hzO:=hN.c1 i hi
    obtain⟨Dx,-,-,zx,-,-⟩:=s2 _ s1
    have zx:=zx.hm
    simp(disch:=try exact jz) only[go_sem,z3,t0,t1,t2,t7,t8,t10,t11,t12,t27,t28,t29,bZ,bK,dw,hRk,hPk,hp]
    refine aC.st (Fr σ') (fr) λgV=>?_
    have hf5:=hf.trans gV
    refine(ar8 gV.wf _ (dU (ix g.e i)) ((hLi.keep (λb hb=>hf5.old b hb) λ_ h=>h).lay) (x i) n1 n2 S s1 s2 s3).mono ?_
    rintro _ σ6 ⟨⟨o,ho,rfl⟩,iq⟩
    have lI:=gV.trans iq
    have aaM:=hf.trans lI
    have Ai:σ'.aj+1+1<=σ6.aj:=iq.le
    have hy6:σ6.h (σ'.aj+1)=some ⟨[.bool (rn 0),.str (rs 0),.str (rd 0)],none⟩:=iq.get gV.wf (aA _ _ _)
    have q76:=lI.get hf.wf q7
    have q86:=lI.get hf.wf q8
    have hO6:Qu σ6.h (σ.aj+1+1+1) (σ.aj+1+1) (Ar (Bz (mJ g x) d i)):=⟨lI.get hf.wf hO.f,lI.get hf.wf hO.o⟩
    have awr:=lI.ld hf.wf bK
    have awt:=lI.ld hf.wf dw
    have hno:=ajZ ho
    cases o with
    |none=>
     have hds:mJ g x i=none:=by unfold mJ;rw[hno];rfl
     have hcn:Bz (mJ g x) d (i+1)=Bz (mJ g x) d i:=by show _++_=_;rw[ab hp,hds,dy]
     unfold ar7
     simp(disch:=try exact jz) only[go_sem,z3,t0,t1,t2,t7,t8,t10,t11,t12,t27,t28,t29,ak hy6,hy6,aI hy6]
     have hW6:=iq.wf
     refine⟨g.e.length-(i+1),jb,i+1,rfl,jb,a7,a6,rfl,q76,q86,?_,fr,jb⟩
     rw[hcn]
     exact⟨(au _ _ _ _ jb).trans hO6.f,(au _ _ _ _ jb).trans hO6.o⟩
    |some y=>
     have hds:mJ g x i=some (y-x i):=by unfold mJ;rw[hno];rfl
     have hcn:Bz (mJ g x) d (i+1)=Bz (mJ g x) d i++[(y-x i)/d i]:=by show _++_=_;rw[ab hp,hds]
     obtain⟨y1,y2,y3⟩:=hN.ny i hlt hp y hno
     unfold ar7
     simp(disch:=try exact jz) only[go_sem,z3,t0,t1,t2,t7,t8,t10,t11,t12,t27,t28,t29,ak hy6,hy6,aI hy6,awr,awt]
     refine aC.st (Fr σ') (by have hW6:=iq.wf;exact fr) λsH=>?_
     have hO7:Qu (hset σ6.h (σ'.aj+1) ⟨[.bool (rn y),.str (rs y),.str (rd y)],none⟩) (σ.aj+1+1+1) (σ.aj+1+1) (Ar (Bz (mJ g x) d i)):=⟨(au _ _ _ _ jb).trans hO6.f,(au _ _ _ _ jb).trans hO6.o⟩
     refine(ajY sH.wf hO7 jb y2 z1 hp y3 hzO).mono ?_
     rintro v8 σ8 ⟨hO8,qE⟩
     rw[<-SH,<-hcn]at hO8
     have ajo:σ6.aj<=σ8.aj:=qE.le
     have Lm:=aU.to (hf.trans sH) qE λb hb=>by simp at hb;omega
     have awu:=qE.ld sH.wf (by simp<;>omega) (sH.ld hf.wf bK)
     have q78:=qE.get sH.wf (by simp<;>omega) (sH.get hf.wf q7)
     have q88:=qE.get sH.wf (by simp<;>omega) (sH.get hf.wf q8)
     simp(disch:=try exact jz) only[go_sem,z3,t0,t1,t2,t7,t8,t10,t11,t12,t27,t28,t29,awu]
     exact⟨g.e.length-(i+1),jb,i+1,rfl,jb,a7,a6,rfl,q78,q88,hO8,Lm,jb⟩
   .have hcn:Bz (mJ g x) d (i+1)=Bz (mJ g x) d i:=by show _++_=_;rw[ae hp,dy]
    simp(disch:=try exact jz) only[go_sem,z3,t0,t1,t2,t7,t8,t10,t11,t12,t27,t28,t29,bZ,bK,hRk,hPk,hp]
    refine⟨g.e.length-(i+1),jb,i+1,rfl,jb,a7,a6,rfl,q7,q8,?_,fr,jb⟩
    rw[hcn]
    have hl7:=hf.wf.lt q7
    refine⟨?_,?_⟩
    .repeat rw[au _ _ _ _ jb]
     exact hO.f
    .repeat rw[au _ _ _ _ jb]
     exact hO.o
  .have:i=g.e.length:=jb
   subst this
   simp(disch:=try exact jz) only[go_sem,z3,am]
   exact⟨t0,t2,t7,t8,t10,t11,t12,q7,q8,hO,hf,hnx⟩
 rintro _ tm σ3 ⟨rfl,t0,t2,t7,t8,t10,t11,t12,q7,q8,hO,hf3,hn3⟩
 have hle3:=hf3.le
 have aiY:=hf3.get hW hsb
 have hcz:Bz (mJ g x) d g.e.length=VK g x d 0:=by unfold VK;rw[cM];exact(dy _).symm
 rw[hcz]at hO
 simp(disch:=try exact jz) only[go_sem,z3,t0,t2,t7,t8,t10,t11,t12,ak aiY,hlD,hdk]
 refine aF (λq tm σ'=>∃j,q=g.d.length-j/\j<=g.d.length/\Tr.ah tm 2=.c Y4/\Tr.ah tm 7=.c (.ptr σ.aj 0)/\Tr.ah tm 8=.c (.ptr (σ.aj+1) 0)/\Tr.ah tm 10=.c (.ptr (σ.aj+1+1) 0)/\Tr.ah tm 11=.c (.ptr (σ.aj+1+1+1) 0)/\Tr.ah tm 12=.fn 156 [.ptr (σ.aj+1+1+1) 0,.ptr (σ.aj+1+1) 0]
   /\Tr.ah tm 67=.c gv/\Tr.ah tm 68=.c (.int .i64 (.ofNat g.d.length))/\Tr.ah tm 69=.c (.int .i64 (.ofNat j))
   /\σ'.h σ.aj=some ⟨[Dv,Sv],none⟩/\σ'.h (σ.aj+1)=some ⟨[.bool (rn 0),.str (rs 0),.str (rd 0)],none⟩/\Qu σ'.h (σ.aj+1+1+1) (σ.aj+1+1) (Ar (VK g x d j))/\Fr σ σ'/\σ.aj+1+1+1+1<=σ'.aj) g.d.length ?_ ?_
 .refine⟨0,jb,jb,?_⟩
  simp(disch:=try exact jz) only[go_sem,z3,t2,t7,t8,t10,t11,t12,am]
  exact⟨q7,q8,hO,hf3,hn3⟩
 .rintro q tm σ' ⟨j,rfl,hj,t2,t7,t8,t10,t11,t12,t67,t68,t69,q7,q8,hO,hf,hnx⟩
  have hle:=hf.le
  simp(disch:=try exact jz) only[go_sem,z3,t2,t7,t8,t10,t11,t12,t67,t68,t69,aG]
  refine aH (λhlt=>?_) (λhlt=>?_)
  .obtain⟨b5,o5,c5,rfl,L1,bZ,hL⟩:=hg.d.el hlt
   have bZ:=hf.ld hW bZ
   have hLk:=aZ.kn hL
   have hlL:=aZ.len hL
   obtain⟨hlen,IG⟩:=Y6.l j hlt
   obtain⟨hwf,hw0,hwz⟩:=Y6.w j hlt
   have jv:=Fr.refl hf.wf
   have hw2:=pI hwf
   have hmx:Hu (rq (ix g.d j).w.n (ix g.d j).w.s (ix g.d j).w.d) 0=dW g j:=by rw[aaO];exact JB hw0
   generalize hm:(ix g.d j).l.length=m at*
   have hdl:(dL g j).length=m:=(JG g j).trans hm
   have ajt:lenV (.c L1)=some (.c (.int .i64 (.ofNat m))):=hlL
   have hl7:=hf.wf.lt q7
   have hl8:=hf.wf.lt q8
   have hlf:=hf.wf.lt hO.f
   have hlo:=hf.wf.lt hO.o
   simp(disch:=try exact jz) only[go_sem,z3,t2,t7,t8,t10,t11,t12,t67,t68,t69,bZ,hLk,ajt,hmx]
   refine bP.st (Fr σ') (fr) λgV=>?_
   have hf5:=hf.trans gV
   have yc:=gV.le
   refine bP.mono (Q:=λex tm σ4=>ex=.exit 4/\Tr.ah tm 2=.c Y4/\Tr.ah tm 7=.c (.ptr σ.aj 0)/\Tr.ah tm 8=.c (.ptr (σ.aj+1) 0)/\Tr.ah tm 10=.c (.ptr (σ.aj+1+1) 0)/\Tr.ah tm 11=.c (.ptr (σ.aj+1+1+1) 0)/\Tr.ah tm 12=.fn 156 [.ptr (σ.aj+1+1+1) 0,.ptr (σ.aj+1+1) 0]
    /\Tr.ah tm 67=.c (.sl b5 o5 g.d.length c5)/\Tr.ah tm 68=.c (.int .i64 (.ofNat g.d.length))/\Tr.ah tm 69=.c (.int .i64 (.ofNat j))/\σ4.h σ.aj=some ⟨[Dv,Sv],none⟩/\σ4.h (σ.aj+1)=some ⟨[.bool (rn 0),.str (rs 0),.str (rd 0)],none⟩/\Qu σ4.h (σ.aj+1+1+1) (σ.aj+1+1) (Ar (D8 g x d j m))/\Fr σ σ4/\σ.aj+1+1+1+1<=σ4.aj)
    (aF (λq tm σ4=>∃k,q=m-k/\k<=m/\Tr.ah tm 2=.c Y4/\Tr.ah tm 7=.c (.ptr σ.aj 0)/\Tr.ah tm 8=.c (.ptr (σ.aj+1) 0)/\Tr.ah tm 10=.c (.ptr (σ.aj+1+1) 0)/\Tr.ah tm 11=.c (.ptr (σ.aj+1+1+1) 0)/\Tr.ah tm 12=.fn 156 [.ptr (σ.aj+1+1+1) 0,.ptr (σ.aj+1+1) 0]
     /\Tr.ah tm 19=.c (.ptr (σ'.aj+1) 0)/\Tr.ah tm 20=.c (.ptr (σ'.aj+1+1) 0)/\Tr.ah tm 67=.c (.sl b5 o5 g.d.length c5)/\Tr.ah tm 68=.c (.int .i64 (.ofNat g.d.length))/\Tr.ah tm 69=.c (.int .i64 (.ofNat j))/\Tr.ah tm 79=.c L1/\Tr.ah tm 80=.c (.int .i64 (.ofNat m))/\Tr.ah tm 81=.c (.int .i64 (.ofNat k))
     /\σ4.h σ.aj=some ⟨[Dv,Sv],none⟩/\σ4.h (σ.aj+1)=some ⟨[.bool (rn 0),.str (rs 0),.str (rd 0)],none⟩/\σ4.h (σ'.aj+1)=some ⟨[.bool (rn (dW g j-aK ((dL g j).take k) (gq (aY g) x))),.str (rs (dW g j-aK ((dL g j).take k) (gq (aY g) x))),.str (rd (dW g j-aK ((dL g j).take k) (gq (aY g) x)))],none⟩
     /\σ4.h (σ'.aj+1+1)=some ⟨[.bool (rn (aK ((dL g j).take k) (gr (aY g) x d))),.str (rs (aK ((dL g j).take k) (gr (aY g) x d))),.str (rd (aK ((dL g j).take k) (gr (aY g) x d)))],none⟩/\Qu σ4.h (σ.aj+1+1+1) (σ.aj+1+1) (Ar (D8 g x d j k))/\Fr σ σ4/\σ'.aj+1+1+1<=σ4.aj) m ?_ ?_) ?_
   .refine⟨0,jb,jb,?_⟩
    simp(disch:=try exact jz) only[go_sem,z3,t2,t7,t8,t10,t11,t12,t67,t68,t69,am,cM]
    have e1:dW g j-aK ([]:List fM) (gq (aY g) x)=dW g j:=by show dW g j-0=dW g j;grind
    rw[e1,afm]
    refine⟨q7,q8,rfl,rfl,⟨?_,?_⟩,hf5,jb⟩
    .repeat rw[au _ _ _ _ jb]
     exact hO.f
    .repeat rw[au _ _ _ _ jb]
     exact hO.o
   .rintro q VR σ4 ⟨k,rfl,hk,t2,t7,t8,t10,t11,t12,t19,t20,t67,t68,t69,t79,t80,Am,q7,q8,q19,q20,hO,hf4,hn4⟩
    simp(disch:=try exact jz) only[go_sem,z3,t2,t7,t8,t10,t11,t12,t19,t20,t67,t68,t69,t79,t80,Am,aG]
    refine aH (λhltk=>?_) (λhltk=>?_)
    .obtain⟨b8,o8,c8,e8,-,lC⟩:=aZ.pos hL (show 0<(ix g.d j).l.length by omega)
     have lC:=hf4.ld hW (lC k jb)
     rw[hm]at e8
     rw[e8]at t79
     have a8:V.c (.sl b8 o8 m c8)=V.c L1:=by rw[e8]
     obtain⟨e,c,E5,he,hc⟩:=IG k hltk
     unfold KT at lC
     rw[E5]at lC
     have hlk2:k<(dL g j).length:=jb
     have hix:ix (dL g j) k=(e,c):=by rw[aja (by omega:k<(ix g.d j).l.length),E5];rfl
     have hmem:(e,c)∈dL g j:=by rw[<-hix];exact gy hlk2
     obtain⟨b9,o9,c9,T,eD,-,OW,hT⟩:=hDv.at he
     obtain⟨ba,oa,ca,rfl,-,afo⟩:=aZ.at3 hT hc
     obtain⟨bb,ob,cb,T2,eS,-,YG,hT2⟩:=hSv.at he
     obtain⟨bc,oc,cc,rfl,-,afp⟩:=aZ.at3 hT2 hc
     obtain⟨bd,od,cd,e6,-,afq⟩:=aZ.at3 hd he
     have azD:=hW.dB OW
     have azE:=hW.dB afo
     have azF:=hW.dB YG
     have azG:=hW.dB afp
     have hbd0:=hW.dB afq
     have vO:=hf4.le
     have OW:=hf4.ld hW OW
     have afo:=hf4.ld hW afo
     have YG:=hf4.ld hW YG
     have afp:=hf4.ld hW afp
     have afq:=hf4.ld hW afq
     rw[eD,eS]at q7
     rw[e6]at t2
     have a6:V.c (.sl bd od g.e.length cd)=V.c Y4:=by rw[e6]
     obtain⟨w1,w2,w3,-⟩:=hN.c2 j hlt k jb
     obtain⟨v1,v2,v3,v4⟩:=hN.c2 j hlt (k+1) jb
     obtain⟨u1,u2,u3⟩:=hN.c3 j hlt _ hmem
     have u1:Sz (Qe g x e c):=u1
     have u2:Sz (KD g x e c):=by have:gs (aY g) x (e,c).1 (e,c)=KD g x e c:=ab rfl;rw[<-this];exact u2
     have u3:Sz (KD g x e c*d e):=u3
     have u4:=hN.dz e he
     have s1:dW g j-aK ((dL g j).take k) (gq (aY g) x)-Qe g x e c=dW g j-aK ((dL g j).take (k+1)) (gq (aY g) x):=by rw[take_snoc hlk2,mM,hix];show _-Qe g x e c=_-(_+Qe g x e c);grind
     have s2:aK ((dL g j).take k) (gr (aY g) x d)+KD g x e c*d e=aK ((dL g j).take (k+1)) (gr (aY g) x d):=by rw[take_snoc hlk2,mM,hix];rfl
     have hsc:=afn g x d hlk2
     have DR:=Fr.refl hf4.wf
     generalize hA:dW g j-aK ((dL g j).take (k+1)) (gq (aY g) x)=A at*
     generalize hB:aK ((dL g j).take (k+1)) (gr (aY g) x d)=Bq at*
     have zA:=v2
     have zB:=v3
     rw[<-s1]at v2
     rw[<-s2]at v3
     have g7:∀b,b≠σ4.aj->b≠σ'.aj+1->b≠σ'.aj+1+1->(hset (hset (hset (hset σ4.h σ4.aj ⟨[.int .i64 (.ofNat 0),.int .i64 (.ofNat 0)],none⟩) σ4.aj ⟨[.int .i64 (.ofNat e),.int .i64 (.ofNat c)],none⟩) (σ'.aj+1) ⟨[.bool (rn A),.str (rs A),.str (rd A)],none⟩) (σ'.aj+1+1) ⟨[.bool (rn Bq),.str (rs Bq),.str (rd Bq)],none⟩) b=σ4.h b:=λb k1 k2 k3=>by rw[au _ _ _ _ k3,au _ _ _ _ k2,au _ _ _ _ k1,au _ _ _ _ k1]
     have hO7:Qu (hset (hset (hset (hset σ4.h σ4.aj ⟨[.int .i64 (.ofNat 0),.int .i64 (.ofNat 0)],none⟩) σ4.aj ⟨[.int .i64 (.ofNat e),.int .i64 (.ofNat c)],none⟩) (σ'.aj+1) ⟨[.bool (rn A),.str (rs A),.str (rd A)],none⟩) (σ'.aj+1+1) ⟨[.bool (rn Bq),.str (rs Bq),.str (rd Bq)],none⟩) (σ.aj+1+1+1) (σ.aj+1+1) (Ar (D8 g x d j k)):=⟨(g7 _ jb jb jb).trans hO.f,(g7 _ jb jb jb).trans hO.o⟩
     by_cases h1:0<A
     .by_cases h2:0<Bq
      .simp(disch:=try exact jz) only[go_sem,z3,t2,t7,t8,t10,t11,t12,t19,t20,t67,t68,t69,t79,t80,Am,lC,OW,afo,YG,afp,afq,ak q7,ak q19,q19,aI q19,ak q20,q20,aI q20,s1,s2,h1,h2]
       refine aC.st (Fr σ) (fr) λsH=>?_
       refine(ajY sH.wf hO7 jb zA zB h2 v4 w1).mono ?_
       rintro v8 σ8 ⟨hO8,qE⟩
       have hcn:D8 g x d j (k+1)=D8 g x d j k++[A/Bq]:=by rw[hsc,ab ⟨by grind,h2⟩]
       rw[<-SH,<-hcn]at hO8
       have ajo:σ4.aj+1<=σ8.aj:=qE.le
       have Lm:=aU.to sH qE λb hb=>by simp at hb;omega
       have q78:=qE.get sH.wf (by simp<;>omega) ((g7 _ jb jb jb).trans q7)
       have q88:=qE.get sH.wf (by simp<;>omega) ((g7 _ jb jb jb).trans q8)
       have ayt:=qE.get sH.wf (by simp<;>omega) ((au _ _ _ _ (show σ'.aj+1≠σ'.aj+1+1 by omega)).trans (aA _ _ _))
       have ayu:=qE.get sH.wf (by simp<;>omega) (aA _ _ _)
       simp(disch:=try exact jz) only[go_sem,z3,t2,t7,t8,t10,t11,t12,t19,t20,t67,t68,t69,t79,t80,Am]
       refine⟨m-(k+1),jb,k+1,rfl,jb,a6,a8,rfl,?_,q88,?_,?_,?_,Lm,jb⟩
       .rw[eD,eS];exact q78
       .rw[hA];exact ayt
       .rw[hB];exact ayu
       .exact hO8
      .simp(disch:=try exact jz) only[go_sem,z3,t2,t7,t8,t10,t11,t12,t19,t20,t67,t68,t69,t79,t80,Am,lC,OW,afo,YG,afp,afq,ak q7,ak q19,q19,aI q19,ak q20,q20,aI q20,s1,s2,h1,h2]
       have hcn:D8 g x d j (k+1)=D8 g x d j k:=by rw[hsc,ae λh=>h2 h.2,dy]
       refine⟨m-(k+1),jb,k+1,rfl,jb,a6,a8,rfl,?_,q8,?_,?_,?_,fr,jb⟩
       .rw[eD,eS];exact q7
       .rw[hA]
       .rw[hB]
       .rw[hcn];exact hO7
     .simp(disch:=try exact jz) only[go_sem,z3,t2,t7,t8,t10,t11,t12,t19,t20,t67,t68,t69,t79,t80,Am,lC,OW,afo,YG,afp,afq,ak q7,ak q19,q19,aI q19,ak q20,q20,aI q20,s1,s2,h1]
      have hcn:D8 g x d j (k+1)=D8 g x d j k:=by rw[hsc,ae λh=>h1 kd,dy]
      refine⟨m-(k+1),jb,k+1,rfl,jb,a6,a8,rfl,?_,q8,?_,?_,?_,fr,jb⟩
      .rw[eD,eS];exact q7
      .rw[hA]
      .rw[hB]
      .rw[hcn];exact hO7
    .have:k=m:=jb
     subst this
     simp(disch:=try exact jz) only[go_sem,z3,am]
     exact⟨t2,t7,t8,t10,t11,t12,t67,t68,t69,q7,q8,hO,hf4,jb⟩
   .rintro _ tm σ4 ⟨rfl,t2,t7,t8,t10,t11,t12,t67,t68,t69,q7,q8,hO,hf4,hn4⟩
    rw[<-hdl,aj0 g x d hlt]at hO
    simp(disch:=try exact jz) only[go_sem,z3,t2,t7,t8,t10,t11,t12,t67,t68,t69]
    exact⟨g.d.length-(j+1),jb,j+1,rfl,jb,rfl,q7,q8,hO,hf4,hn4⟩
  .have:j=g.d.length:=jb
   subst this
   have hcs:VK g x d g.d.length=jQ g.e.length (aY g) (mJ g x) x d:=by unfold VK jQ;rw[fe (by rw[yt];exact jp)]
   rw[hcs]at hO
   have o1:=hO.f
   have o2:=hO.o
   simp(disch:=try exact jz) only[go_sem,z3,t8,t10,t11,ak o1,ak o2,o1,o2,aI q8,q8]
   exact fr
end Go.Proofs.Xe
