import Derived.Test.YtchhojplceoifaaGreatDoorYe38
set_option linter.all false
set_option maxRecDepth 100000
set_option maxHeartbeats 8000000
namespace Go.Proofs.Xe
open Go.RowKit Go.Proofs.Ins
def oq(M:Nat->Nat->Rat)(l:List Nat)(a b:Nat):Rat:=vX M l a b-if a=b then 1 else 0
def Gn(M:Nat->Nat->Rat)(l:List Nat)(a b a' b':Nat):Rat:=if a'<a then oq M l a' b' else if a'=a/\b'<b then vX M l a' b' else 0
def an9(M:Nat->Nat->Rat)(l:List Nat)(a b:Nat):rO (rC (Gn M l a b)) a b (gy (vX M l a b))=rC (Gn M l a (b+1)):=by grind[rO,rC,Gn]
def aj7{M:Nat->Nat->Rat}{l:List Nat}{a k i c:Nat}(hc:c<k)(ha:a<k):rO (rC (Gn M l a k)) a a (gy (vX M l a a-1)) i c=rC (Gn M l (a+1) 0) i c:=by grind[rO,rC,Gn,oq]
def apu{σ:St}(hW:WF σ){p:Nat->Prop}{mv iv:B}{n:Nat}{M:Nat->Nat->Rat}(hM:dY p σ.h mv n (λ_=>n) M)(hz2:∀j i,j<n->i<n->Sz (M j i))(hz3:∀i,i<n->Sz (M i i-1)){l:List Nat}(hl:VB σ.h iv l)(hl1:l.length<=1000)(hln:∀i∈l,i<n):
  aC EN 152 [.c mv,.c iv] σ λr σ'=>(∃mb bs,r=.c (.sl mb 0 l.length (.ex l.length))/\σ.aj<=mb/\oh σ'.h mb l.length (rC (oq M l)) bs (mb+1) σ'.aj)/\Fr σ σ':=by
 refine aO (xP.o _ _) xP.h ?_
 unfold xP
 dsimp only
 have hlen:=hl.len
 have hFr:=Fr.refl hW
 have z1:=sz1
 simp(disch:=try exact jz) only[go_sem,z3,hlen]
 refine(Yl hW hl1).mono ?_
 rintro _ σ1 ⟨⟨bs,rfl,hX⟩,hf1⟩
 have hle1:=hf1.le
 have hnx1:=hX.l
 simp(disch:=try exact jz) only[go_sem,z3,hlen]
 refine aF (λx tm σ'=>∃a,x=l.length-a/\a<=l.length/\Tr.ah tm 0=.c mv/\Tr.ah tm 1=.c iv/\Tr.ah tm 5=.c (.sl σ.aj 0 l.length (.ex l.length))/\Tr.ah tm 13=.c iv/\Tr.ah tm 14=.c (.int .i64 (.ofNat l.length))/\Tr.ah tm 15=.c (.int .i64 (.ofNat a))
  /\oh σ'.h σ.aj l.length (rC (Gn M l a 0)) bs (σ.aj+1) σ1.aj/\Fr σ σ'/\σ1.aj<=σ'.aj) l.length ?_ ?_
 .refine⟨0,jb,jb,?_⟩
  simp(disch:=try exact jz) only[go_sem,z3,am]
  refine⟨?_,hf1,jp⟩
  have e:rC (Gn M l 0 0)=rC λ_ _=>0:=by grind[rC,Gn]
  grind
 .rintro x tm σ' ⟨a,rfl,ha,t0,t1,t5,t13,t14,t15,hX,hf,hnx⟩
  simp(disch:=try exact jz) only[go_sem,z3,t0,t1,t5,t13,t14,t15,aG]
  refine aH (λhlt=>?_) (λhlt=>?_)
  .obtain⟨bi,oi,ci,rfl,Qy⟩:=hl.one jb
   have hld:=hf.ld hW (Qy a hlt)
   have hia:=hln _ (iM hlt)
   obtain⟨bm,om,cm,T,rfl,-,ayz,hT⟩:=hM.at hia
   simp(disch:=try exact jz) only[go_sem,z3,t0,t1,t5,t13,t14,t15,hld,hlen]
   refine aF (λx tm σ2=>∃b,x=l.length-b/\b<=l.length/\Tr.ah tm 0=.c (.sl bm om n cm)/\Tr.ah tm 1=.c (.sl bi oi l.length ci)/\Tr.ah tm 5=.c (.sl σ.aj 0 l.length (.ex l.length))/\Tr.ah tm 6=.c (.int .i64 (.ofNat a))/\Tr.ah tm 7=.c (.int .i64 (.ofNat (at0 l a)))
    /\Tr.ah tm 13=.c (.sl bi oi l.length ci)/\Tr.ah tm 14=.c (.int .i64 (.ofNat l.length))/\Tr.ah tm 15=.c (.int .i64 (.ofNat a))/\Tr.ah tm 20=.c (.sl bi oi l.length ci)/\Tr.ah tm 21=.c (.int .i64 (.ofNat l.length))/\Tr.ah tm 22=.c (.int .i64 (.ofNat b))
    /\oh σ2.h σ.aj l.length (rC (Gn M l a b)) bs (σ.aj+1) σ1.aj/\Fr σ σ2/\σ1.aj<=σ2.aj) l.length ?_ ?_
   .refine⟨0,jb,jb,?_⟩
    simp(disch:=try exact jz) only[go_sem,z3,t0,t1,t5,t13,t14,t15,am]
    grind
   .rintro x VU σ2 ⟨b,rfl,hb,t0,t1,t5,t6,t7,t13,t14,t15,t20,t21,t22,hX2,hf2,hnx2⟩
    have KN:=Fr.refl hf2.wf
    obtain⟨q0,hR,-,-⟩:=hX2
    obtain⟨q1,g1,g2⟩:=hR.r a hlt
    have q1:σ2.h (bs a)=some ⟨cO l.length (Gn M l a b a),none⟩:=q1
    unfold yC at q0
    simp(disch:=try exact jz) only[go_sem,z3,t0,t1,t5,t6,t7,t13,t14,t15,t20,t21,t22,aG]
    refine aH (λhlb=>?_) (λhlb=>?_)
    .have YK:=hf2.ld hW (Qy b hlb)
     have hib:=hln _ (iM hlb)
     obtain⟨bt,ot,ct,rfl,-,atg⟩:=aY.at3 hT hib
     have atg:=hf2.ld hW atg
     have awz:=hf2.ld hW ayz
     simp(disch:=try exact jz) only[go_sem,z3,t0,t1,t5,t6,t7,t13,t14,t15,t20,t21,t22,YK,atg,awz,ak q0,ak q1,aI q1,q1]
     refine⟨l.length-(b+1),jb,b+1,rfl,jb,rfl,⟨(au _ _ _ _ jb).trans q0,?_,jb,jb⟩,fr,hnx2⟩
     rw[<-an9]
     refine hR.set hlt (dB λc _=>?_)
     unfold jk aN rC
     split<;>rfl
    .have:b=l.length:=jb
     subst this
     have hmm:=hM.at hia
     have z4:=hz2 _ _ hia hia
     have z5:=hz3 _ hia
     have e7:Gn M l a l.length a a=M (at0 l a) (at0 l a):=by unfold Gn;rw[ae jb,ab ⟨rfl,hlt⟩];rfl
     have q1e:zQ (cO l.length (Gn M l a l.length a)) (0+a*3) 3 true=some (.agg [.bool (rn (M (at0 l a) (at0 l a))),.str (rs (M (at0 l a) (at0 l a))),.str (rd (M (at0 l a) (at0 l a)))]):=by rw[cP,Ui _ _ _ hlt,e7]
     simp(disch:=try exact jz) only[go_sem,z3,t0,t1,t5,t6,t7,t13,t14,t15,t20,t21,ak q0,ak q1,aI q1,q1,e7]
     refine⟨l.length-(a+1),jb,a+1,rfl,jb,rfl,⟨(au _ _ _ _ jb).trans q0,?_,jb,jb⟩,fr,hnx2⟩
     refine(hR.set (x:=gy (M (at0 l a) (at0 l a)-1)) hlt (dB λc _=>?_)).congr λi _ c hc=>aj7 hc hlt
     unfold jk aN rC
     split<;>rfl
  .have:a=l.length:=jb
   subst this
   simp(disch:=try exact jz) only[go_sem,z3,t5]
   refine⟨⟨_,bs,rfl,jp,⟨hX.o,?_,hX.b,jb⟩⟩,hf⟩
   refine(hX.r.congr λi hi c _=>?_).mono (λ_ _ _=>rfl) jp hnx
   unfold rC Gn
   rw[ab hi]
structure kG(g:gB):Prop where
 n:g.e.length<=8
 bld:RU 60 g
 sm:aae 134217728 g
 z:Qb g=0
 k6:∀i,i<g.e.length->kE g.e i<=6
 ed:∀i,i<g.e.length->ED 60 100 (kE g.e i) (dX (ix g.e i))
 eb:∀i,i<g.e.length->EB (kE g.e i) (dX (ix g.e i))
 er:∀i,i<g.e.length->dS (dX (ix g.e i)).rk<=48/\(dX (ix g.e i)).rk.length<=8/\(dX (ix g.e i)).ps.length<=2/\∀p∈(dX (ix g.e i)).ps,dS p.2<=28/\p.2.length<=4
 cap:∀i,i<g.e.length->∀k,qp 60 100 (ix (ix g.e i).c k).a.q
 hold:∀i,i<g.e.length->∀c,c<kE g.e i->(ix (ix g.e i).c c).h=.negSucc 0\/∃hh:Nat,(ix (ix g.e i).c c).h=.ofNat hh/\hh<g.e.length
 m:∀i,i<g.e.length->(ix g.e i).m.fits 1000000/\qp 60 100 (ix g.e i).m.q
 d3:g.d.length<=3
 d:∀d,d<g.d.length->(ix g.d d).l.length<=4/\(ix g.d d).w.fits 1000000/\qp 60 100 (ix g.d d).w.q
def ayA:(100:Rat)<=uQ:=by
 have h:((100:Nat):Rat)<=uQ:=by unfold uQ;grind
 exact h
def qp.mn{A:Nat}{U V q:Rat}(h:qp A U q)(hUV:U<=V):qp A V q:=⟨h.1,h.2.1,cQ h.2.2 hUV⟩
def yj.mn{P Q:Rat->Prop}(hPQ:∀q,P q->Q q){n:Nat}{l:gW}(h:yj P n l):yj Q n l:=λt ht p hp=>⟨(h t ht p hp).1,hPQ _ (h t ht p hp).2⟩
def ED.mn{A n:Nat}{U V:Rat}{e:fJ}(h:ED A U n e)(hUV:U<=V):ED A V n e:=⟨yj.mn (λ_ h=>qp.mn h hUV) h.rk,λp hp=>yj.mn (λ_ h=>qp.mn h hUV) (h.ps p hp)⟩
def ED.uq{A n:Nat}{e:fJ}(h:ED A 100 n e):ED A uQ n e:=h.mn ayA
def YL{n k:Nat}{l:gW}{m:Rat}(h:yj (λq=>eX 60 q/\0<=q/\q<=100) n l)(h0:0<=m)(hk:dS l<=k)(h1:1<=k):wP 60 l m<=6000*k:=by
 unfold wP;split
 .next hf=>
  have ht:=gJ hf;have h2:=Yu (h _ ht);have h3:=EJ ht;obtain⟨e,-⟩:=U8 (A:=60) jj (DR (h.D _ ht)) (Ai h0 hf);generalize aW (ix l (dZ l m))=s at*;refine Pv ?_;have e60:((60:Nat):Rat)=60:=rfl;have e18:((6000:Nat):Rat)=6000:=rfl;have h4:((ix l (dZ l m)).length:Rat)<=(k:Rat):=bz.mpr jb;grind
 .omega
def YM{n k:Nat}{m:Rat}{e:fJ}(h:ED 60 100 n e)(h0:0<=m)(h1:1<=k):∀{l:List (List Nat×gW)},(∀p∈l,p∈e.ps/\dS p.2<=k)->ae0 60 e m l<=(6000*k)^l.length
 |[],_=>cT 1
 |p::l,hl=>by unfold ae0;rw[ce,dI,dT];exact cH (YM h h0 h1 λq hq=>hl q (by simp[hq])) (YL (h.ps p (hl p kc).1) (nV h.nn h0 p) (hl p kc).2 h1)
def abk{D b:Nat}(h0:0<D)(h:D<=2^b)(hb:b<=200000000):Ce D:=by refine⟨h0,da h (aL adb (bL jj ?_))⟩;unfold dK;omega
def eB:Nat:=424
theorem YO:eB=424:=rfl
def gE(g:gB)(x:Nat->Rat):Nat:=Pq g.e.length λi=>Cb 60 (dX (ix g.e i)) (x i)
section
variable {g:gB} {B b:Nat} {x:Nat→Rat}
def kG.cur(h:kG g){i:Nat}(hi:i<g.e.length){y:Rat}(hy:0<=y):0<Cb 60 (dX (ix g.e i)) y/\Cb 60 (dX (ix g.e i)) y<=2^53:=by
 have hE:=h.ed i hi;obtain⟨h1,-,h2,h3⟩:=h.er i hi;refine⟨IB jj hE hy,?_⟩;have a:=YL hE.rk hy h1 jj;have b:=YM (k:=28) hE hy jj (l:=(dX (ix g.e i)).ps) λp hp=>⟨hp,(h3 p hp).1⟩
 have c:(6000*28)^(dX (ix g.e i)).ps.length<=(6000*28)^2:=bL jj h2;exact aw (cH a (aw b c)) jj
def kG.gE(h:kG g)(hx:∀i,i<g.e.length->0<=x i):0<Xe.gE g x/\Xe.gE g x<=2^eB:=by refine⟨SG λi hi=>(h.cur hi (hx i hi)).1,?_⟩;have h1:=Yt (n:=g.e.length) (k:=2^53) λi hi=>(h.cur hi (hx i hi)).2;refine aw h1 ?_;rw[<-Nat.pow_mul];exact yU (by have:=h.n;grind[YO])
def VG(x:Nat->Rat){i:Nat}(hi:i<g.e.length):Cb 60 (dX (ix g.e i)) (x i)∣Xe.gE g x:=SH (f:=λi=>Cb 60 (dX (ix g.e i)) (x i)) hi
def kG.dok(h:kG g)(hB:0<B)(hb:B<=2^b)(hb2:b<=199000000)(hx:∀i,i<g.e.length->0<=x i):Ce (B*Xe.gE g x):=
 abk (b:=b+eB) (cn hB (h.gE hx).1) (kC hb (h.gE hx).2) (by grind[YO])
def ath{q:Rat}(h:qp 60 100 q):q<=vQ:=by have h1:=RH (k:=100) jj;grind
def YP{f:Nat->Rat}(hf:∀k,qp 60 100 (f k)):∀n,eX 60 (aB n f)/\0<=aB n f/\aB n f<=(n:Rat)*100
 |0=>⟨eX.zero _,bo,by show(0:Rat)<=((0:Nat):Rat)*100;simp⟩
 |n+1=>by obtain⟨h1,h2,h3⟩:=YP hf n;obtain⟨k1,k2,k3⟩:=hf n;have e:((n+1:Nat):Rat)=(n:Rat)+1:=gx _ _;exact⟨h1.add k1,by unfold aB;grind,by rw[e];unfold aB;grind⟩
def kG.I7(h:kG g):Jz g.e.length (aZ g):=aaH (OL h.z)
def kG.nn(h:kG g){i:Nat}(hi:i<g.e.length):BX (dX (ix g.e i)):=(h.ed i hi).nn
def kG.mg(h:kG g)(hB0:0<B)(h6:60∣B)(hb:B<=2^b)(hb2:b<=199000000)(hx:∀i,i<g.e.length->Yx B (x i)):Vr (B*Xe.gE g x) g x:=by
 have hz:=OL h.z;have hx0:∀i,i<g.e.length->0<=x i:=λi hi=>(hx i hi).2.1;have hD:=h.dok hB0 hb hb2 hx0;have hBD:B∣B*Xe.gE g x:=aM _ _;have h60:=bB h6 hBD;have hu:=vU;have hB:=h.bld;have hdv:∀i,i<g.e.length->B*Cb 60 (dX (ix g.e i)) (x i)∣B*Xe.gE g x:=λi hi=>cL _ (VG x hi);have hxZ:∀i,i<g.e.length->Zk (B*Xe.gE g x) 1 (x i):=λi hi=>rQ hD hBD (hx i hi).1 (hx i hi).2.1 (hx i hi).v;have hcZ:∀{q:Rat},qp 60 100 q->Zk (B*Xe.gE g x) 1 q:=λhq=>rQ hD h60 hq.1 hq.2.1 (ath hq);have Yf:∀i,i<g.e.length->BX (dX (ix g.e i))/\InE (kE g.e i) (dX (ix g.e i)):=λi hi=>LU (hz.e i hi);have hq:∀i,i<g.e.length->∀c,c<kE g.e i->0<=gq (aZ g) x (i,c)/\Zk (B*Xe.gE g x) 1 (gq (aZ g) x (i,c)):=λi hi c hc=>by obtain⟨h1,h2⟩:=Yf i hi;have h3:=Ju h1 (hx i hi).2.1 c;have h4:=as7 h1 h2 (hx i hi).2.1 hc;exact⟨h3,rQ hD (hdv i hi) (aiI jj hB0 h6 (h.ed i hi) (hx i hi).1 (hx i hi).2.1 c) h3 (cQ h4 (hx i hi).v)⟩
 have hr:∀i c,Zk (B*Xe.gE g x) 5000 (yu (aZ g) x (i,c)):=λi c=>by
  have h3:=h.d3;have key:∀j,j<=g.d.length->Zk (B*Xe.gE g x) (j*44) (Vk g x j (i,c)):=λj=>by
   induction j with
   |zero=>intro _;exact Zk.zero.mono (bp _)
   |succ j ih=>
    intro hj
    have hj':j<g.d.length:=jb
    rw[RZ x hj',cB]
    obtain⟨hl,-,hw⟩:=h.d j hj'
    have hlen:(dL g j).length=(ix g.d j).l.length:=di _
    refine(ih jb).add ((ac4 (K:=0) (M:=4) (hcZ hw) _ (λa ha=>?_) Zk.zero jb).mono jb)
    obtain⟨y,hy,rfl⟩:=cV.mp ha
    obtain⟨k,hk,rfl⟩:=aR hy
    rw[<-fE hk]
    obtain⟨e,c',h1,h2,h3⟩:=hB.lg j hj' k hk
    rw[h1]
    exact(hq e h2 c' h3).2
  rw[<-Ye];exact(key g.d.length jp).mono jb
 have hu5:=Vo;have hv:=RH (k:=1000001) jj;have ev:((1000001:Nat):Rat)=1000001:=rfl;rw[ev]at hv;refine⟨⟨⟨hD,hB.n,hB.d,λi hi=>?_,λi hi=>by have:=h.k6 i hi;omega,λd hd=>⟨(h.d d hd).2.1,(h.d d hd).2.2.2.1,hcZ (h.d d hd).2.2⟩,λd hd=>⟨hB.l d hd,hB.lg d hd⟩,λi hi=>hq i hi,λi hi c _=>(hr i c).sz hD jb,h.I7.nodup⟩,λi _ c _=>hr i c,λi hi=>⟨(h.m i hi).1,hcZ (h.m i hi).2⟩,h.hold⟩,λi hi=>?_,λi hi c _=>?_⟩
 .have hk6:=h.k6 i hi;obtain⟨s1,s2,s3⟩:=YP (h.cap i hi) (kE g.e i);have h4:((kE g.e i:Nat):Rat)<=((6:Nat):Rat):=bz.mpr jb;have e6:((6:Nat):Rat)=6:=rfl;have hT:Zk (B*Xe.gE g x) 1 (rW (ix g.e i) (kE g.e i)):=rQ hD h60 s1 s2 (by unfold rW;grind);exact⟨aiN hD h60 (h.ed i hi).uq (h.eb i hi),aiO jj hB0 h6 hD (hdv i hi) (h.ed i hi).uq (h.eb i hi) (hx i hi).1 (hx i hi).2.1 (hx i hi).v,hT.sz hD jb,((hxZ i hi).sub hT).sz hD jb⟩
 .exact aiP jj hB0 h6 hD (hdv i hi) (h.ed i hi).uq (h.eb i hi) (hx i hi).1 (hx i hi).2.1 (hx i hi).v
 .have h1:=rH (h.ed i hi).nn (hx i hi).2.1 c;have h2:=Vx (h.ed i hi).uq (h.eb i hi) (hx i hi).2.1 c;exact⟨h1,rQ hD (bB (fu _ _) (hdv i hi)) (aiJ jj (h.ed i hi) (hx i hi).2.1 c) h1 (cQ h2 hv)⟩
def kG.map(h:kG g)(hB0:0<B)(h6:60∣B)(hb:B<=2^b)(hb2:b<=199000000)(hx:∀i,i<g.e.length->Yx B (x i)):aa3 60 (B*Xe.gE g x) g x:=by have hD:=h.dok hB0 hb hb2 λi hi=>(hx i hi).2.1;have hu:=vU;exact⟨abk (b:=6) jj jj jj,h.bld,(h.mg hB0 h6 hb hb2 hx).A,h.sm,h.z,λi hi=>⟨(hx i hi).2.1,(rQ hD (aM _ _) (hx i hi).1 (hx i hi).2.1 (hx i hi).v).sz hD jb⟩⟩
def kG.sub(h:kG g)(hx:∀i,i<g.e.length->0<=x i):Ii g.e.length (gM g.e.length (aZ g) x):=(vW h.I7).sub hx
def kG.slD(h:kG g)(hx:∀i,i<g.e.length->0<=x i){i:Nat}(hi:i<g.e.length)(c:Nat):eX (Xe.gE g x) (yh (dX (ix g.e i)) (x i) c):=
 (aiJ jj (h.ed i hi) (hx i hi) c).dvd (VG x hi) (h.gE hx).1
def kG.mD(h:kG g)(hx:∀i,i<g.e.length->0<=x i){j i:Nat}(hi:i<g.e.length):eX (Xe.gE g x) (gM g.e.length (aZ g) x j i):=by
 have hgk:=h.I7;have hgs:∀l:fM,l.1<g.e.length->eX (Xe.gE g x) (gs (aZ g) x i l):=λl hl=>by
  unfold gs;split
  .exact h.slD hx hl l.2
  .exact eX.zero _
 unfold gM;refine eX.add (aa8 λc _=>?_) (eX.sum λd hd=>?_)
 .grind[eX.zero]
 .have hl:=λl hl=>hgs l (um hgk hd (l:=l) hl);grind[Go.Proofs.Xe.eX.sum,Go.Proofs.Ins.dM,Go.Proofs.Xe.eX.add,Go.Proofs.Xe.ajM,Go.Proofs.Xe.eX.zero,Go.Proofs.Ins.nZ]
def kG.m01(h:kG g)(hx:∀i,i<g.e.length->0<=x i){j i:Nat}(hj:j<g.e.length)(hi:i<g.e.length):0<=gM g.e.length (aZ g) x j i/\gM g.e.length (aZ g) x j i<=1:=by have hM:=h.sub hx;exact⟨hM.nn j i hj hi,cQ (DI (f:=λj=>gM g.e.length (aZ g) x j i) hj λk hk=>hM.nn k i hk hi) (hM.le i hi)⟩
def VH{D b K:Nat}{q:Rat}(hD:0<D)(hb:D<=2^b)(h:eX D q)(h0: -(K:Rat)<=q)(h1:q<=(K:Rat)):∃z:Int,q=(z:Rat)/(D:Rat)/\z.natAbs<=K*D:=by
 obtain⟨z,rfl⟩:=h;refine⟨z,rfl,?_⟩;have hD':=iK hD;have hp:=Px hD;have e:(z:Rat)/(D:Rat)*(D:Rat)=(z:Rat):=by grind
 have h4:=bj h1 (eo hp);have h5:=bj h0 (eo hp);rw[e]at h4 h5;have e2: -(K:Rat)*(D:Rat)=((-((K*D:Nat):Int):Int):Rat):=by rw[Rat.intCast_neg];have:(((K*D:Nat):Int):Rat)=(K:Rat)*(D:Rat):=fh _ _;grind
 rw[<-fh]at h4;rw[e2]at h5;have h4:((z:Int):Rat)<=(((K*D:Nat):Int):Rat):=h4;have h4:=gl.mp h4;have h5:=gl.mp h5;omega
def VI{D b k K:Nat}{q:Rat}(hD:0<D)(hb:D<=2^b)(h:eX D q)(hk:K<=2^k)(h0: -(K:Rat)<=q)(h1:q<=(K:Rat)):lJ (b+k) q:=by obtain⟨z,e,hz⟩:=VH hD hb h h0 h1;exact⟨z,D,hD,aw hb (yU jb),aw hz (by rw[fq];exact kC hk hb),e⟩
def kG.ayB(h:kG g)(hx:∀i,i<g.e.length->0<=x i){l:List Nat}(hl:∀i∈l,i<g.e.length):D8 l.length l.length eB (oq (gM g.e.length (aZ g) x) l):=by
 obtain⟨p1,p2⟩:=h.gE hx;refine⟨Xe.gE g x,p1,p2,λa c ha hc=>?_⟩;have h1:=hl _ (iM ha);have h2:=hl _ (iM hc);have h3:=h.m01 hx h1 h2;have h4:=h.mD hx (j:=at0 l a) h2;have e1:((1:Nat):Rat)=1:=rfl;have hone:eX (Xe.gE g x) (1:Rat):=⟨Xe.gE g x,by have:=iK p1;have e:(((Xe.gE g x:Nat):Int):Rat)=((Xe.gE g x:Nat):Rat):=rfl;grind⟩
 have hd:eX (Xe.gE g x) (oq (gM g.e.length (aZ g) x) l a c):=by unfold oq vX;refine h4.sub ?_;grind[eX.zero]
 obtain⟨z,e,hz⟩:=VH (K:=1) p1 p2 hd (by grind[oq,vX]) (by grind[oq,vX]);grind
end
def YR(o:Option Rat)(q:Rat):Option Rat:=match o with
 |none=>some q
 |some m=>if q<m then some q else some m
def gq0:Option Rat->Rat
 |some q=>q
 |none=>0
structure Qz(h:Tr Bk)(fb ob:Nat)(o:Option Rat):Prop where
 f:h fb=some ⟨[.bool o.isSome],none⟩
 o:h ob=some ⟨[.bool (rn (gq0 o)),.str (rs (gq0 o)),.str (rd (gq0 o))],none⟩
def aj8{σ:St}(hW:WF σ){fb ob:Nat}{o:Option Rat}(hO:Qz σ.h fb ob o)(hne:fb≠ob){gap rate:Rat}(zg:Sz gap)(zr:Sz rate)(h0:0<rate)(zq:Sz (gap/rate))(zo:Sz (gq0 o)):
  aC EN 156 [.agg [.bool (rn gap),.str (rs gap),.str (rd gap)],.agg [.bool (rn rate),.str (rs rate),.str (rd rate)],.c (.ptr fb 0),.c (.ptr ob 0)] σ λ_ σ'=>Qz σ'.h fb ob (YR o (gap/rate))/\aU [fb,ob] σ σ':=by
 refine aO (jl.o _ _) jl.h ?_
 unfold jl
 dsimp only
 obtain⟨q1,q2⟩:=hO
 have l1:=hW.lt q1
 have l2:=hW.lt q2
 have hdiv:Hu gap rate=gap/rate:=by grind[Hu]
 have hFr:=aU.refl (ex:=[fb,ob]) hW
 cases o with
 |none=>
  have q1:σ.h fb=some ⟨[.bool false],none⟩:=q1
  simp(disch:=try exact jz) only[go_sem,z3,hdiv,ak q1,q1,q2,aI q1,aI q2]
  exact⟨⟨aA _ _ _,(au _ _ _ _ (Ne.symm hne)).trans (aA _ _ _)⟩,by repeat(first|assumption|exact aU.refl (by assumption)|exact aU.up (by assumption) kf|exact aU.up (aU.refl (by assumption)) kf|refine aU.set1 ?_ kg kf|refine aU.kF ?_ kg|refine aU.nR ?_ kg|refine aU.oH ?_ kf)⟩
 |some m=>
  have q1:σ.h fb=some ⟨[.bool true],none⟩:=q1
  have q2:σ.h ob=some ⟨[.bool (rn m),.str (rs m),.str (rd m)],none⟩:=q2
  have zo:Sz m:=zo
  simp(disch:=try exact jz) only[go_sem,z3,hdiv,ak q1,q1,ak q2,q2,VA]
  refine aH (λhs=>?_) (λhs=>?_)
  .simp(disch:=try exact jz) only[go_sem,z3,hdiv,ak q1,q1,ak q2,q2,aI q1,aI q2]
   have e:YR (some m) (gap/rate)=some (gap/rate):=ab hs
   rw[e]
   exact⟨⟨aA _ _ _,(au _ _ _ _ (Ne.symm hne)).trans (aA _ _ _)⟩,by repeat(first|assumption|exact aU.refl (by assumption)|exact aU.up (by assumption) kf|exact aU.up (aU.refl (by assumption)) kf|refine aU.set1 ?_ kg kf|refine aU.kF ?_ kg|refine aU.nR ?_ kg|refine aU.oH ?_ kf)⟩
  .simp(disch:=try exact jz) only[go_sem,z3,am]
   have e:YR (some m) (gap/rate)=some m:=ae hs
   rw[e]
   refine⟨⟨?_,?_⟩,by repeat(first|assumption|exact aU.refl (by assumption)|exact aU.up (by assumption) kf|exact aU.up (aU.refl (by assumption)) kf|refine aU.set1 ?_ kg kf|refine aU.kF ?_ kg|refine aU.nR ?_ kg|refine aU.oH ?_ kf)⟩
   .grind[au]
   grind[au]
def Au(l:List Rat):Option Rat:=l.foldl YR none
def SQ(l:List Rat)(q:Rat):Au (l++[q])=YR (Au l) q:=by grind[Au]
def JU:∀(l:List Rat) (m:Rat),∃k,l.foldl YR (some m)=some k/\(k=m\/k∈l)/\k<=m/\∀v∈l,k<=v
 |[],m=>⟨m,rfl,.inl rfl,bo,λv hv=>by cases hv⟩
 |a::l,m=>by
  rw[List.foldl_cons];by_cases h:a<m
  .rw[show YR (some m) a=some a from ab h];obtain⟨k,h1,h2,h3,h4⟩:=JU l a;grind
  .rw[show YR (some m) a=some m from ae h];obtain⟨k,h1,h2,h3,h4⟩:=JU l m;grind
def VJ(l:List Rat):(l=[]/\Au l=none)\/∃m,Au l=some m/\m∈l/\∀v∈l,m<=v:=by
 cases l with
 |nil=>exact .inl ⟨rfl,rfl⟩
 |cons a l=>
  obtain⟨k,h1,h2,h3,h4⟩:=JU l a
  refine .inr ⟨k,h1,?_,λv hv=>?_⟩
  .grind
  grind
theorem VW.uniq{e:fJ}{n:Nat}{z x:Rat}{o o':Option Rat}(h:VW e n z x o)(h':VW e n z x o'):o=o':=by
 induction h with
 |no h=>cases h' with
  |no=>rfl
  |stop h2=>grind
  |go h2=>grind
 |stop h hs=>cases h' with
  |no h2=>grind
  |stop h2=>grind
  |go h2 hs2=>grind
 |go h hs _ ih=>cases h' with
  |no h2=>grind
  |stop h2 hs2=>grind
  |go h2 _ hr=>grind
open Classical in
noncomputable def nxE(e:fJ)(n:Nat)(x:Rat):Option Rat:=if h:∃o,VW e n x x o then h.choose else none
def aj9{e:fJ}{n:Nat}{x:Rat}{o:Option Rat}(h:VW e n x x o):nxE e n x=o:=by
 have h2:∃o,VW e n x x o:=⟨o,h⟩
 grind[nxE,VW.uniq]
noncomputable def mJ(g:gB)(x:Nat->Rat)(i:Nat):Option Rat:=(nxE (dX (ix g.e i)) (kE g.e i) (x i)).map λy=>y-x i
theorem SS{W:Rat}{q r:fM->Rat}:∀(t:List fM) (a:fM) (Q R:Rat),qF W q r Q R (t++[a])=qF W q r Q R t++(if Q+aK t q+q a<W/\0<R+aK t r+r a then [(W-(Q+aK t q+q a))/(R+aK t r+r a)]else [])
 |[],a,Q,R=>by show(if _ then _ else _)++[]=[]++_;simp_all[aK,dc]
 |b::t,a,Q,R=>by show(if _ then _ else _)++qF W q r _ _ (t++[a])=((if _ then _ else _)++qF W q r _ _ t)++_;rw[SS t a,il];have e1:aK (b::t) q=q b+aK t q:=rfl;have e2:aK (b::t) r=r b+aK t r:=rfl;rw[e1,e2,fa Q,fa R]
noncomputable def VK(g:gB)(x d:Nat->Rat)(j:Nat):List Rat:=BD (mJ g x) d g.e.length++((aZ g).ds.take j).flatMap λd'=>qF d'.1 (gq (aZ g) x) (gr (aZ g) x d) 0 0 d'.2
noncomputable def D9(g:gB)(x d:Nat->Rat)(j k:Nat):List Rat:=VK g x d j++qF (dW g j) (gq (aZ g) x) (gr (aZ g) x d) 0 0 ((dL g j).take k)
def afv(g:gB)(x d:Nat->Rat)(j:Nat):D9 g x d j 0=VK g x d j:=by unfold D9;rw[cM];exact dE _
def akb(g:gB)(x d:Nat->Rat){j:Nat}(h:j<g.d.length):D9 g x d j (dL g j).length=VK g x d (j+1):=by grind[D9,VK,take_snoc,yw,OZ]
def afw(g:gB)(x d:Nat->Rat){j k:Nat}(h:k<(dL g j).length):D9 g x d j (k+1)=D9 g x d j k++(if aK ((dL g j).take (k+1)) (gq (aZ g) x)<dW g j/\0<aK ((dL g j).take (k+1)) (gr (aZ g) x d)then [(dW g j-aK ((dL g j).take (k+1)) (gq (aZ g) x))/aK ((dL g j).take (k+1)) (gr (aZ g) x d)]else []):=by grind[D9,take_snoc,SS,mM]
structure NrN(D:Nat)(g:gB)(x d:Nat->Rat):Prop where
 m:Vr D g x
 nn:∀i,i<g.e.length->BX (dX (ix g.e i))/\0<=x i
 dz:∀i,i<g.e.length->Sz (d i)
 nx:∀i,i<g.e.length->0<d i->∃S:Rat->Prop,S (x i)/\(∀m,S m->∃D,Ce D/\EOk D (kE g.e i) (dX (ix g.e i))/\MOk D (dX (ix g.e i)) m/\ROk D (dX (ix g.e i)) m/\SOk (dX (ix g.e i)) m)/\∀m t,S m->Io (dX (ix g.e i)) m=some t->S (m+t)
 ny:∀i,i<g.e.length->0<d i->∀y,nxE (dX (ix g.e i)) (kE g.e i) (x i)=some y->Sz y/\Sz (y-x i)/\Sz ((y-x i)/d i)
 c1:∀i,i<=g.e.length->Sz (gq0 (Au (BD (mJ g x) d i)))
 c2:∀j,j<g.d.length->∀k,k<=(dL g j).length->Sz (gq0 (Au (D9 g x d j k)))/\Sz (dW g j-aK ((dL g j).take k) (gq (aZ g) x))/\Sz (aK ((dL g j).take k) (gr (aZ g) x d))
  /\Sz ((dW g j-aK ((dL g j).take k) (gq (aZ g) x))/aK ((dL g j).take k) (gr (aZ g) x d))
 c3:∀j,j<g.d.length->∀l∈dL g j,Sz (gq (aZ g) x l)/\Sz (gs (aZ g) x l.1 l)/\Sz (gr (aZ g) x d l)
def SV{σ:St}(hW:WF σ){sb:Nat}{g:gB}{x d:Nat->Rat}(hs:DW (Lt σ.aj) σ.h sb g){p:Nat->Prop}{xv Y8 Dv Sv:B}(hx:jc p σ.h xv g.e.length x)(hd:jc p σ.h Y8 g.e.length d)(hDv:dY p σ.h Dv g.e.length (kE g.e) (Qm g x))(hSv:dY p σ.h Sv g.e.length (kE g.e) (KO g x)){D:Nat}(hN:NrN D g x d):
  aC EN 100 [.c (.ptr sb 0),.c xv,.c Y8,.agg [Dv,Sv]] σ λr σ'=>r=.aV (.agg [.bool (rn (gq0 (Au (jR g.e.length (aZ g) (mJ g x) x d)))),.str (rs (gq0 (Au (jR g.e.length (aZ g) (mJ g x) x d)))),.str (rd (gq0 (Au (jR g.e.length (aZ g) (mJ g x) x d))))]) (.aV (.c (.bool (Au (jR g.e.length (aZ g) (mJ g x) x d)).isSome)) .tnil)/\Fr σ σ':=by
 refine aO (jG.o _ _) jG.h ?_
 unfold jG
 dsimp only
 have hs':=hs
 obtain⟨⟨ev,gv,lv,bv,hsb,hg,⟨R,P,hL1,hL2⟩,hB⟩,hsl⟩:=hs
 have Za:=hN.m.A.s
 have hn:=Za.n
 have hnd:=Za.d
 have hD:=Za.hD
 have hlk:=hL1.kn
 have hll:=hL1.len
 have hlD:=hg.d.len
 have hdk:=hg.d.kn
 have k1:=hDv.kn
 have k2:=hSv.kn
 have hsl:sb<σ.aj:=hsl
 have hFr:=Fr.refl hW
 simp(disch:=try exact jz) only[go_sem,z3,k1,k2,ak hsb,hll,hlk]
 refine bK.mono (Q:=λex tm σ'=>ex=.exit 0/\Tr.ah tm 0=.c (.ptr sb 0)/\Tr.ah tm 2=.c Y8/\Tr.ah tm 7=.c (.ptr σ.aj 0)/\Tr.ah tm 8=.c (.ptr (σ.aj+1) 0)/\Tr.ah tm 10=.c (.ptr (σ.aj+1+1) 0)/\Tr.ah tm 11=.c (.ptr (σ.aj+1+1+1) 0)/\Tr.ah tm 12=.fn 156 [.ptr (σ.aj+1+1+1) 0,.ptr (σ.aj+1+1) 0]
   /\σ'.h σ.aj=some ⟨[Dv,Sv],none⟩/\σ'.h (σ.aj+1)=some ⟨[.bool (rn 0),.str (rs 0),.str (rd 0)],none⟩/\Qz σ'.h (σ.aj+1+1+1) (σ.aj+1+1) (Au (BD (mJ g x) d g.e.length))/\Fr σ σ'/\σ.aj+1+1+1+1<=σ'.aj)
  (aF (λq tm σ'=>∃i,q=g.e.length-i/\i<=g.e.length/\Tr.ah tm 0=.c (.ptr sb 0)/\Tr.ah tm 1=.c xv/\Tr.ah tm 2=.c Y8/\Tr.ah tm 7=.c (.ptr σ.aj 0)/\Tr.ah tm 8=.c (.ptr (σ.aj+1) 0)/\Tr.ah tm 10=.c (.ptr (σ.aj+1+1) 0)/\Tr.ah tm 11=.c (.ptr (σ.aj+1+1+1) 0)/\Tr.ah tm 12=.fn 156 [.ptr (σ.aj+1+1+1) 0,.ptr (σ.aj+1+1) 0]
   /\Tr.ah tm 27=.c lv/\Tr.ah tm 28=.c (.int .i64 (.ofNat g.e.length))/\Tr.ah tm 29=.c (.int .i64 (.ofNat i))/\σ'.h σ.aj=some ⟨[Dv,Sv],none⟩/\σ'.h (σ.aj+1)=some ⟨[.bool (rn 0),.str (rs 0),.str (rd 0)],none⟩/\Qz σ'.h (σ.aj+1+1+1) (σ.aj+1+1) (Au (BD (mJ g x) d i))/\Fr σ σ'/\σ.aj+1+1+1+1<=σ'.aj) g.e.length ?_ ?_) ?_
 .refine⟨0,jb,jb,?_⟩
  simp(disch:=try exact jz) only[go_sem,z3,am]
  refine⟨⟨aA _ _ _,?_⟩,fr,jb⟩
  rw[au _ _ _ _ jb,au _ _ _ _ jb,aA]
  rfl
 .rintro q tm σ' ⟨i,rfl,hi,t0,t1,t2,t7,t8,t10,t11,t12,t27,t28,t29,q7,q8,hO,hf,hnx⟩
  have hle:=hf.le
  have jm:=Fr.refl hf.wf
  simp(disch:=try exact jz) only[go_sem,z3,t0,t1,t2,t7,t8,t10,t11,t12,t27,t28,t29,aG]
  refine aH (λhlt=>?_) (λhlt=>?_)
  .obtain⟨b5,o5,c5,rfl,-,bP⟩:=hL1.pos jb
   have hLi:=hL2 i hlt
   have hRk:=hLi.rk.kn
   have hPk:=hLi.VX
   obtain⟨he1,he2,-,-⟩:=Za.e i hlt
   have bP:=hf.ld hW (bP i hlt)
   obtain⟨b6,o6,c6,e6,-,bH⟩:=aY.at3 hd hlt
   obtain⟨b7,o7,c7,e7,-,dw⟩:=aY.at3 hx hlt
   have azK:=hW.dF bH
   have awC:=hW.dF dw
   have bH:=hf.ld hW bH
   have dw:=hf.ld hW dw
   have a6:V.c (.sl b6 o6 g.e.length c6)=V.c Y8:=by rw[e6]
   have a7:V.c (.sl b7 o7 g.e.length c7)=V.c xv:=by rw[e7]
   rw[e6]at t2
   rw[e7]at t1
   have hb6:=hf.wf.dF bH
   have hb7:=hf.wf.dF dw
   have hb5:=hf.wf.dF bP
   have z1:=hN.dz i hlt
   unfold jB at bP
   by_cases hp:0<d i
   .have hl7:=hf.wf.lt q7
    obtain⟨S,s1,s2,s3⟩:=hN.nx i hlt hp
    obtain⟨n1,n2⟩:=hN.nn i hlt
    have hzO:=hN.c1 i hi
    obtain⟨Dx,-,-,zx,-,-⟩:=s2 _ s1
    have zx:=zx.hm
    simp(disch:=try exact jz) only[go_sem,z3,t0,t1,t2,t7,t8,t10,t11,t12,t27,t28,t29,bP,bH,dw,hRk,hPk,hp]
    refine aC.st (Fr σ') (fr) λgU=>?_
    have hf5:=hf.trans gU
    refine(ash gU.wf _ (dX (ix g.e i)) ((hLi.keep (λb hb=>hf5.old b hb) λ_ h=>h).lay) (x i) n1 n2 S s1 s2 s3).mono ?_
    rintro _ σ6 ⟨⟨o,ho,rfl⟩,iw⟩
    have lK:=gU.trans iw
    have aaO:=hf.trans lK
    have Aj:σ'.aj+1+1<=σ6.aj:=iw.le
    have hy6:σ6.h (σ'.aj+1)=some ⟨[.bool (rn 0),.str (rs 0),.str (rd 0)],none⟩:=iw.get gU.wf (aA _ _ _)
    have q76:=lK.get hf.wf q7
    have q86:=lK.get hf.wf q8
    have hO6:Qz σ6.h (σ.aj+1+1+1) (σ.aj+1+1) (Au (BD (mJ g x) d i)):=⟨lK.get hf.wf hO.f,lK.get hf.wf hO.o⟩
    have awD:=lK.ld hf.wf bH
    have awE:=lK.ld hf.wf dw
    have hno:=aj9 ho
    cases o with
    |none=>
     have hds:mJ g x i=none:=by unfold mJ;rw[hno];rfl
     have hcn:BD (mJ g x) d (i+1)=BD (mJ g x) d i:=by show _++_=_;rw[ab hp,hds,dE]
     unfold asg
     simp(disch:=try exact jz) only[go_sem,z3,t0,t1,t2,t7,t8,t10,t11,t12,t27,t28,t29,ak hy6,hy6,aI hy6]
     have hW6:=iw.wf
     refine⟨g.e.length-(i+1),jb,i+1,rfl,jb,a7,a6,rfl,q76,q86,?_,fr,jb⟩
     rw[hcn]
     exact⟨(au _ _ _ _ jb).trans hO6.f,(au _ _ _ _ jb).trans hO6.o⟩
    |some y=>
     have hds:mJ g x i=some (y-x i):=by unfold mJ;rw[hno];rfl
     have hcn:BD (mJ g x) d (i+1)=BD (mJ g x) d i++[(y-x i)/d i]:=by show _++_=_;rw[ab hp,hds]
     obtain⟨y1,y2,y3⟩:=hN.ny i hlt hp y hno
     unfold asg
     simp(disch:=try exact jz) only[go_sem,z3,t0,t1,t2,t7,t8,t10,t11,t12,t27,t28,t29,ak hy6,hy6,aI hy6,awD,awE]
     refine aC.st (Fr σ') (by have hW6:=iw.wf;exact fr) λsJ=>?_
     have hO7:Qz (hset σ6.h (σ'.aj+1) ⟨[.bool (rn y),.str (rs y),.str (rd y)],none⟩) (σ.aj+1+1+1) (σ.aj+1+1) (Au (BD (mJ g x) d i)):=⟨(au _ _ _ _ jb).trans hO6.f,(au _ _ _ _ jb).trans hO6.o⟩
     refine(aj8 sJ.wf hO7 jb y2 z1 hp y3 hzO).mono ?_
     rintro v8 σ8 ⟨hO8,oP⟩
     rw[<-SQ,<-hcn]at hO8
     have ajx:σ6.aj<=σ8.aj:=oP.le
     have LM:=aU.to (hf.trans sJ) oP λb hb=>by simp at hb;omega
     have awF:=oP.ld sJ.wf (by simp<;>omega) (sJ.ld hf.wf bH)
     have q78:=oP.get sJ.wf (by simp<;>omega) (sJ.get hf.wf q7)
     have q88:=oP.get sJ.wf (by simp<;>omega) (sJ.get hf.wf q8)
     simp(disch:=try exact jz) only[go_sem,z3,t0,t1,t2,t7,t8,t10,t11,t12,t27,t28,t29,awF]
     exact⟨g.e.length-(i+1),jb,i+1,rfl,jb,a7,a6,rfl,q78,q88,hO8,LM,jb⟩
   .have hcn:BD (mJ g x) d (i+1)=BD (mJ g x) d i:=by show _++_=_;rw[ae hp,dE]
    simp(disch:=try exact jz) only[go_sem,z3,t0,t1,t2,t7,t8,t10,t11,t12,t27,t28,t29,bP,bH,hRk,hPk,hp]
    refine⟨g.e.length-(i+1),jb,i+1,rfl,jb,a7,a6,rfl,q7,q8,?_,fr,jb⟩
    rw[hcn]
    have hl7:=hf.wf.lt q7
    refine⟨?_,?_⟩
    .repeat rw[au _ _ _ _ jb]
     exact hO.f
    .repeat rw[au _ _ _ _ jb]
     exact hO.o
  .have:i=g.e.length:=jb
   subst this
   simp(disch:=try exact jz) only[go_sem,z3,am]
   exact⟨t0,t2,t7,t8,t10,t11,t12,q7,q8,hO,hf,hnx⟩
 rintro _ tm σ3 ⟨rfl,t0,t2,t7,t8,t10,t11,t12,q7,q8,hO,hf3,hn3⟩
 have hle3:=hf3.le
 have ai7:=hf3.get hW hsb
 have hcz:BD (mJ g x) d g.e.length=VK g x d 0:=by unfold VK;rw[cM];exact(dE _).symm
 rw[hcz]at hO
 simp(disch:=try exact jz) only[go_sem,z3,t0,t2,t7,t8,t10,t11,t12,ak ai7,hlD,hdk]
 refine aF (λq tm σ'=>∃j,q=g.d.length-j/\j<=g.d.length/\Tr.ah tm 2=.c Y8/\Tr.ah tm 7=.c (.ptr σ.aj 0)/\Tr.ah tm 8=.c (.ptr (σ.aj+1) 0)/\Tr.ah tm 10=.c (.ptr (σ.aj+1+1) 0)/\Tr.ah tm 11=.c (.ptr (σ.aj+1+1+1) 0)/\Tr.ah tm 12=.fn 156 [.ptr (σ.aj+1+1+1) 0,.ptr (σ.aj+1+1) 0]
   /\Tr.ah tm 67=.c gv/\Tr.ah tm 68=.c (.int .i64 (.ofNat g.d.length))/\Tr.ah tm 69=.c (.int .i64 (.ofNat j))
   /\σ'.h σ.aj=some ⟨[Dv,Sv],none⟩/\σ'.h (σ.aj+1)=some ⟨[.bool (rn 0),.str (rs 0),.str (rd 0)],none⟩/\Qz σ'.h (σ.aj+1+1+1) (σ.aj+1+1) (Au (VK g x d j))/\Fr σ σ'/\σ.aj+1+1+1+1<=σ'.aj) g.d.length ?_ ?_
 .refine⟨0,jb,jb,?_⟩
  simp(disch:=try exact jz) only[go_sem,z3,t2,t7,t8,t10,t11,t12,am]
  exact⟨q7,q8,hO,hf3,hn3⟩
 .rintro q tm σ' ⟨j,rfl,hj,t2,t7,t8,t10,t11,t12,t67,t68,t69,q7,q8,hO,hf,hnx⟩
  have hle:=hf.le
  simp(disch:=try exact jz) only[go_sem,z3,t2,t7,t8,t10,t11,t12,t67,t68,t69,aG]
  refine aH (λhlt=>?_) (λhlt=>?_)
  .obtain⟨b5,o5,c5,rfl,L1,bP,hL⟩:=hg.d.el hlt
   have bP:=hf.ld hW bP
   have hLk:=aY.kn hL
   have hlL:=aY.len hL
   obtain⟨hlen,II⟩:=Za.l j hlt
   obtain⟨hwf,hw0,hwz⟩:=Za.w j hlt
   have jm:=Fr.refl hf.wf
   have hw2:=pG hwf
   have hmx:Hw (rq (ix g.d j).w.n (ix g.d j).w.s (ix g.d j).w.d) 0=dW g j:=by rw[aaQ];exact JC hw0
   generalize hm:(ix g.d j).l.length=m at*
   have hdl:(dL g j).length=m:=(JG g j).trans hm
   have ajC:lenV (.c L1)=some (.c (.int .i64 (.ofNat m))):=hlL
   have hl7:=hf.wf.lt q7
   have hl8:=hf.wf.lt q8
   have hlf:=hf.wf.lt hO.f
   have hlo:=hf.wf.lt hO.o
   simp(disch:=try exact jz) only[go_sem,z3,t2,t7,t8,t10,t11,t12,t67,t68,t69,bP,hLk,ajC,hmx]
   refine bK.st (Fr σ') (fr) λgU=>?_
   have hf5:=hf.trans gU
   have wO:=gU.le
   refine bK.mono (Q:=λex tm σ4=>ex=.exit 4/\Tr.ah tm 2=.c Y8/\Tr.ah tm 7=.c (.ptr σ.aj 0)/\Tr.ah tm 8=.c (.ptr (σ.aj+1) 0)/\Tr.ah tm 10=.c (.ptr (σ.aj+1+1) 0)/\Tr.ah tm 11=.c (.ptr (σ.aj+1+1+1) 0)/\Tr.ah tm 12=.fn 156 [.ptr (σ.aj+1+1+1) 0,.ptr (σ.aj+1+1) 0]
    /\Tr.ah tm 67=.c (.sl b5 o5 g.d.length c5)/\Tr.ah tm 68=.c (.int .i64 (.ofNat g.d.length))/\Tr.ah tm 69=.c (.int .i64 (.ofNat j))/\σ4.h σ.aj=some ⟨[Dv,Sv],none⟩/\σ4.h (σ.aj+1)=some ⟨[.bool (rn 0),.str (rs 0),.str (rd 0)],none⟩/\Qz σ4.h (σ.aj+1+1+1) (σ.aj+1+1) (Au (D9 g x d j m))/\Fr σ σ4/\σ.aj+1+1+1+1<=σ4.aj)
    (aF (λq tm σ4=>∃k,q=m-k/\k<=m/\Tr.ah tm 2=.c Y8/\Tr.ah tm 7=.c (.ptr σ.aj 0)/\Tr.ah tm 8=.c (.ptr (σ.aj+1) 0)/\Tr.ah tm 10=.c (.ptr (σ.aj+1+1) 0)/\Tr.ah tm 11=.c (.ptr (σ.aj+1+1+1) 0)/\Tr.ah tm 12=.fn 156 [.ptr (σ.aj+1+1+1) 0,.ptr (σ.aj+1+1) 0]
     /\Tr.ah tm 19=.c (.ptr (σ'.aj+1) 0)/\Tr.ah tm 20=.c (.ptr (σ'.aj+1+1) 0)/\Tr.ah tm 67=.c (.sl b5 o5 g.d.length c5)/\Tr.ah tm 68=.c (.int .i64 (.ofNat g.d.length))/\Tr.ah tm 69=.c (.int .i64 (.ofNat j))/\Tr.ah tm 79=.c L1/\Tr.ah tm 80=.c (.int .i64 (.ofNat m))/\Tr.ah tm 81=.c (.int .i64 (.ofNat k))
     /\σ4.h σ.aj=some ⟨[Dv,Sv],none⟩/\σ4.h (σ.aj+1)=some ⟨[.bool (rn 0),.str (rs 0),.str (rd 0)],none⟩/\σ4.h (σ'.aj+1)=some ⟨[.bool (rn (dW g j-aK ((dL g j).take k) (gq (aZ g) x))),.str (rs (dW g j-aK ((dL g j).take k) (gq (aZ g) x))),.str (rd (dW g j-aK ((dL g j).take k) (gq (aZ g) x)))],none⟩
     /\σ4.h (σ'.aj+1+1)=some ⟨[.bool (rn (aK ((dL g j).take k) (gr (aZ g) x d))),.str (rs (aK ((dL g j).take k) (gr (aZ g) x d))),.str (rd (aK ((dL g j).take k) (gr (aZ g) x d)))],none⟩/\Qz σ4.h (σ.aj+1+1+1) (σ.aj+1+1) (Au (D9 g x d j k))/\Fr σ σ4/\σ'.aj+1+1+1<=σ4.aj) m ?_ ?_) ?_
   .refine⟨0,jb,jb,?_⟩
    simp(disch:=try exact jz) only[go_sem,z3,t2,t7,t8,t10,t11,t12,t67,t68,t69,am,cM]
    have e1:dW g j-aK ([]:List fM) (gq (aZ g) x)=dW g j:=by show dW g j-0=dW g j;grind
    rw[e1,afv]
    refine⟨q7,q8,rfl,rfl,⟨?_,?_⟩,hf5,jb⟩
    .repeat rw[au _ _ _ _ jb]
     exact hO.f
    .repeat rw[au _ _ _ _ jb]
     exact hO.o
   .rintro q VU σ4 ⟨k,rfl,hk,t2,t7,t8,t10,t11,t12,t19,t20,t67,t68,t69,t79,t80,Ap,q7,q8,q19,q20,hO,hf4,hn4⟩
    simp(disch:=try exact jz) only[go_sem,z3,t2,t7,t8,t10,t11,t12,t19,t20,t67,t68,t69,t79,t80,Ap,aG]
    refine aH (λhltk=>?_) (λhltk=>?_)
    .obtain⟨b8,o8,c8,e8,-,lI⟩:=aY.pos hL (show 0<(ix g.d j).l.length by omega)
     have lI:=hf4.ld hW (lI k jb)
     rw[hm]at e8
     rw[e8]at t79
     have a8:V.c (.sl b8 o8 m c8)=V.c L1:=by rw[e8]
     obtain⟨e,c,Ci,he,hc⟩:=II k hltk
     unfold Ll at lI
     rw[Ci]at lI
     have hlk2:k<(dL g j).length:=jb
     have hix:ix (dL g j) k=(e,c):=by rw[ajj (by omega:k<(ix g.d j).l.length),Ci];rfl
     have hmem:(e,c)∈dL g j:=by rw[<-hix];exact gJ hlk2
     obtain⟨b9,o9,c9,T,eD,-,O7,hT⟩:=hDv.at he
     obtain⟨ba,oa,ca,rfl,-,afx⟩:=aY.at3 hT hc
     obtain⟨bb,ob,cb,T2,eS,-,YK,hT2⟩:=hSv.at he
     obtain⟨bc,oc,cc,rfl,-,afy⟩:=aY.at3 hT2 hc
     obtain⟨bd,od,cd,e6,-,afz⟩:=aY.at3 hd he
     have azL:=hW.dF O7
     have azM:=hW.dF afx
     have azN:=hW.dF YK
     have azO:=hW.dF afy
     have hbd0:=hW.dF afz
     have uo:=hf4.le
     have O7:=hf4.ld hW O7
     have afx:=hf4.ld hW afx
     have YK:=hf4.ld hW YK
     have afy:=hf4.ld hW afy
     have afz:=hf4.ld hW afz
     rw[eD,eS]at q7
     rw[e6]at t2
     have a6:V.c (.sl bd od g.e.length cd)=V.c Y8:=by rw[e6]
     obtain⟨w1,w2,w3,-⟩:=hN.c2 j hlt k jb
     obtain⟨v1,v2,v3,v4⟩:=hN.c2 j hlt (k+1) jb
     obtain⟨u1,u2,u3⟩:=hN.c3 j hlt _ hmem
     have u1:Sz (Qm g x e c):=u1
     have u2:Sz (KO g x e c):=by have:gs (aZ g) x (e,c).1 (e,c)=KO g x e c:=ab rfl;rw[<-this];exact u2
     have u3:Sz (KO g x e c*d e):=u3
     have u4:=hN.dz e he
     have s1:dW g j-aK ((dL g j).take k) (gq (aZ g) x)-Qm g x e c=dW g j-aK ((dL g j).take (k+1)) (gq (aZ g) x):=by rw[take_snoc hlk2,mM,hix];show _-Qm g x e c=_-(_+Qm g x e c);grind
     have s2:aK ((dL g j).take k) (gr (aZ g) x d)+KO g x e c*d e=aK ((dL g j).take (k+1)) (gr (aZ g) x d):=by rw[take_snoc hlk2,mM,hix];rfl
     have hsc:=afw g x d hlk2
     have Cc:=Fr.refl hf4.wf
     generalize hA:dW g j-aK ((dL g j).take (k+1)) (gq (aZ g) x)=A at*
     generalize hB:aK ((dL g j).take (k+1)) (gr (aZ g) x d)=Bq at*
     have zA:=v2
     have zB:=v3
     rw[<-s1]at v2
     rw[<-s2]at v3
     have g7:∀b,b≠σ4.aj->b≠σ'.aj+1->b≠σ'.aj+1+1->(hset (hset (hset (hset σ4.h σ4.aj ⟨[.int .i64 (.ofNat 0),.int .i64 (.ofNat 0)],none⟩) σ4.aj ⟨[.int .i64 (.ofNat e),.int .i64 (.ofNat c)],none⟩) (σ'.aj+1) ⟨[.bool (rn A),.str (rs A),.str (rd A)],none⟩) (σ'.aj+1+1) ⟨[.bool (rn Bq),.str (rs Bq),.str (rd Bq)],none⟩) b=σ4.h b:=λb k1 k2 k3=>by rw[au _ _ _ _ k3,au _ _ _ _ k2,au _ _ _ _ k1,au _ _ _ _ k1]
     have hO7:Qz (hset (hset (hset (hset σ4.h σ4.aj ⟨[.int .i64 (.ofNat 0),.int .i64 (.ofNat 0)],none⟩) σ4.aj ⟨[.int .i64 (.ofNat e),.int .i64 (.ofNat c)],none⟩) (σ'.aj+1) ⟨[.bool (rn A),.str (rs A),.str (rd A)],none⟩) (σ'.aj+1+1) ⟨[.bool (rn Bq),.str (rs Bq),.str (rd Bq)],none⟩) (σ.aj+1+1+1) (σ.aj+1+1) (Au (D9 g x d j k)):=⟨(g7 _ jb jb jb).trans hO.f,(g7 _ jb jb jb).trans hO.o⟩
     by_cases h1:0<A
     .by_cases h2:0<Bq
      .simp(disch:=try exact jz) only[go_sem,z3,t2,t7,t8,t10,t11,t12,t19,t20,t67,t68,t69,t79,t80,Ap,lI,O7,afx,YK,afy,afz,ak q7,ak q19,q19,aI q19,ak q20,q20,aI q20,s1,s2,h1,h2]
       refine aC.st (Fr σ) (fr) λsJ=>?_
       refine(aj8 sJ.wf hO7 jb zA zB h2 v4 w1).mono ?_
       rintro v8 σ8 ⟨hO8,oP⟩
       have hcn:D9 g x d j (k+1)=D9 g x d j k++[A/Bq]:=by rw[hsc,ab ⟨by grind,h2⟩]
       rw[<-SQ,<-hcn]at hO8
       have ajx:σ4.aj+1<=σ8.aj:=oP.le
       have LM:=aU.to sJ oP λb hb=>by simp at hb;omega
       have q78:=oP.get sJ.wf (by simp<;>omega) ((g7 _ jb jb jb).trans q7)
       have q88:=oP.get sJ.wf (by simp<;>omega) ((g7 _ jb jb jb).trans q8)
       have ayC:=oP.get sJ.wf (by simp<;>omega) ((au _ _ _ _ (show σ'.aj+1≠σ'.aj+1+1 by omega)).trans (aA _ _ _))
       have ayD:=oP.get sJ.wf (by simp<;>omega) (aA _ _ _)
       simp(disch:=try exact jz) only[go_sem,z3,t2,t7,t8,t10,t11,t12,t19,t20,t67,t68,t69,t79,t80,Ap]
       refine⟨m-(k+1),jb,k+1,rfl,jb,a6,a8,rfl,?_,q88,?_,?_,?_,LM,jb⟩
       .rw[eD,eS];exact q78
       .rw[hA];exact ayC
       .rw[hB];exact ayD
       .exact hO8
      .simp(disch:=try exact jz) only[go_sem,z3,t2,t7,t8,t10,t11,t12,t19,t20,t67,t68,t69,t79,t80,Ap,lI,O7,afx,YK,afy,afz,ak q7,ak q19,q19,aI q19,ak q20,q20,aI q20,s1,s2,h1,h2]
       have hcn:D9 g x d j (k+1)=D9 g x d j k:=by rw[hsc,ae λh=>h2 h.2,dE]
       refine⟨m-(k+1),jb,k+1,rfl,jb,a6,a8,rfl,?_,q8,?_,?_,?_,fr,jb⟩
       .rw[eD,eS];exact q7
       .rw[hA]
       .rw[hB]
       .rw[hcn];exact hO7
     .simp(disch:=try exact jz) only[go_sem,z3,t2,t7,t8,t10,t11,t12,t19,t20,t67,t68,t69,t79,t80,Ap,lI,O7,afx,YK,afy,afz,ak q7,ak q19,q19,aI q19,ak q20,q20,aI q20,s1,s2,h1]
      have hcn:D9 g x d j (k+1)=D9 g x d j k:=by rw[hsc,ae λh=>h1 kd,dE]
      refine⟨m-(k+1),jb,k+1,rfl,jb,a6,a8,rfl,?_,q8,?_,?_,?_,fr,jb⟩
      .rw[eD,eS];exact q7
      .rw[hA]
      .rw[hB]
      .rw[hcn];exact hO7
    .have:k=m:=jb
     subst this
     simp(disch:=try exact jz) only[go_sem,z3,am]
     exact⟨t2,t7,t8,t10,t11,t12,t67,t68,t69,q7,q8,hO,hf4,jb⟩
   .rintro _ tm σ4 ⟨rfl,t2,t7,t8,t10,t11,t12,t67,t68,t69,q7,q8,hO,hf4,hn4⟩
    rw[<-hdl,akb g x d hlt]at hO
    simp(disch:=try exact jz) only[go_sem,z3,t2,t7,t8,t10,t11,t12,t67,t68,t69]
    exact⟨g.d.length-(j+1),jb,j+1,rfl,jb,rfl,q7,q8,hO,hf4,hn4⟩
  .have:j=g.d.length:=jb
   subst this
   have hcs:VK g x d g.d.length=jR g.e.length (aZ g) (mJ g x) x d:=by unfold VK jR;rw[fe (by rw[yw];exact jp)]
   rw[hcs]at hO
   have o1:=hO.f
   have o2:=hO.o
   simp(disch:=try exact jz) only[go_sem,z3,t8,t10,t11,ak o1,ak o2,o1,o2,aI q8,q8]
   exact fr
end Go.Proofs.Xe
