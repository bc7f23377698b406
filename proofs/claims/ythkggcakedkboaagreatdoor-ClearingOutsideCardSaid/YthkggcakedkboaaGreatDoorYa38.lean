import Derived.Test.YthkggcakedkboaaGreatDoorYa37
set_option linter.all false
set_option maxHeartbeats 8000000
namespace Go.Proofs.Xe
open Go.RowKit Go.Proofs.Ins
def nU(M:Nat->Nat->Rat)(l:List Nat)(a b:Nat):Rat:=vP M l a b-if a=b then 1 else 0
def Gx(M:Nat->Nat->Rat)(l:List Nat)(a b a' b':Nat):Rat:=if a'<a then nU M l a' b' else if a'=a/\b'<b then vP M l a' b' else 0
def aoo(M:Nat->Nat->Rat)(l:List Nat)(a b:Nat):rH (rC (Gx M l a b)) a b (fE (vP M l a b))=rC (Gx M l a (b+1)):=by grind[rH,rC,Gx]
def akv{M:Nat->Nat->Rat}{l:List Nat}{a k i c:Nat}(hc:c<k)(ha:a<k):rH (rC (Gx M l a k)) a a (fE (vP M l a a-1)) i c=rC (Gx M l (a+1) 0) i c:=by grind[rH,rC,Gx,nU]
set_option maxRecDepth 10000 in
def apO{σ:St}(hW:WF σ){p:Nat->Prop}{mv iv:B}{n:Nat}{M:Nat->Nat->Rat}(hM:dR p σ.h mv n (λ_=>n) M)(hz2:∀j i,j<n->i<n->Sz (M j i))(hz3:∀i,i<n->Sz (M i i-1)){l:List Nat}(hl:YT σ.h iv l)(hl1:l.length<=1000)(hln:∀i∈l,i<n):
  aC EN 110 [.c mv,.c iv] σ λr σ'=>(∃mb bs,r=.c (.sl mb 0 l.length (.ex l.length))/\σ.aj<=mb/\oG σ'.h mb l.length (rC (nU M l)) bs (mb+1) σ'.aj)/\Fr σ σ':=by
 refine aN (xA.o _ _) xA.h ?_
 unfold xA
 dsimp only
 have hlen:=hl.len
 have hFr:=Fr.refl hW
 have z1:=sz1
 simp(disch:=try exact jz) only[go_sem,z3,hlen]
 refine(YG hW hl1).mono ?_
 rintro _ σ1 ⟨⟨bs,rfl,hX⟩,hf1⟩
 have hle1:=hf1.le
 have hnx1:=hX.l
 simp(disch:=try exact jz) only[go_sem,z3,hlen]
 refine aF (λx tm σ'=>∃a,x=l.length-a/\a<=l.length/\Tr.ah tm 0=.c mv/\Tr.ah tm 1=.c iv/\Tr.ah tm 5=.c (.sl σ.aj 0 l.length (.ex l.length))/\Tr.ah tm 13=.c iv/\Tr.ah tm 14=.c (.int .i64 (.ofNat l.length))/\Tr.ah tm 15=.c (.int .i64 (.ofNat a))
  /\oG σ'.h σ.aj l.length (rC (Gx M l a 0)) bs (σ.aj+1) σ1.aj/\Fr σ σ'/\σ1.aj<=σ'.aj) l.length ?_ ?_
 .refine⟨0,jb,jb,?_⟩
  simp(disch:=try exact jz) only[go_sem,z3,am]
  refine⟨?_,hf1,jp⟩
  have e:rC (Gx M l 0 0)=rC λ_ _=>0:=by grind[rC,Gx]
  grind
 .rintro x tm σ' ⟨a,rfl,ha,t0,t1,t5,t13,t14,t15,hX,hf,hnx⟩
  simp(disch:=try exact jz) only[go_sem,z3,t0,t1,t5,t13,t14,t15,aG]
  refine aH (λhlt=>?_) (λhlt=>?_)
  .obtain⟨bi,oi,ci,rfl,Qs⟩:=hl.one jb
   have hld:=hf.ld hW (Qs a hlt)
   have hia:=hln _ (jc hlt)
   obtain⟨bm,om,cm,T,rfl,-,ay2,hT⟩:=hM.at hia
   simp(disch:=try exact jz) only[go_sem,z3,t0,t1,t5,t13,t14,t15,hld,hlen]
   refine aF (λx tm σ2=>∃b,x=l.length-b/\b<=l.length/\Tr.ah tm 0=.c (.sl bm om n cm)/\Tr.ah tm 1=.c (.sl bi oi l.length ci)/\Tr.ah tm 5=.c (.sl σ.aj 0 l.length (.ex l.length))/\Tr.ah tm 6=.c (.int .i64 (.ofNat a))/\Tr.ah tm 7=.c (.int .i64 (.ofNat (at0 l a)))
    /\Tr.ah tm 13=.c (.sl bi oi l.length ci)/\Tr.ah tm 14=.c (.int .i64 (.ofNat l.length))/\Tr.ah tm 15=.c (.int .i64 (.ofNat a))/\Tr.ah tm 20=.c (.sl bi oi l.length ci)/\Tr.ah tm 21=.c (.int .i64 (.ofNat l.length))/\Tr.ah tm 22=.c (.int .i64 (.ofNat b))
    /\oG σ2.h σ.aj l.length (rC (Gx M l a b)) bs (σ.aj+1) σ1.aj/\Fr σ σ2/\σ1.aj<=σ2.aj) l.length ?_ ?_
   .refine⟨0,jb,jb,?_⟩
    simp(disch:=try exact jz) only[go_sem,z3,t0,t1,t5,t13,t14,t15,am]
    grind
   .rintro x VX σ2 ⟨b,rfl,hb,t0,t1,t5,t6,t7,t13,t14,t15,t20,t21,t22,hX2,hf2,hnx2⟩
    have abn:=Fr.refl hf2.wf
    obtain⟨q0,hR,-,-⟩:=hX2
    obtain⟨q1,g1,g2⟩:=hR.r a hlt
    have q1:σ2.h (bs a)=some ⟨cZ l.length (Gx M l a b a),none⟩:=q1
    unfold yc at q0
    simp(disch:=try exact jz) only[go_sem,z3,t0,t1,t5,t6,t7,t13,t14,t15,t20,t21,t22,aG]
    refine aH (λhlb=>?_) (λhlb=>?_)
    .have YZ:=hf2.ld hW (Qs b hlb)
     have hib:=hln _ (jc hlb)
     obtain⟨bt,ot,ct,rfl,-,atn⟩:=aY.at3 hT hib
     have atn:=hf2.ld hW atn
     have awJ:=hf2.ld hW ay2
     simp(disch:=try exact jz) only[go_sem,z3,t0,t1,t5,t6,t7,t13,t14,t15,t20,t21,t22,YZ,atn,awJ,ak q0,ak q1,aJ q1,q1]
     refine⟨l.length-(b+1),jb,b+1,rfl,jb,rfl,⟨(au _ _ _ _ jb).trans q0,?_,jb,jb⟩,fr,hnx2⟩
     rw[<-aoo]
     refine hR.set hlt (bY λc _=>?_)
     unfold ji aP rC
     split<;>rfl
    .have:b=l.length:=jb
     subst this
     have hmm:=hM.at hia
     have z4:=hz2 _ _ hia hia
     have z5:=hz3 _ hia
     have e7:Gx M l a l.length a a=M (at0 l a) (at0 l a):=by unfold Gx;rw[ae jb,ab ⟨rfl,hlt⟩];rfl
     have q1e:zI (cZ l.length (Gx M l a l.length a)) (0+a*3) 3 true=some (.agg [.bool (rn (M (at0 l a) (at0 l a))),.str (rs (M (at0 l a) (at0 l a))),.str (rd (M (at0 l a) (at0 l a)))]):=by rw[cM,Ul _ _ _ hlt,e7]
     simp(disch:=try exact jz) only[go_sem,z3,t0,t1,t5,t6,t7,t13,t14,t15,t20,t21,ak q0,ak q1,aJ q1,q1,e7]
     refine⟨l.length-(a+1),jb,a+1,rfl,jb,rfl,⟨(au _ _ _ _ jb).trans q0,?_,jb,jb⟩,fr,hnx2⟩
     refine(hR.set (x:=fE (M (at0 l a) (at0 l a)-1)) hlt (bY λc _=>?_)).congr λi _ c hc=>akv hc hlt
     unfold ji aP rC
     split<;>rfl
  .have:a=l.length:=jb
   subst this
   simp(disch:=try exact jz) only[go_sem,z3,t5]
   refine⟨⟨_,bs,rfl,jp,⟨hX.o,?_,hX.b,jb⟩⟩,hf⟩
   refine(hX.r.congr λi hi c _=>?_).mono (λ_ _ _=>rfl) jp hnx
   unfold rC Gx
   rw[ab hi]
structure kL(g:fP):Prop where
 n:g.e.length<=8
 bld:Yw 60 g
 sm:aau 134217728 g
 z:F6 g=0
 k6:∀i,i<g.e.length->kE g.e i<=6
 ed:∀i,i<g.e.length->ED 60 60 (kE g.e i) (bW (ix g.e i))
 eb:∀i,i<g.e.length->EB (kE g.e i) (bW (ix g.e i))
 er:∀i,i<g.e.length->dH (bW (ix g.e i)).rk<=48/\(bW (ix g.e i)).rk.length<=8/\(bW (ix g.e i)).ps.length<=2/\∀p∈(bW (ix g.e i)).ps,dH p.2<=28/\p.2.length<=4
 cap:∀i,i<g.e.length->∀k,pV 60 60 (ix (ix g.e i).c k).a.q
 hold:∀i,i<g.e.length->∀c,c<kE g.e i->(ix (ix g.e i).c c).h=.negSucc 0\/∃hh:Nat,(ix (ix g.e i).c c).h=.ofNat hh/\hh<g.e.length
 m:∀i,i<g.e.length->(ix g.e i).m.fits 1000000/\pV 60 60 (ix g.e i).m.q
 d3:g.d.length<=3
 d:∀d,d<g.d.length->(ix g.d d).l.length<=4/\(ix g.d d).w.fits 1000000/\pV 60 60 (ix g.d d).w.q
def ay3:(60:Rat)<=uQ:=by
 have h:((60:Nat):Rat)<=uQ:=by unfold uQ;grind
 exact h
def pV.mn{A:Nat}{U V q:Rat}(h:pV A U q)(hUV:U<=V):pV A V q:=⟨h.1,h.2.1,cI h.2.2 hUV⟩
def xU.mn{P Q:Rat->Prop}(hPQ:∀q,P q->Q q){n:Nat}{l:fU}(h:xU P n l):xU Q n l:=λt ht p hp=>⟨(h t ht p hp).1,hPQ _ (h t ht p hp).2⟩
def ED.mn{A n:Nat}{U V:Rat}{e:fA}(h:ED A U n e)(hUV:U<=V):ED A V n e:=⟨xU.mn (λ_ h=>pV.mn h hUV) h.rk,λp hp=>xU.mn (λ_ h=>pV.mn h hUV) (h.ps p hp)⟩
def ED.uq{A n:Nat}{e:fA}(h:ED A 60 n e):ED A uQ n e:=h.mn ay3
def Y0{n k:Nat}{l:fU}{m:Rat}(h:xU (λq=>dX 60 q/\0<=q/\q<=60) n l)(h0:0<=m)(hk:dH l<=k)(h1:1<=k):wJ 60 l m<=3600*k:=by
 unfold wJ;split
 .next hf=>
  have ht:=gI hf;have h2:=Yq (h _ ht);have h3:=Et ht;obtain⟨e,-⟩:=Vb (A:=60) jj (DI (h.D _ ht)) (Ac h0 hf);generalize aV (ix l (dP l m))=s at*;refine O4 ?_;have e60:((60:Nat):Rat)=60:=rfl;have e18:((3600:Nat):Rat)=3600:=rfl;have h4:((ix l (dP l m)).length:Rat)<=(k:Rat):=br.mpr jb;grind
 .omega
def Y1{n k:Nat}{m:Rat}{e:fA}(h:ED 60 60 n e)(h0:0<=m)(h1:1<=k):∀{l:List (List Nat×fU)},(∀p∈l,p∈e.ps/\dH p.2<=k)->aft 60 e m l<=(3600*k)^l.length
 |[],_=>cL 1
 |p::l,hl=>by unfold aft;rw[bX,dq,dt];exact cG (Y1 h h0 h1 λq hq=>hl q (by simp[hq])) (Y0 (h.ps p (hl p kc).1) (mY h.nn h0 p) (hl p kc).2 h1)
def abC{D b:Nat}(h0:0<D)(h:D<=2^b)(hb:b<=200000000):BJ D:=by refine⟨h0,cT h (aL ads (bN jj ?_))⟩;unfold dK;omega
def eB:Nat:=408
theorem Y2:eB=408:=rfl
def gE(g:fP)(x:Nat->Rat):Nat:=O1 g.e.length λi=>BM 60 (bW (ix g.e i)) (x i)
section
variable {g:fP} {B b:Nat} {x:Nat→Rat}
def kL.cur(h:kL g){i:Nat}(hi:i<g.e.length){y:Rat}(hy:0<=y):0<BM 60 (bW (ix g.e i)) y/\BM 60 (bW (ix g.e i)) y<=2^51:=by
 have hE:=h.ed i hi;obtain⟨h1,-,h2,h3⟩:=h.er i hi;refine⟨IL jj hE hy,?_⟩;have a:=Y0 hE.rk hy h1 jj;have b:=Y1 (k:=28) hE hy jj (l:=(bW (ix g.e i)).ps) λp hp=>⟨hp,(h3 p hp).1⟩
 have c:(3600*28)^(bW (ix g.e i)).ps.length<=(3600*28)^2:=bN jj h2;exact az (cG a (az b c)) jj
def kL.gE(h:kL g)(hx:∀i,i<g.e.length->0<=x i):0<Xe.gE g x/\Xe.gE g x<=2^eB:=by refine⟨Si λi hi=>(h.cur hi (hx i hi)).1,?_⟩;have h1:=Yp (n:=g.e.length) (k:=2^51) λi hi=>(h.cur hi (hx i hi)).2;refine az h1 ?_;rw[<-Nat.pow_mul];exact yO (by have:=h.n;grind[Y2])
def PG(x:Nat->Rat){i:Nat}(hi:i<g.e.length):BM 60 (bW (ix g.e i)) (x i)∣Xe.gE g x:=Sj (f:=λi=>BM 60 (bW (ix g.e i)) (x i)) hi
def kL.dok(h:kL g)(hB:0<B)(hb:B<=2^b)(hb2:b<=199000000)(hx:∀i,i<g.e.length->0<=x i):BJ (B*Xe.gE g x):=
 abC (b:=b+eB) (cw hB (h.gE hx).1) (oI hb (h.gE hx).2) (by grind[Y2])
def akw{q:Rat}(h:pV 60 60 q):q<=vQ:=by have h1:=OT (k:=60) jj;grind
def PI{f:Nat->Rat}(hf:∀k,pV 60 60 (f k)):∀n,dX 60 (aB n f)/\0<=aB n f/\aB n f<=(n:Rat)*60
 |0=>⟨dX.zero _,be,by show(0:Rat)<=((0:Nat):Rat)*60;simp⟩
 |n+1=>by obtain⟨h1,h2,h3⟩:=PI hf n;obtain⟨k1,k2,k3⟩:=hf n;have e:((n+1:Nat):Rat)=(n:Rat)+1:=gc _ _;exact⟨h1.add k1,by unfold aB;grind,by rw[e];unfold aB;grind⟩
def kL.KA(h:kL g):Jc g.e.length (aZ g):=ai8 (DK h.z)
def kL.nn(h:kL g){i:Nat}(hi:i<g.e.length):Ak (bW (ix g.e i)):=(h.ed i hi).nn
def kL.mg(h:kL g)(hB0:0<B)(h6:60∣B)(hb:B<=2^b)(hb2:b<=199000000)(hx:∀i,i<g.e.length->SmB B (x i)):Vq (B*Xe.gE g x) g x:=by
 have hz:=DK h.z;have hx0:∀i,i<g.e.length->0<=x i:=λi hi=>(hx i hi).2.1;have hD:=h.dok hB0 hb hb2 hx0;have hBD:B∣B*Xe.gE g x:=aR _ _;have h60:=bO h6 hBD;have hu:=tY;have hB:=h.bld;have hdv:∀i,i<g.e.length->B*BM 60 (bW (ix g.e i)) (x i)∣B*Xe.gE g x:=λi hi=>cF _ (PG x hi);have hxZ:∀i,i<g.e.length->Zk (B*Xe.gE g x) 1 (x i):=λi hi=>nX hD hBD (hx i hi).1 (hx i hi).2.1 (hx i hi).v;have hcZ:∀{q:Rat},pV 60 60 q->Zk (B*Xe.gE g x) 1 q:=λhq=>nX hD h60 hq.1 hq.2.1 (akw hq);have hlE:∀i,i<g.e.length->Ak (bW (ix g.e i))/\InE (kE g.e i) (bW (ix g.e i)):=λi hi=>A8 (hz.e i hi);have hq:∀i,i<g.e.length->∀c,c<kE g.e i->0<=gq (aZ g) x (i,c)/\Zk (B*Xe.gE g x) 1 (gq (aZ g) x (i,c)):=λi hi c hc=>by obtain⟨h1,h2⟩:=hlE i hi;have h3:=JC h1 (hx i hi).2.1 c;have h4:=as8 h1 h2 (hx i hi).2.1 hc;exact⟨h3,nX hD (hdv i hi) (ai5 jj hB0 h6 (h.ed i hi) (hx i hi).1 (hx i hi).2.1 c) h3 (cI h4 (hx i hi).v)⟩
 have hr:∀i c,Zk (B*Xe.gE g x) 5000 (EU (aZ g) x (i,c)):=λi c=>by
  have h3:=h.d3;have key:∀j,j<=g.d.length->Zk (B*Xe.gE g x) (j*44) (Vm g x j (i,c)):=λj=>by
   induction j with
   |zero=>intro _;exact Zk.zero.mono (bz _)
   |succ j ih=>
    intro hj
    have hj':j<g.d.length:=jb
    rw[SA x hj',ck]
    obtain⟨hl,-,hw⟩:=h.d j hj'
    have hlen:(dL g j).length=(ix g.d j).l.length:=cV _
    refine(ih jb).add ((adp (K:=0) (M:=4) (hcZ hw) _ (λa ha=>?_) Zk.zero jb).mono jb)
    obtain⟨y,hy,rfl⟩:=cC.mp ha
    obtain⟨k,hk,rfl⟩:=aM hy
    rw[<-dV hk]
    obtain⟨e,c',h1,h2,h3⟩:=hB.lg j hj' k hk
    rw[h1]
    exact(hq e h2 c' h3).2
  rw[<-Yz];exact(key g.d.length jp).mono jb
 have hu5:=ajI;have hv:=OT (k:=1000001) jj;have ev:((1000001:Nat):Rat)=1000001:=rfl;rw[ev]at hv;refine⟨⟨⟨hD,hB.n,hB.d,λi hi=>?_,λi hi=>by have:=h.k6 i hi;omega,λd hd=>⟨(h.d d hd).2.1,(h.d d hd).2.2.2.1,hcZ (h.d d hd).2.2⟩,λd hd=>⟨hB.l d hd,hB.lg d hd⟩,λi hi=>hq i hi,λi hi c _=>(hr i c).sz hD jb,h.KA.nodup⟩,λi _ c _=>hr i c,λi hi=>⟨(h.m i hi).1,hcZ (h.m i hi).2⟩,h.hold⟩,λi hi=>?_,λi hi c _=>?_⟩
 .have hk6:=h.k6 i hi;obtain⟨s1,s2,s3⟩:=PI (h.cap i hi) (kE g.e i);have h4:((kE g.e i:Nat):Rat)<=((6:Nat):Rat):=br.mpr jb;have e6:((6:Nat):Rat)=6:=rfl;have hT:Zk (B*Xe.gE g x) 1 (l9 (ix g.e i) (kE g.e i)):=nX hD h60 s1 s2 (by unfold l9;grind);exact⟨ajb hD h60 (h.ed i hi).uq (h.eb i hi),ajc jj hB0 h6 hD (hdv i hi) (h.ed i hi).uq (h.eb i hi) (hx i hi).1 (hx i hi).2.1 (hx i hi).v,hT.sz hD jb,((hxZ i hi).sub hT).sz hD jb⟩
 .exact ajd jj hB0 h6 hD (hdv i hi) (h.ed i hi).uq (h.eb i hi) (hx i hi).1 (hx i hi).2.1 (hx i hi).v
 .have h1:=qY (h.ed i hi).nn (hx i hi).2.1 c;have h2:=Vu (h.ed i hi).uq (h.eb i hi) (hx i hi).2.1 c;exact⟨h1,nX hD (bO (gL _ _) (hdv i hi)) (ai6 jj (h.ed i hi) (hx i hi).2.1 c) h1 (cI h2 hv)⟩
def kL.map(h:kL g)(hB0:0<B)(h6:60∣B)(hb:B<=2^b)(hb2:b<=199000000)(hx:∀i,i<g.e.length->SmB B (x i)):asZ 60 (B*Xe.gE g x) g x:=by have hD:=h.dok hB0 hb hb2 λi hi=>(hx i hi).2.1;have hu:=tY;exact⟨abC (b:=6) jj jj jj,h.bld,(h.mg hB0 h6 hb hb2 hx).A,h.sm,h.z,λi hi=>⟨(hx i hi).2.1,(nX hD (aR _ _) (hx i hi).1 (hx i hi).2.1 (hx i hi).v).sz hD jb⟩⟩
def kL.sub(h:kL g)(hx:∀i,i<g.e.length->0<=x i):KI g.e.length (gM g.e.length (aZ g) x):=(vO h.KA).sub hx
def kL.slD(h:kL g)(hx:∀i,i<g.e.length->0<=x i){i:Nat}(hi:i<g.e.length)(c:Nat):dX (Xe.gE g x) (xQ (bW (ix g.e i)) (x i) c):=
 (ai6 jj (h.ed i hi) (hx i hi) c).dvd (PG x hi) (h.gE hx).1
def kL.mD(h:kL g)(hx:∀i,i<g.e.length->0<=x i){j i:Nat}(hi:i<g.e.length):dX (Xe.gE g x) (gM g.e.length (aZ g) x j i):=by
 have hgk:=h.KA;have hgs:∀l:fC,l.1<g.e.length->dX (Xe.gE g x) (gs (aZ g) x i l):=λl hl=>by
  unfold gs;split
  .exact h.slD hx hl l.2
  .exact dX.zero _
 unfold gM;refine dX.add (abu λc _=>?_) (dX.sum λd hd=>?_)
 .grind[dX.zero]
 .have hl:=λl hl=>hgs l (rJ hgk hd (l:=l) hl);grind[Go.Proofs.Xe.dX.sum,Go.Proofs.Ins.dM,Go.Proofs.Xe.dX.add,Go.Proofs.Xe.aj8,Go.Proofs.Xe.dX.zero,Go.Proofs.Ins.nS]
def kL.m01(h:kL g)(hx:∀i,i<g.e.length->0<=x i){j i:Nat}(hj:j<g.e.length)(hi:i<g.e.length):0<=gM g.e.length (aZ g) x j i/\gM g.e.length (aZ g) x j i<=1:=by have hM:=h.sub hx;exact⟨hM.nn j i hj hi,cI (Dw (f:=λj=>gM g.e.length (aZ g) x j i) hj λk hk=>hM.nn k i hk hi) (hM.le i hi)⟩
def VB{D b K:Nat}{q:Rat}(hD:0<D)(hb:D<=2^b)(h:dX D q)(h0: -(K:Rat)<=q)(h1:q<=(K:Rat)):∃z:Int,q=(z:Rat)/(D:Rat)/\z.natAbs<=K*D:=by
 obtain⟨z,rfl⟩:=h;refine⟨z,rfl,?_⟩;have hD':=iI hD;have hp:=Pv hD;have e:(z:Rat)/(D:Rat)*(D:Rat)=(z:Rat):=by grind
 have h4:=bo h1 (dT hp);have h5:=bo h0 (dT hp);rw[e]at h4 h5;have e2: -(K:Rat)*(D:Rat)=((-((K*D:Nat):Int):Int):Rat):=by rw[Rat.intCast_neg];have:(((K*D:Nat):Int):Rat)=(K:Rat)*(D:Rat):=fa _ _;grind
 rw[<-fa]at h4;rw[e2]at h5;have h4:((z:Int):Rat)<=(((K*D:Nat):Int):Rat):=h4;have h4:=fW.mp h4;have h5:=fW.mp h5;omega
def VD{D b k K:Nat}{q:Rat}(hD:0<D)(hb:D<=2^b)(h:dX D q)(hk:K<=2^k)(h0: -(K:Rat)<=q)(h1:q<=(K:Rat)):lN (b+k) q:=by obtain⟨z,e,hz⟩:=VB hD hb h h0 h1;exact⟨z,D,hD,az hb (yO jb),az hz (by rw[fh];exact oI hk hb),e⟩
def kL.ay4(h:kL g)(hx:∀i,i<g.e.length->0<=x i){l:List Nat}(hl:∀i∈l,i<g.e.length):DU l.length l.length eB (nU (gM g.e.length (aZ g) x) l):=by
 obtain⟨p1,p2⟩:=h.gE hx;refine⟨Xe.gE g x,p1,p2,λa c ha hc=>?_⟩;have h1:=hl _ (jc ha);have h2:=hl _ (jc hc);have h3:=h.m01 hx h1 h2;have h4:=h.mD hx (j:=at0 l a) h2;have e1:((1:Nat):Rat)=1:=rfl;have hone:dX (Xe.gE g x) (1:Rat):=⟨Xe.gE g x,by have:=iI p1;have e:(((Xe.gE g x:Nat):Int):Rat)=((Xe.gE g x:Nat):Rat):=rfl;grind⟩
 have hd:dX (Xe.gE g x) (nU (gM g.e.length (aZ g) x) l a c):=by unfold nU vP;refine h4.sub ?_;grind[dX.zero]
 obtain⟨z,e,hz⟩:=VB (K:=1) p1 p2 hd (by grind[nU,vP]) (by grind[nU,vP]);grind
end
end Go.Proofs.Xe
namespace Go.Proofs.Ins
open Go.Proofs.Xe
def aop{l:fU}(h:Kw l)(c:Int):0<=jE l c:=by
 induction l with
 |nil=>exact be
 |cons t l ih=>
  have:=ih h.tl.2
  have:=wG h.tl.1 c
  show 0<=fZ t c+jE l c
  grind
def aoq{l:fU}(h:Kw l)(c:Int):∀{m:Rat},0<=m->iy l m c<=jE l c:=by
 induction l with
 |nil=>exact λ_=>be
 |cons t l ih=>
  intro m hm
  have h1:=wG h.tl.1 c
  have h2:=aop h.tl.2 c
  show(if m<aV t then fZ t c*(m/aV t)else fZ t c+iy l (m-aV t) c)<=fZ t c+jE l c
  split
  .next hlt=>
   have h3:m/aV t<=1:=xM kd kd
   have h4:=cN h3 h1
   grind
  .have:=ih h.tl.2 (m:=m-aV t) kd
   grind
def PK(t u:dJ)(c:Int):fZ (t++u) c=fZ t c+fZ u c:=by
 induction t with
 |nil=>show fZ u c=0+fZ u c;grind
 |cons p t ih=>show(if p.1=c then p.2 else 0)+fZ (t++u) c=(if p.1=c then p.2 else 0)+fZ t c+fZ u c;rw[ih];grind
def akx(t u:dJ):aV (t++u)=aV t+aV u:=by
 induction t with
 |nil=>show aV u=0+aV u;grind
 |cons p t ih=>show p.2+aV (t++u)=p.2+aV t+aV u;rw[ih];grind
def aky(f:Nat->dJ)(c:Int)(l:List Nat):jE (l.map f) c=aI l λr=>fZ (f r) c:=by
 induction l with
 |nil=>rfl
 |cons a l ih=>show fZ (f a) c+jE (l.map f) c=fZ (f a) c+aI l _;rw[ih]
def akz(f:Nat->dJ)(l:List Nat):jr (l.map f)=aI l λr=>aV (f r):=by
 induction l with
 |nil=>rfl
 |cons a l ih=>show aV (f a)+jr (l.map f)=aV (f a)+aI l _;rw[ih]
def ady(cs:List C5)(r c:Nat):∀k,fZ (BL cs r k) (c:Int)=if c<k/\(ix cs c).r=(r:Int)then(ix cs c).a.q else 0
 |0=>by rw[ae jb];rfl
 |k+1=>by
  show fZ (BL cs r k++_) _=_;rw[PK,ady cs r c k];by_cases e:c=k
  .subst e;by_cases h:(ix cs c).r=(r:Int)
   .rw[ae jb,ab h,ab ⟨jb,h⟩];show 0+((if((c:Nat):Int)=(c:Int)then _ else 0)+0)=_;rw[ab rfl];grind
   .rw[ae jb,ae h,ae (λe=>h e.2)];show(0:Rat)+0=0;grind
  .have h0:fZ (if(ix cs k).r=(r:Int)then [((k:Int),(ix cs k).a.q)]else []) (c:Int)=0:=by
    split
    .show(if(k:Int)=(c:Int)then _ else(0:Rat))+0=0;rw[ae jb];grind
    .rfl
   rw[h0];by_cases h:c<k/\(ix cs c).r=(r:Int)
   .rw[ab h,ab ⟨jb,h.2⟩];grind
   .rw[ae h,ae (λe=>h ⟨jb,e.2⟩)];grind
def SQ(f:Nat->Rat):aI (List.range 8) f=f 0+(f 1+(f 2+(f 3+(f 4+(f 5+(f 6+f 7)))))):=by show f 0+(f 1+(f 2+(f 3+(f 4+(f 5+(f 6+(f 7+0)))))))=_;rw[df]
def ato{cs:List C5}{c r:Nat}(hc:c<cs.length)(hr:r<8)(e:(ix cs c).r=(r:Int)):jE (Va cs cs.length) (c:Int)=(ix cs c).a.q:=by unfold Va;rw[aky,SQ];simp only[ady,hc,am,e];have:r=0\/r=1\/r=2\/r=3\/r=4\/r=5\/r=6\/r=7:=jb;rcases this with rfl|rfl|rfl|rfl|rfl|rfl|rfl|rfl<;>simp<;>grind
def adz(cs:List C5)(r:Nat):∀k,aV (BL cs r k)=aB k λc=>if(ix cs c).r=(r:Int)then(ix cs c).a.q else 0
 |0=>rfl
 |k+1=>by
  show aV (BL cs r k++_)=aB k _+_;rw[akx,adz cs r k];split
  .next h=>show _+((ix cs k).a.q+0)=aB k _+(if _ then _ else _);rw[ab h,df]
  .next h=>show _+0=aB k _+(if _ then _ else _);rw[ae h]
def atp{cs:List C5}(h:∀c,c<cs.length->∃r:Nat,r<8/\(ix cs c).r=(r:Int)):jr (Va cs cs.length)=aB cs.length λc=>(ix cs c).a.q:=by unfold Va;rw[akz,SQ];simp only[adz];simp only[<-dF];refine aK λc hc=>?_;obtain⟨r,hr,e⟩:=h c hc;rw[e];have:r=0\/r=1\/r=2\/r=3\/r=4\/r=5\/r=6\/r=7:=jb;rcases this with rfl|rfl|rfl|rfl|rfl|rfl|rfl|rfl<;>simp<;>grind
def atq{s:(Nat->Rat)×dJ}{x:Aj}(hx:x.k=-1\/0<=x.k)(i:Nat):(LQ s x).1 i+fZ (LQ s x).2 (i:Int)=s.1 i+fZ s.2 (i:Int):=by
 unfold LQ;by_cases e:x.k=-1
 .rw[ab e];show s.1 i+fZ (s.2++[((-1:Int),x.a.q)]) (i:Int)=_;rw[PK];show s.1 i+(fZ s.2 i+((if(-1:Int)=(i:Int)then _ else 0)+0))=_;rw[ae jb];grind
 .rw[ae e];dsimp only;rw[PK];generalize (if x.b=true then jv (s.1 x.k.toNat) x.a.q else s.1 x.k.toNat)=v;show(if i=x.k.toNat then s.1 i-v else s.1 i)+(fZ s.2 i+((if x.k=(i:Int)then v else 0)+0))=_;by_cases h:i=x.k.toNat
  .rw[ab h,ab jb];grind
  .rw[ae h,ae jb];grind
def adA:∀(t:FZ){s:(Nat->Rat)×dJ},(∀x∈t,x.k=-1\/0<=x.k)->∀i:Nat,(t.foldl LQ s).1 i+fZ (t.foldl LQ s).2 (i:Int)=s.1 i+fZ s.2 (i:Int)
 |[],_,_,_=>rfl
 |x::t,s,h,i=>(adA t (s:=LQ s x) (λy hy=>h y (by simp[hy])) i).trans (atq (h x kc) i)
def VE:∀(a:gV){s:(Nat->Rat)×fU},(∀t∈a,∀x∈t,x.k=-1\/0<=x.k)->∀i:Nat,(a.foldl ltS s).1 i+jE (a.foldl ltS s).2 (i:Int)=s.1 i+jE s.2 (i:Int)
 |[],_,_,_=>rfl
 |t::a,s,h,i=>by refine(VE a (s:=ltS s t) (λu hu=>h u (by simp[hu])) i).trans ?_;show(t.foldl LQ (s.1,[])).1 i+jE (s.2++[(t.foldl LQ (s.1,[])).2]) (i:Int)=_;rw[Ep];have:=adA t (s:=(s.1,[])) (h t kc) i;have e:fZ [] (i:Int)=0:=rfl;dsimp only at this;rw[e]at this;grind
def VF(f:Nat->Rat)(i:Nat):∀ms:List Nat,ms.Nodup->fZ (vM ms f) (i:Int)=if i∈ms then f i else 0
 |[],_=>by rw[ae kc];rfl
 |a::ms,h=>by
  rw[gb]at h;show(if(a:Int)=(i:Int)then f a else 0)+fZ (vM ms f) i=_;rw[VF f i ms h.2];by_cases e:i=a
  .subst e;rw[ab rfl,ae h.1,ab kc];grind
  .rw[ae jb];by_cases h2:i∈ms
   .rw[ab h2,ab (by simp[h2])];grind
   .rw[ae h2,ae (by simp[e,h2])];grind
def akA{n:Nat}{cs:List C5}{a:gV}(ha:∀t∈a,∀x∈t,x.k=-1\/0<=x.k/\x.k<n){i:Nat}(hi:i∈jW a):jE (oD cs a).2 (i:Int)=(ix cs i).a.q:=by show jE ((lsA cs a).2++[vM (jW a) (lsA cs a).1]) (i:Int)=_;rw[Ep,VF _ _ _ (Gg ha),ab hi];have:=VE a (s:=((λi:Nat=>(ix cs i).a.q),[])) (λt ht x hx=>by have:=ha t ht x hx;omega) i;have e:jE [] (i:Int)=0:=rfl;dsimp only at this;rw[e]at this;unfold lsA;grind
def Y3{i:Nat}:∀(t:FZ){s:(Nat->Rat)×dJ},(∀x∈t,x.k=-1\/0<=x.k/\x.k≠(i:Int))->(t.foldl LQ s).1 i=s.1 i
 |[],_,_=>rfl
 |x::t,s,h=>by
  refine(Y3 t (s:=LQ s x) λy hy=>h y (by simp[hy])).trans ?_;have hx:=h x kc;unfold LQ;by_cases e:x.k=-1
  .rw[ab e]
  .rw[ae e];exact ae jb
def Y4{i:Nat}:∀(a:gV){s:(Nat->Rat)×fU},(∀t∈a,∀x∈t,x.k=-1\/0<=x.k/\x.k≠(i:Int))->(a.foldl ltS s).1 i=s.1 i
 |[],_,_=>rfl
 |t::a,s,h=>(Y4 a (s:=ltS s t) λu hu=>h u (by simp[hu])).trans (Y3 t (h t kc))
def aor{n:Nat}{cs:List C5}{a:gV}(ha:∀t∈a,∀x∈t,x.k=-1\/0<=x.k/\x.k<n){i:Nat}(hi:i∉jW a):jE (oD cs a).2 (i:Int)=0:=by
 show jE ((lsA cs a).2++[vM (jW a) (lsA cs a).1]) (i:Int)=_;rw[Ep,VF _ _ _ (Gg ha),ae hi];have h1:=VE a (s:=((λi:Nat=>(ix cs i).a.q),[])) (λt ht x hx=>by have:=ha t ht x hx;omega) i;have h2:=Y4 (i:=i) a (s:=((λi:Nat=>(ix cs i).a.q),[])) (λt ht x hx=>by
  rcases ha t ht x hx with h|h
  .exact .inl h
  .refine .inr ⟨h.1,λe=>hi ((uN ha).mpr ?_)⟩;unfold EL;refine cQ.mpr ⟨t,ht,?_⟩;unfold memT;exact cQ.mpr ⟨x,hx,by rw[e];simp⟩)
 have e:jE [] (i:Int)=0:=rfl;dsimp only at h1 h2;rw[e]at h1;unfold lsA;grind
def atr{n:Nat}{l:fU}(hN:Kw l)(hI:InL n l):aB n (λc=>jE l (c:Int))<=jr l:=by
 induction l with
 |nil=>show aB n (λ_=>(0:Rat))<=0;rw[bK λ_ _=>rfl];exact be
 |cons t l ih=>
  have h1:=ih hN.tl.2 λu hu=>hI u (by simp[hu])
  have h2:=acK (hI t kc)
  have h3:=wG hN.tl.1 (-1)
  have e:aB n (λc=>jE (t::l) (c:Int))=aB n (λc=>fZ t (c:Int))+aB n λc=>jE l (c:Int):=by rw[<-dF];rfl
  rw[e]
  show _<=aV t+jr l
  grind
theorem zy{l:fU}(h:Kw l):0<=jr l:=by
 induction l with
 |nil=>exact be
 |cons u l ih=>show 0<=aV u+jr l;have:=ih h.tl.2;have:=yI h.tl.1;grind
def PL{l:fU}(h:Kw l):∀{m:Rat},jr l<=m->jh l m=jr l:=by
 induction l with
 |nil=>exact λ_=>rfl
 |cons t l ih=>
  intro m hm
  have hm:aV t+jr l<=m:=hm
  have h1:=zy h.tl.2
  show(if m<aV t then m else aV t+jh l (m-aV t))=aV t+jr l
  rw[ae kd,ih h.tl.2 kd]
section
variable {A:Nat} {e:zJ} {x:Rat}
def aot(h:JK A e){p:List Nat×fU}(hp:p∈(bW e).ps):∃a,p=oD e.c a/\∀t∈a,∀x∈t,x.k=-1\/0<=x.k/\x.k<e.c.length:=by obtain⟨a,ha,rfl⟩:=cC.mp hp;obtain⟨j,hj,rfl⟩:=aM ha;exact⟨_,rfl,λt ht x hx=>((h.a j hj).p t (by rw[dV hj];exact ht) x hx).1⟩
def adB(h:JK A e)(hN:Ak (bW e))(hx:0<=x){c:Nat}(hc:c<e.c.length):y7 (bW e) x c<=(ix e.c c).a.q:=by obtain⟨r,hr,er⟩:=h.r c hc;have:=aoq hN.rk (c:Int) hx;rw[show jE (bW e).rk (c:Int)=_ from ato hc hr er]at this;exact this
def VH(h:JK A e)(hN:Ak (bW e))(hI:InE e.c.length (bW e))(hx:0<=x):aB e.c.length (pO (bW e) x)+(zO (x-l9 e e.c.length) 0+VZ (bW e) x)=x:=by
 have hp:∀p∈(bW e).ps,kK (bW e) x p-jh p.2 (kK (bW e) x p)=0:=λp hp=>by
  have hi:=hI.ps p hp;have hnn:=hN.ps p hp;have hnd:p.1.Nodup:=by
   have:=hI.dis;clear hi hnn;revert hp;generalize (bW e).ps=ps at this;induction ps with
   |nil=>intro hp;cases hp
   |cons u ps ih=>
    intro hp
    rw[fo,eZ]at this
    rcases bA.mp hp with rfl|hp
    .exact this.1
    .exact ih this.2.1 hp
  have hlt:∀i∈p.1,i<e.c.length:=λi hi=>hI.mem i (bB.mpr ⟨p,hp,hi⟩);have h1:kK (bW e) x p<=aI p.1 λi=>(ix e.c i).a.q:=nR λi hi=>adB h hN hx (hlt i hi);have h2:=JD (n:=e.c.length) (λi=>(ix e.c i).a.q) p.1 hnd hlt;have h3:aB e.c.length (λi=>if i∈p.1 then(ix e.c i).a.q else 0)<=aB e.c.length λi=>jE p.2 (i:Int):=kN λi _=>by
   obtain⟨a,rfl,ha⟩:=aot h hp;by_cases hm:i∈jW a
   .rw[ab (show i∈(oD e.c a).1 from hm),akA ha hm];exact be
   .rw[ae (show¬i∈(oD e.c a).1 from hm),aor ha hm];exact be
  have h4:=atr hnn hi;rw[Ou (mY hN hx p) kd];grind
 have h1:=Lu hN hI hx;rw[gZ hp]at h1;have h2:jr (bW e).rk=l9 e e.c.length:=atp λc hc=>h.r c hc;have h3:jh (bW e).rk x=x-zO (x-l9 e e.c.length) 0:=by
  rw[Gj];by_cases hle:x<=l9 e e.c.length
  .rw[Ou hx (by rw[h2];exact hle)];grind[oz]
  .rw[PL hN.rk (by rw[h2];grind),h2];grind[oz]
 grind
end
def Y5{W:Rat}{q:fC->Rat}:∀{t:List fC}{Q:Rat},t.Nodup->aI t (Ad W q Q t)=oz (Q+aI t q-W)-oz (Q-W)
 |[],Q,_=>by show(0:Rat)=oz (Q+0-W)-oz (Q-W);grind
 |a::t,Q,hn=>by
  rw[gb]at hn;show Ad W q Q (a::t) a+aI t (Ad W q Q (a::t))=oz (Q+(q a+aI t q)-W)-oz (Q-W);have e1:aI t (Ad W q Q (a::t))=aI t (Ad W q (Q+q a) t):=dO λb hb=>by rw[JL,ae (λe:a=b=>hn.1 (by rw[e];exact hb)),ga]
  rw[e1,Y5 hn.2,JL,ab rfl,Ew hn.1];rw[show Q+(q a+aI t q)=Q+q a+aI t q by grind];grind
def adC{α β:Type}(f:α->List β):∀{ps:List α},(ps.flatMap f).Nodup->∀p∈ps,(f p).Nodup
 |[],_,_,h=>by cases h
 |u::ps,hn,p,hp=>by
  rw[fo,eZ]at hn;rcases bA.mp hp with rfl|hp
  .exact hn.1
  .exact adC f hn.2.1 p hp
def akB{α:Type}(u v:List α)(f:α->Rat):aI (u++v) f=aI u f+aI v f:=by
 induction u with
 |nil=>show aI v f=0+aI v f;grind
 |cons a u ih=>show f a+aI (u++v) f=f a+aI u f+aI v f;rw[ih];grind
def aou{α:Type}[Inhabited α](l:List α)(f:α->Rat):aI l f=aB l.length λi=>f (ix l i):=by
 have key:∀k,k<=l.length->aI (l.take k) f=aB k λi=>f (ix l i):=λk=>by
  induction k with
  |zero=>intro _;rfl
  |succ k ih=>
   intro h
   rw[bC jb,akB,ih jb]
   show _+(f (ix l k)+0)=_+f (ix l k)
   rw[df]
 have h:=key l.length jp;rwa[bR]at h
def aov{α β:Type}(m:α->β)(f:β->Rat)(l:List α):aI (l.map m) f=aI l λa=>f (m a):=by
 induction l with
 |nil=>rfl
 |cons a l ih=>show f (m a)+aI (l.map m) f=f (m a)+aI l _;rw[ih]
section
variable {n:Nat} {g:GL} {x:Nat→Rat}
end
section
variable {A:Nat} {e:zJ} {x:Rat}
end
def adE{α:Type}{f g:α->Rat}:∀{l:List α},(∀a∈l,f a<=g a)->aI l g<=aI l f->∀a∈l,f a=g a
 |[],_,_,_,ha=>by cases ha
 |b::l,h,e,a,ha=>by
  have h1:=h b kc;have h2:aI l f<=aI l g:=nR λc hc=>h c (by simp[hc]);have e:g b+aI l g<=f b+aI l f:=e;rcases bA.mp ha with rfl|ha
  .grind
  .exact adE (λc hc=>h c (by simp[hc])) kd a ha
def Y6{α β:Type}{f:α->List β}{v:α->Rat}{b:β}:∀{ps:List α},(ps.flatMap f).Nodup->(∀p∈ps,b∉f p->v p=0)->∀p∈ps,b∈f p->aI ps v=v p
 |[],_,_,_,h,_=>by cases h
 |u::ps,hn,hv,p,hp,hb=>by
  rw[fo,eZ]at hn;show v u+aI ps v=v p;rcases bA.mp hp with rfl|hp
  .rw[gZ λq hq=>hv q (by simp[hq]) λhbq=>hn.2.2 b hb b (bB.mpr ⟨q,hq,hbq⟩) rfl];grind
  .rw[Y6 hn.2.1 (λq hq=>hv q (by simp[hq])) p hp hb,hv u kc λhbu=>hn.2.2 b hbu b (bB.mpr ⟨p,hp,hb⟩) rfl];grind
section
variable {n:Nat} {g:GL} {x y c:Nat→Rat}
def adF(hg:Jc n g)(hx:Nn n x)(hf:∀j,j<n->x j=c j+gG n g x j):aB n c=aB n (λi=>x i-aB (g.k i) (pO (g.e i) (x i)))+aB n (λi=>aB (g.k i) (zk g x i))+aI g.ds (EO g x):=by rw[<-aaT hg x hx];exact aK λi hi=>by have:=hf i hi;grind
def akC(hg:Jc n g)(hy:Nn n y)(hyx:Le n y x)(hfx:∀j,j<n->x j=c j+gG n g x j)(hfy:∀j,j<n->y j=c j+gG n g y j):
  (∀i,i<n->y i-aB (g.k i) (pO (g.e i) (y i))=x i-aB (g.k i) (pO (g.e i) (x i)))/\(∀i,i<n->∀k,k<g.k i->zk g y i k=zk g x i k)/\∀d∈g.ds,EO g y d=EO g x d:=by
 have e1:=adF hg (hy.le hyx) hfx
 have e2:=adF hg hy hfy
 have h0:∀l:fC,l.1<n->gq g y l<=gq g x l:=λl hl=>IB (hg.nn _ hl) (hy _ hl) (hyx _ hl) _
 have h1:∀i,i<n->y i-aB (g.k i) (pO (g.e i) (y i))<=x i-aB (g.k i) (pO (g.e i) (x i)):=λi hi=>Ox (hg.nn i hi) (hg.inn i hi) (hy i hi) (hyx i hi)
 have h2:∀i,i<n->∀k,k<g.k i->zk g y i k<=zk g x i k:=λi hi k _=>by
  have:=h0 (i,k) hi;unfold zk;split
  .exact this
  .exact be
 have h2':∀i,i<n->aB (g.k i) (zk g y i)<=aB (g.k i) (zk g x i):=λi hi=>kN (h2 i hi)
 have h3:∀d∈g.ds,EO g y d<=EO g x d:=λd hd=>by have a:aI d.2 (gq g y)<=aI d.2 (gq g x):=nR λl hl=>h0 l (rJ hg hd hl);grind[EO,jv]
 have s1:=kN h1
 have s2:=kN h2'
 have s3:=nR h3
 refine⟨AQ h1 kd,λi hi=>AQ (h2 i hi) ?_,adE h3 kd⟩
 rw[AQ h2' kd i hi]
 exact be
def akD{l:fC}(hl:l∉g.eY):nT g x l=gq g x l:=by have:EU g x l=0:=gZ λd hd=>Ew λh=>hl (bB.mpr ⟨d,hd,h⟩);unfold nT;rw[this];grind
def akE(hg:Jc n g){d:Rat×List fC}(hd:d∈g.ds):aI d.2 (nT g x)=jv d.1 (aI d.2 (gq g x)):=by
 have hnd:=adC (λd:Rat×List fC=>d.2) hg.nodup;have h1:aI d.2 (EU g x)=aI d.2 (Ad d.1 (gq g x) 0 d.2):=dO λl hl=>Y6 (f:=λd:Rat×List fC=>d.2) (b:=l) (v:=λd=>Ad d.1 (gq g x) 0 d.2 l) hg.nodup (λ_ _ h=>Ew h) d hd hl;rw[Y5 (hnd d hd)]at h1;have h2:aI d.2 (nT g x)=aI d.2 (gq g x)-aI d.2 (EU g x):=by rw[<-Iy];rfl
 have h3:=hg.pos d hd;rw[h2,h1];unfold oz jv;split<;>split<;>split<;>grind
end
section
variable {A:Nat} {e:zJ} {x y:Rat}
def aow(h:JK A e)(hN:Ak (bW e))(hI:InE e.c.length (bW e))(hy:0<=y)(hyx:y<=x)(he:y-aB e.c.length (pO (bW e) y)=x-aB e.c.length (pO (bW e) x)):
  zO (y-l9 e e.c.length) 0=zO (x-l9 e e.c.length) 0/\VZ (bW e) y=VZ (bW e) x:=by
 have h1:=VH h hN hI hy
 have h2:=VH h hN hI (cI hy hyx)
 have h3:=XT hN hy hyx
 have h4:zO (y-l9 e e.c.length) 0<=zO (x-l9 e e.c.length) 0:=by rw[Gj,Gj];unfold oz;split<;>split<;>grind
 constructor<;>grind
end
end Go.Proofs.Ins
namespace Go.Proofs.Xe
open Go.RowKit Go.Proofs.Ins
def Y7{g:fP}(hV:VG g){i k:Nat}:ES g i k=true↔(i,k)∈(aZ g).eY:=by
 have e:(aZ g).eY=g.d.flatMap λd=>d.l.map vN:=by show(g.d.map λd=>(d.w.q,d.l.map vN)).flatMap (·.2)=_;rw[gC]
 rw[e];unfold ES;rw[RS];unfold nK;rw[cQ];constructor
 .rintro⟨l,hl,he⟩;obtain⟨d,hd,hl⟩:=bB.mp hl;refine bB.mpr ⟨d,hd,cC.mpr ⟨l,hl,?_⟩⟩;simp at he;unfold vN;rw[he.1,he.2];rfl
 .intro h;obtain⟨d,hd,hl⟩:=bB.mp h;obtain⟨l,hl,he⟩:=cC.mp hl;refine⟨l,bB.mpr ⟨d,hd,hl⟩,?_⟩;obtain⟨j,hj,rfl⟩:=aM hd;rw[<-dV hj]at hl;obtain⟨m,hm,rfl⟩:=aM hl;obtain⟨a,b,e1,-,-⟩:=hV.l j hj m hm;rw[<-dV hm,e1]at he⊢;unfold vN at he;simp at he;simp[he]
def Zr(g:fP)(f:Nat->Nat->Rat)(i:Nat)(acc:List Rat):Nat->List Rat
 |0=>acc
 |k+1=>if(ix (ix g.e i).c k).h=.negSucc 0/\ES g i k=false then Zr g f i acc k++[f i k]else Zr g f i acc k
def Qu(g:fP)(f:Nat->Nat->Rat):Nat->List Rat
 |0=>[]
 |i+1=>Zr g f i (Qu g f i) (ix g.e i).c.length
def Qv(g:fP)(f:Nat->Nat->Rat)(d:Nat):Nat->Rat
 |0=>0
 |j+1=>Qv g f d j+if holdL g.e (ix (ix g.d d).l j)=.negSucc 0 then f (ix (ix g.d d).l j).e.toNat (ix (ix g.d d).l j).k.toNat else 0
def nrD(g:fP)(f:Nat->Nat->Rat):Nat->List Rat
 |0=>Qu g f g.e.length
 |d+1=>nrD g f d++[Qv g f d (ix g.d d).l.length]
def Y8(g:fP)(f:Nat->Nat->Rat):List Rat:=nrD g f g.d.length
section
variable {g:fP} {f f' : Nat→Nat→Rat}
def SS(i:Nat)(acc:List Rat):∀k,(∀c,c<k->(ix (ix g.e i).c c).h=.negSucc 0->ES g i c=false->f i c=f' i c)->Zr g f i acc k=Zr g f' i acc k
 |0,_=>rfl
 |k+1,h=>by
  unfold Zr;rw[SS i acc k λc hc=>h c jb];split
  .next e=>rw[h k jb e.1 e.2]
  .rfl
def SV:∀i,(∀j,j<i->∀c,c<(ix g.e j).c.length->(ix (ix g.e j).c c).h=.negSucc 0->ES g j c=false->f j c=f' j c)->Qu g f i=Qu g f' i
 |0,_=>rfl
 |i+1,h=>by unfold Qu;rw[SV i λj hj=>h j jb];exact SS i _ _ (h i jb)
def SX(h:Qu g f g.e.length=Qu g f' g.e.length):∀d,(∀j,j<d->Qv g f j (ix g.d j).l.length=Qv g f' j (ix g.d j).l.length)->nrD g f d=nrD g f' d
 |0,_=>h
 |d+1,hd=>by unfold nrD;rw[SX h d λj hj=>hd j jb,hd d jb]
def adG(d:Nat):∀j,Qv g f d j=aB j λk=>if holdL g.e (ix (ix g.d d).l k)=.negSucc 0 then f (ix (ix g.d d).l k).e.toNat (ix (ix g.d d).l k).k.toNat else 0
 |0=>rfl
 |j+1=>by show Qv g f d j+_=aB j _+_;rw[adG d j]
variable {x y:Nat→Rat}
def adH(hz:GZ g){d:Nat}(hd:d<g.d.length):Qv g (λi c=>nT (aZ g) x (i,c)) d (ix g.d d).l.length=EO (aZ g) x ((ix g.d d).w.q,(ix g.d d).l.map vN):=by
 have hm:((ix g.d d).w.q,(ix g.d d).l.map vN)∈(aZ g).ds:=cC.mpr ⟨_,iM hd,rfl⟩;rw[adG,<-aou (ix g.d d).l λl=>if holdL g.e l=.negSucc 0 then nT (aZ g) x (l.e.toNat,l.k.toNat)else 0];have h1:=anU hz _ hm;unfold EO;rw[dO (g:=λl=>if KL (aZ g) ((ix g.d d).w.q,(ix g.d d).l.map vN)=-1 then nT (aZ g) x (vN l)else 0) λl hl=>by have:=h1 (vN l) (cC.mpr ⟨l,hl,rfl⟩);rw[<-this];rfl]
 split
 .rw[<-akE (ai8 hz) hm,aov]
 .exact gZ λ_ _=>rfl
def adI(hV:VG g)(i c:Nat):(if(ix (ix g.e i).c c).h=.negSucc 0/\ES g i c=false then nT (aZ g) x (i,c)else 0)=zk (aZ g) x i c:=by
 unfold zk;by_cases h1:ES g i c=true
 .rw[ae (by rw[h1];simp),ae (λh=>h.1 ((Y7 hV).mp h1))]
 .have h2:(i,c)∉(aZ g).eY:=λh=>h1 ((Y7 hV).mpr h);have h3:ES g i c=false:=by simpa using h1
  by_cases h4:(ix (ix g.e i).c c).h=.negSucc 0
  .rw[ab ⟨h4,h3⟩,ab ⟨h2,h4⟩,akD h2]
  .rw[ae (λh=>h4 h.1),ae (λh=>h4 h.2)]
def aox(hz:GZ g)(hV:VG g)(h1:∀i,i<g.e.length->∀k,k<(aZ g).k i->zk (aZ g) y i k=zk (aZ g) x i k)(h2:∀d∈(aZ g).ds,EO (aZ g) y d=EO (aZ g) x d):Y8 g (λi c=>nT (aZ g) y (i,c))=Y8 g λi c=>nT (aZ g) x (i,c):=by
 refine SX (SV _ λi hi c hc e1 e2=>?_) _ λd hd=>?_
 .have:=h1 i hi c hc;rw[<-adI hV,<-adI hV,ab ⟨e1,e2⟩,ab ⟨e1,e2⟩]at this;exact this
 .rw[adH hz hd,adH hz hd];exact h2 _ (cC.mpr ⟨_,iM hd,rfl⟩)
end
end Go.Proofs.Xe
