import Derived.Test.YtchhojplceoifaaGreatDoorYb37
set_option linter.all false
set_option maxRecDepth 100000
set_option maxHeartbeats 8000000
namespace Go.Proofs.Xe
open Go.RowKit Go.Proofs.Ins
def nZ(M:Nat->Nat->Rat)(l:List Nat)(a b:Nat):Rat:=vS M l a b-if a=b then 1 else 0
def F6(M:Nat->Nat->Rat)(l:List Nat)(a b a' b':Nat):Rat:=if a'<a then nZ M l a' b' else if a'=a/\b'<b then vS M l a' b' else 0
def anR(M:Nat->Nat->Rat)(l:List Nat)(a b:Nat):rJ (rC (F6 M l a b)) a b (ig (vS M l a b))=rC (F6 M l a (b+1)):=by grind[rJ,rC,F6]
def ajO{M:Nat->Nat->Rat}{l:List Nat}{a k i c:Nat}(hc:c<k)(ha:a<k):rJ (rC (F6 M l a k)) a a (ig (vS M l a a-1)) i c=rC (F6 M l (a+1) 0) i c:=by grind[rJ,rC,F6,nZ]
def ao7{σ:St}(hW:WF σ){p:Nat->Prop}{mv iv:B}{n:Nat}{M:Nat->Nat->Rat}(hM:dV p σ.h mv n (λ_=>n) M)(hz2:∀j i,j<n->i<n->Sz (M j i))(hz3:∀i,i<n->Sz (M i i-1)){l:List Nat}(hl:Vq σ.h iv l)(hl1:l.length<=1000)(hln:∀i∈l,i<n):
  aC EN 152 [.c mv,.c iv] σ λr σ'=>(∃mb bs,r=.c (.sl mb 0 l.length (.ex l.length))/\σ.aj<=mb/\nY σ'.h mb l.length (rC (nZ M l)) bs (mb+1) σ'.aj)/\Fr σ σ':=by
 refine aO (xH.o _ _) xH.h ?_
 unfold xH
 dsimp only
 have hlen:=hl.len
 have hFr:=Fr.refl hW
 have z1:=sz1
 simp(disch:=try exact jz) only[go_sem,z3,hlen]
 refine(Yb hW hl1).mono ?_
 rintro _ σ1 ⟨⟨bs,rfl,hX⟩,hf1⟩
 have hle1:=hf1.le
 have hnx1:=hX.l
 simp(disch:=try exact jz) only[go_sem,z3,hlen]
 refine aF (λx tm σ'=>∃a,x=l.length-a/\a<=l.length/\Tr.ah tm 0=.c mv/\Tr.ah tm 1=.c iv/\Tr.ah tm 5=.c (.sl σ.aj 0 l.length (.ex l.length))/\Tr.ah tm 13=.c iv/\Tr.ah tm 14=.c (.int .i64 (.ofNat l.length))/\Tr.ah tm 15=.c (.int .i64 (.ofNat a))
  /\nY σ'.h σ.aj l.length (rC (F6 M l a 0)) bs (σ.aj+1) σ1.aj/\Fr σ σ'/\σ1.aj<=σ'.aj) l.length ?_ ?_
 .refine⟨0,jb,jb,?_⟩
  simp(disch:=try exact jz) only[go_sem,z3,am]
  refine⟨?_,hf1,jp⟩
  have e:rC (F6 M l 0 0)=rC λ_ _=>0:=by grind[rC,F6]
  grind
 .rintro x tm σ' ⟨a,rfl,ha,t0,t1,t5,t13,t14,t15,hX,hf,hnx⟩
  simp(disch:=try exact jz) only[go_sem,z3,t0,t1,t5,t13,t14,t15,aG]
  refine aH (λhlt=>?_) (λhlt=>?_)
  .obtain⟨bi,oi,ci,rfl,Qk⟩:=hl.one jb
   have hld:=hf.ld hW (Qk a hlt)
   have hia:=hln _ (iK hlt)
   obtain⟨bm,om,cm,T,rfl,-,aya,hT⟩:=hM.at hia
   simp(disch:=try exact jz) only[go_sem,z3,t0,t1,t5,t13,t14,t15,hld,hlen]
   refine aF (λx tm σ2=>∃b,x=l.length-b/\b<=l.length/\Tr.ah tm 0=.c (.sl bm om n cm)/\Tr.ah tm 1=.c (.sl bi oi l.length ci)/\Tr.ah tm 5=.c (.sl σ.aj 0 l.length (.ex l.length))/\Tr.ah tm 6=.c (.int .i64 (.ofNat a))/\Tr.ah tm 7=.c (.int .i64 (.ofNat (at0 l a)))
    /\Tr.ah tm 13=.c (.sl bi oi l.length ci)/\Tr.ah tm 14=.c (.int .i64 (.ofNat l.length))/\Tr.ah tm 15=.c (.int .i64 (.ofNat a))/\Tr.ah tm 20=.c (.sl bi oi l.length ci)/\Tr.ah tm 21=.c (.int .i64 (.ofNat l.length))/\Tr.ah tm 22=.c (.int .i64 (.ofNat b))
    /\nY σ2.h σ.aj l.length (rC (F6 M l a b)) bs (σ.aj+1) σ1.aj/\Fr σ σ2/\σ1.aj<=σ2.aj) l.length ?_ ?_
   .refine⟨0,jb,jb,?_⟩
    simp(disch:=try exact jz) only[go_sem,z3,t0,t1,t5,t13,t14,t15,am]
    grind
   .rintro x VG σ2 ⟨b,rfl,hb,t0,t1,t5,t6,t7,t13,t14,t15,t20,t21,t22,hX2,hf2,hnx2⟩
    have Kw:=Fr.refl hf2.wf
    obtain⟨q0,hR,-,-⟩:=hX2
    obtain⟨q1,g1,g2⟩:=hR.r a hlt
    have q1:σ2.h (bs a)=some ⟨bY l.length (F6 M l a b a),none⟩:=q1
    unfold yx at q0
    simp(disch:=try exact jz) only[go_sem,z3,t0,t1,t5,t6,t7,t13,t14,t15,t20,t21,t22,aG]
    refine aH (λhlb=>?_) (λhlb=>?_)
    .have Yx:=hf2.ld hW (Qk b hlb)
     have hib:=hln _ (iK hlb)
     obtain⟨bt,ot,ct,rfl,-,asR⟩:=aY.at3 hT hib
     have asR:=hf2.ld hW asR
     have av9:=hf2.ld hW aya
     simp(disch:=try exact jz) only[go_sem,z3,t0,t1,t5,t6,t7,t13,t14,t15,t20,t21,t22,Yx,asR,av9,ak q0,ak q1,aI q1,q1]
     refine⟨l.length-(b+1),jb,b+1,rfl,jb,rfl,⟨(au _ _ _ _ jb).trans q0,?_,jb,jb⟩,fr,hnx2⟩
     rw[<-anR]
     refine hR.set hlt (dA λc _=>?_)
     unfold jl aN rC
     split<;>rfl
    .have:b=l.length:=jb
     subst this
     have hmm:=hM.at hia
     have z4:=hz2 _ _ hia hia
     have z5:=hz3 _ hia
     have e7:F6 M l a l.length a a=M (at0 l a) (at0 l a):=by unfold F6;rw[ae jb,ab ⟨rfl,hlt⟩];rfl
     have q1e:zJ (bY l.length (F6 M l a l.length a)) (0+a*3) 3 true=some (.agg [.bool (rn (M (at0 l a) (at0 l a))),.str (rs (M (at0 l a) (at0 l a))),.str (rd (M (at0 l a) (at0 l a)))]):=by rw[cD,TU _ _ _ hlt,e7]
     simp(disch:=try exact jz) only[go_sem,z3,t0,t1,t5,t6,t7,t13,t14,t15,t20,t21,ak q0,ak q1,aI q1,q1,e7]
     refine⟨l.length-(a+1),jb,a+1,rfl,jb,rfl,⟨(au _ _ _ _ jb).trans q0,?_,jb,jb⟩,fr,hnx2⟩
     refine(hR.set (x:=ig (M (at0 l a) (at0 l a)-1)) hlt (dA λc _=>?_)).congr λi _ c hc=>ajO hc hlt
     unfold jl aN rC
     split<;>rfl
  .have:a=l.length:=jb
   subst this
   simp(disch:=try exact jz) only[go_sem,z3,t5]
   refine⟨⟨_,bs,rfl,jp,⟨hX.o,?_,hX.b,jb⟩⟩,hf⟩
   refine(hX.r.congr λi hi c _=>?_).mono (λ_ _ _=>rfl) jp hnx
   unfold rC F6
   rw[ab hi]
structure lH(g:gB):Prop where
 n:g.e.length<=8
 bld:Rt 60 g
 sm:ZT 134217728 g
 z:PO g=0
 k6:∀i,i<g.e.length->kE g.e i<=6
 ed:∀i,i<g.e.length->ED 60 60 (kE g.e i) (dU (ix g.e i))
 eb:∀i,i<g.e.length->EB (kE g.e i) (dU (ix g.e i))
 er:∀i,i<g.e.length->dQ (dU (ix g.e i)).rk<=48/\(dU (ix g.e i)).rk.length<=8/\(dU (ix g.e i)).ps.length<=2/\∀p∈(dU (ix g.e i)).ps,dQ p.2<=28/\p.2.length<=4
 cap:∀i,i<g.e.length->∀k,qj 60 60 (ix (ix g.e i).c k).a.q
 hold:∀i,i<g.e.length->∀c,c<kE g.e i->(ix (ix g.e i).c c).h=.negSucc 0\/∃hh:Nat,(ix (ix g.e i).c c).h=.ofNat hh/\hh<g.e.length
 m:∀i,i<g.e.length->(ix g.e i).m.fits 1000000/\qj 60 60 (ix g.e i).m.q
 d3:g.d.length<=3
 d:∀d,d<g.d.length->(ix g.d d).l.length<=4/\(ix g.d d).w.fits 1000000/\qj 60 60 (ix g.d d).w.q
def ayb:(60:Rat)<=uQ:=by
 have h:((60:Nat):Rat)<=uQ:=by unfold uQ;grind
 exact h
def qj.mn{A:Nat}{U V q:Rat}(h:qj A U q)(hUV:U<=V):qj A V q:=⟨h.1,h.2.1,cP h.2.2 hUV⟩
def xZ.mn{P Q:Rat->Prop}(hPQ:∀q,P q->Q q){n:Nat}{l:gQ}(h:xZ P n l):xZ Q n l:=λt ht p hp=>⟨(h t ht p hp).1,hPQ _ (h t ht p hp).2⟩
def ED.mn{A n:Nat}{U V:Rat}{e:fH}(h:ED A U n e)(hUV:U<=V):ED A V n e:=⟨xZ.mn (λ_ h=>qj.mn h hUV) h.rk,λp hp=>xZ.mn (λ_ h=>qj.mn h hUV) (h.ps p hp)⟩
def ED.uq{A n:Nat}{e:fH}(h:ED A 60 n e):ED A uQ n e:=h.mn ayb
def Yy{n k:Nat}{l:gQ}{m:Rat}(h:xZ (λq=>eX 60 q/\0<=q/\q<=60) n l)(h0:0<=m)(hk:dQ l<=k)(h1:1<=k):wK 60 l m<=3600*k:=by
 unfold wK;split
 .next hf=>
  have ht:=gy hf;have h2:=Yj (h _ ht);have h3:=Ep ht;obtain⟨e,-⟩:=UR (A:=60) jj (Dy (h.D _ ht)) (Ad h0 hf);generalize aW (ix l (dY l m))=s at*;refine O4 ?_;have e60:((60:Nat):Rat)=60:=rfl;have e18:((3600:Nat):Rat)=3600:=rfl;have h4:((ix l (dY l m)).length:Rat)<=(k:Rat):=bw.mpr jb;grind
 .omega
def Yz{n k:Nat}{m:Rat}{e:fH}(h:ED 60 60 n e)(h0:0<=m)(h1:1<=k):∀{l:List (List Nat×gQ)},(∀p∈l,p∈e.ps/\dQ p.2<=k)->aeI 60 e m l<=(3600*k)^l.length
 |[],_=>cQ 1
 |p::l,hl=>by unfold aeI;rw[bO,dx,dy];exact cH (Yz h h0 h1 λq hq=>hl q (by simp[hq])) (Yy (h.ps p (hl p kc).1) (nR h.nn h0 p) (hl p kc).2 h1)
def aa2{D b:Nat}(h0:0<D)(h:D<=2^b)(hb:b<=200000000):BQ D:=by refine⟨h0,cW h (aE acU (bA jj ?_))⟩;unfold dK;omega
def eB:Nat:=408
theorem YB:eB=408:=rfl
def gE(g:gB)(x:Nat->Rat):Nat:=O1 g.e.length λi=>BP 60 (dU (ix g.e i)) (x i)
section
variable {g:gB} {B b:Nat} {x:Nat→Rat}
def lH.cur(h:lH g){i:Nat}(hi:i<g.e.length){y:Rat}(hy:0<=y):0<BP 60 (dU (ix g.e i)) y/\BP 60 (dU (ix g.e i)) y<=2^51:=by
 have hE:=h.ed i hi;obtain⟨h1,-,h2,h3⟩:=h.er i hi;refine⟨Ip jj hE hy,?_⟩;have a:=Yy hE.rk hy h1 jj;have b:=Yz (k:=28) hE hy jj (l:=(dU (ix g.e i)).ps) λp hp=>⟨hp,(h3 p hp).1⟩
 have c:(3600*28)^(dU (ix g.e i)).ps.length<=(3600*28)^2:=bA jj h2;exact av (cH a (av b c)) jj
def lH.gE(h:lH g)(hx:∀i,i<g.e.length->0<=x i):0<Xe.gE g x/\Xe.gE g x<=2^eB:=by refine⟨RJ λi hi=>(h.cur hi (hx i hi)).1,?_⟩;have h1:=Yi (n:=g.e.length) (k:=2^51) λi hi=>(h.cur hi (hx i hi)).2;refine av h1 ?_;rw[<-Nat.pow_mul];exact yR (by have:=h.n;grind[YB])
def Vu(x:Nat->Rat){i:Nat}(hi:i<g.e.length):BP 60 (dU (ix g.e i)) (x i)∣Xe.gE g x:=RN (f:=λi=>BP 60 (dU (ix g.e i)) (x i)) hi
def lH.dok(h:lH g)(hB:0<B)(hb:B<=2^b)(hb2:b<=199000000)(hx:∀i,i<g.e.length->0<=x i):BQ (B*Xe.gE g x):=
 aa2 (b:=b+eB) (cn hB (h.gE hx).1) (oK hb (h.gE hx).2) (by grind[YB])
def asT{q:Rat}(h:qj 60 60 q):q<=vQ:=by have h1:=Rj (k:=60) jj;grind
def YC{f:Nat->Rat}(hf:∀k,qj 60 60 (f k)):∀n,eX 60 (aB n f)/\0<=aB n f/\aB n f<=(n:Rat)*60
 |0=>⟨eX.zero _,be,by show(0:Rat)<=((0:Nat):Rat)*60;simp⟩
 |n+1=>by obtain⟨h1,h2,h3⟩:=YC hf n;obtain⟨k1,k2,k3⟩:=hf n;have e:((n+1:Nat):Rat)=(n:Rat)+1:=gn _ _;exact⟨h1.add k1,by unfold aB;grind,by rw[e];unfold aB;grind⟩
def lH.LZ(h:lH g):Jr g.e.length (aZ g):=aau (Oy h.z)
def lH.nn(h:lH g){i:Nat}(hi:i<g.e.length):BN (dU (ix g.e i)):=(h.ed i hi).nn
def lH.mg(h:lH g)(hB0:0<B)(h6:60∣B)(hb:B<=2^b)(hb2:b<=199000000)(hx:∀i,i<g.e.length->SmB B (x i)):Vf (B*Xe.gE g x) g x:=by
 have hz:=Oy h.z;have hx0:∀i,i<g.e.length->0<=x i:=λi hi=>(hx i hi).2.1;have hD:=h.dok hB0 hb hb2 hx0;have hBD:B∣B*Xe.gE g x:=aR _ _;have h60:=bL h6 hBD;have hu:=vM;have hB:=h.bld;have hdv:∀i,i<g.e.length->B*BP 60 (dU (ix g.e i)) (x i)∣B*Xe.gE g x:=λi hi=>cK _ (Vu x hi);have hxZ:∀i,i<g.e.length->Zk (B*Xe.gE g x) 1 (x i):=λi hi=>rO hD hBD (hx i hi).1 (hx i hi).2.1 (hx i hi).v;have hcZ:∀{q:Rat},qj 60 60 q->Zk (B*Xe.gE g x) 1 q:=λhq=>rO hD h60 hq.1 hq.2.1 (asT hq);have X5:∀i,i<g.e.length->BN (dU (ix g.e i))/\InE (kE g.e i) (dU (ix g.e i)):=λi hi=>Lr (hz.e i hi);have hq:∀i,i<g.e.length->∀c,c<kE g.e i->0<=gq (aZ g) x (i,c)/\Zk (B*Xe.gE g x) 1 (gq (aZ g) x (i,c)):=λi hi c hc=>by obtain⟨h1,h2⟩:=X5 i hi;have h3:=Jm h1 (hx i hi).2.1 c;have h4:=asH h1 h2 (hx i hi).2.1 hc;exact⟨h3,rO hD (hdv i hi) (ais jj hB0 h6 (h.ed i hi) (hx i hi).1 (hx i hi).2.1 c) h3 (cP h4 (hx i hi).v)⟩
 have hr:∀i c,Zk (B*Xe.gE g x) 5000 (yc (aZ g) x (i,c)):=λi c=>by
  have h3:=h.d3;have key:∀j,j<=g.d.length->Zk (B*Xe.gE g x) (j*44) (U8 g x j (i,c)):=λj=>by
   induction j with
   |zero=>intro _;exact Zk.zero.mono (bh _)
   |succ j ih=>
    intro hj
    have hj':j<g.d.length:=jb
    rw[Ru x hj',cA]
    obtain⟨hl,-,hw⟩:=h.d j hj'
    have hlen:(dL g j).length=(ix g.d j).l.length:=dc _
    refine(ih jb).add ((acN (K:=0) (M:=4) (hcZ hw) _ (λa ha=>?_) Zk.zero jb).mono jb)
    obtain⟨y,hy,rfl⟩:=cU.mp ha
    obtain⟨k,hk,rfl⟩:=aL hy
    rw[<-fD hk]
    obtain⟨e,c',h1,h2,h3⟩:=hB.lg j hj' k hk
    rw[h1]
    exact(hq e h2 c' h3).2
  rw[<-X3];exact(key g.d.length jp).mono jb
 have hu5:=Vb;have hv:=Rj (k:=1000001) jj;have ev:((1000001:Nat):Rat)=1000001:=rfl;rw[ev]at hv;refine⟨⟨⟨hD,hB.n,hB.d,λi hi=>?_,λi hi=>by have:=h.k6 i hi;omega,λd hd=>⟨(h.d d hd).2.1,(h.d d hd).2.2.2.1,hcZ (h.d d hd).2.2⟩,λd hd=>⟨hB.l d hd,hB.lg d hd⟩,λi hi=>hq i hi,λi hi c _=>(hr i c).sz hD jb,h.LZ.nodup⟩,λi _ c _=>hr i c,λi hi=>⟨(h.m i hi).1,hcZ (h.m i hi).2⟩,h.hold⟩,λi hi=>?_,λi hi c _=>?_⟩
 .have hk6:=h.k6 i hi;obtain⟨s1,s2,s3⟩:=YC (h.cap i hi) (kE g.e i);have h4:((kE g.e i:Nat):Rat)<=((6:Nat):Rat):=bw.mpr jb;have e6:((6:Nat):Rat)=6:=rfl;have hT:Zk (B*Xe.gE g x) 1 (rQ (ix g.e i) (kE g.e i)):=rO hD h60 s1 s2 (by unfold rQ;grind);exact⟨aix hD h60 (h.ed i hi).uq (h.eb i hi),aiy jj hB0 h6 hD (hdv i hi) (h.ed i hi).uq (h.eb i hi) (hx i hi).1 (hx i hi).2.1 (hx i hi).v,hT.sz hD jb,((hxZ i hi).sub hT).sz hD jb⟩
 .exact aiz jj hB0 h6 hD (hdv i hi) (h.ed i hi).uq (h.eb i hi) (hx i hi).1 (hx i hi).2.1 (hx i hi).v
 .have h1:=rE (h.ed i hi).nn (hx i hi).2.1 c;have h2:=Vm (h.ed i hi).uq (h.eb i hi) (hx i hi).2.1 c;exact⟨h1,rO hD (bL (gP _ _) (hdv i hi)) (ait jj (h.ed i hi) (hx i hi).2.1 c) h1 (cP h2 hv)⟩
def lH.map(h:lH g)(hB0:0<B)(h6:60∣B)(hb:B<=2^b)(hb2:b<=199000000)(hx:∀i,i<g.e.length->SmB B (x i)):aaQ 60 (B*Xe.gE g x) g x:=by have hD:=h.dok hB0 hb hb2 λi hi=>(hx i hi).2.1;have hu:=vM;exact⟨aa2 (b:=6) jj jj jj,h.bld,(h.mg hB0 h6 hb hb2 hx).A,h.sm,h.z,λi hi=>⟨(hx i hi).2.1,(rO hD (aR _ _) (hx i hi).1 (hx i hi).2.1 (hx i hi).v).sz hD jb⟩⟩
def lH.sub(h:lH g)(hx:∀i,i<g.e.length->0<=x i):H9 g.e.length (gM g.e.length (aZ g) x):=(vP h.LZ).sub hx
def lH.slD(h:lH g)(hx:∀i,i<g.e.length->0<=x i){i:Nat}(hi:i<g.e.length)(c:Nat):eX (Xe.gE g x) (xX (dU (ix g.e i)) (x i) c):=
 (ait jj (h.ed i hi) (hx i hi) c).dvd (Vu x hi) (h.gE hx).1
def lH.mD(h:lH g)(hx:∀i,i<g.e.length->0<=x i){j i:Nat}(hi:i<g.e.length):eX (Xe.gE g x) (gM g.e.length (aZ g) x j i):=by
 have hgk:=h.LZ;have hgs:∀l:fK,l.1<g.e.length->eX (Xe.gE g x) (gs (aZ g) x i l):=λl hl=>by
  unfold gs;split
  .exact h.slD hx hl l.2
  .exact eX.zero _
 unfold gM;refine eX.add (aaU λc _=>?_) (eX.sum λd hd=>?_)
 .grind[eX.zero]
 .have hl:=λl hl=>hgs l (uf hgk hd (l:=l) hl);grind[Go.Proofs.Xe.eX.sum,Go.Proofs.Ins.dM,Go.Proofs.Xe.eX.add,Go.Proofs.Xe.aju,Go.Proofs.Xe.eX.zero,Go.Proofs.Ins.nV]
def lH.m01(h:lH g)(hx:∀i,i<g.e.length->0<=x i){j i:Nat}(hj:j<g.e.length)(hi:i<g.e.length):0<=gM g.e.length (aZ g) x j i/\gM g.e.length (aZ g) x j i<=1:=by have hM:=h.sub hx;exact⟨hM.nn j i hj hi,cP (Dp (f:=λj=>gM g.e.length (aZ g) x j i) hj λk hk=>hM.nn k i hk hi) (hM.le i hi)⟩
def Vw{D b K:Nat}{q:Rat}(hD:0<D)(hb:D<=2^b)(h:eX D q)(h0: -(K:Rat)<=q)(h1:q<=(K:Rat)):∃z:Int,q=(z:Rat)/(D:Rat)/\z.natAbs<=K*D:=by
 obtain⟨z,rfl⟩:=h;refine⟨z,rfl,?_⟩;have hD':=iI hD;have hp:=O5 hD;have e:(z:Rat)/(D:Rat)*(D:Rat)=(z:Rat):=by grind
 have h4:=bp h1 (eh hp);have h5:=bp h0 (eh hp);rw[e]at h4 h5;have e2: -(K:Rat)*(D:Rat)=((-((K*D:Nat):Int):Int):Rat):=by rw[Rat.intCast_neg];have:(((K*D:Nat):Int):Rat)=(K:Rat)*(D:Rat):=fg _ _;grind
 rw[<-fg]at h4;rw[e2]at h5;have h4:((z:Int):Rat)<=(((K*D:Nat):Int):Rat):=h4;have h4:=gi.mp h4;have h5:=gi.mp h5;omega
def Vx{D b k K:Nat}{q:Rat}(hD:0<D)(hb:D<=2^b)(h:eX D q)(hk:K<=2^k)(h0: -(K:Rat)<=q)(h1:q<=(K:Rat)):lu (b+k) q:=by obtain⟨z,e,hz⟩:=Vw hD hb h h0 h1;exact⟨z,D,hD,av hb (yR jb),av hz (by rw[fo];exact oK hk hb),e⟩
def lH.ayc(h:lH g)(hx:∀i,i<g.e.length->0<=x i){l:List Nat}(hl:∀i∈l,i<g.e.length):DR l.length l.length eB (nZ (gM g.e.length (aZ g) x) l):=by
 obtain⟨p1,p2⟩:=h.gE hx;refine⟨Xe.gE g x,p1,p2,λa c ha hc=>?_⟩;have h1:=hl _ (iK ha);have h2:=hl _ (iK hc);have h3:=h.m01 hx h1 h2;have h4:=h.mD hx (j:=at0 l a) h2;have e1:((1:Nat):Rat)=1:=rfl;have hone:eX (Xe.gE g x) (1:Rat):=⟨Xe.gE g x,by have:=iI p1;have e:(((Xe.gE g x:Nat):Int):Rat)=((Xe.gE g x:Nat):Rat):=rfl;grind⟩
 have hd:eX (Xe.gE g x) (nZ (gM g.e.length (aZ g) x) l a c):=by unfold nZ vS;refine h4.sub ?_;grind[eX.zero]
 obtain⟨z,e,hz⟩:=Vw (K:=1) p1 p2 hd (by grind[nZ,vS]) (by grind[nZ,vS]);grind
end
def YD(o:Option Rat)(q:Rat):Option Rat:=match o with
 |none=>some q
 |some m=>if q<m then some q else some m
def gq0:Option Rat->Rat
 |some q=>q
 |none=>0
structure Ql(h:Tr Bk)(fb ob:Nat)(o:Option Rat):Prop where
 f:h fb=some ⟨[.bool o.isSome],none⟩
 o:h ob=some ⟨[.bool (rn (gq0 o)),.str (rs (gq0 o)),.str (rd (gq0 o))],none⟩
def ajP{σ:St}(hW:WF σ){fb ob:Nat}{o:Option Rat}(hO:Ql σ.h fb ob o)(hne:fb≠ob){gap rate:Rat}(zg:Sz gap)(zr:Sz rate)(h0:0<rate)(zq:Sz (gap/rate))(zo:Sz (gq0 o)):
  aC EN 156 [.agg [.bool (rn gap),.str (rs gap),.str (rd gap)],.agg [.bool (rn rate),.str (rs rate),.str (rd rate)],.c (.ptr fb 0),.c (.ptr ob 0)] σ λ_ σ'=>Ql σ'.h fb ob (YD o (gap/rate))/\aU [fb,ob] σ σ':=by
 refine aO (ji.o _ _) ji.h ?_
 unfold ji
 dsimp only
 obtain⟨q1,q2⟩:=hO
 have l1:=hW.lt q1
 have l2:=hW.lt q2
 have hdiv:G9 gap rate=gap/rate:=by grind[G9]
 have hFr:=aU.refl (ex:=[fb,ob]) hW
 cases o with
 |none=>
  have q1:σ.h fb=some ⟨[.bool false],none⟩:=q1
  simp(disch:=try exact jz) only[go_sem,z3,hdiv,ak q1,q1,q2,aI q1,aI q2]
  exact⟨⟨aA _ _ _,(au _ _ _ _ (Ne.symm hne)).trans (aA _ _ _)⟩,by repeat(first|assumption|exact aU.refl (by assumption)|exact aU.up (by assumption) kf|exact aU.up (aU.refl (by assumption)) kf|refine aU.set1 ?_ kg kf|refine aU.kH ?_ kg|refine aU.nM ?_ kg|refine aU.oz ?_ kf)⟩
 |some m=>
  have q1:σ.h fb=some ⟨[.bool true],none⟩:=q1
  have q2:σ.h ob=some ⟨[.bool (rn m),.str (rs m),.str (rd m)],none⟩:=q2
  have zo:Sz m:=zo
  simp(disch:=try exact jz) only[go_sem,z3,hdiv,ak q1,q1,ak q2,q2,II]
  refine aH (λhs=>?_) (λhs=>?_)
  .simp(disch:=try exact jz) only[go_sem,z3,hdiv,ak q1,q1,ak q2,q2,aI q1,aI q2]
   have e:YD (some m) (gap/rate)=some (gap/rate):=ab hs
   rw[e]
   exact⟨⟨aA _ _ _,(au _ _ _ _ (Ne.symm hne)).trans (aA _ _ _)⟩,by repeat(first|assumption|exact aU.refl (by assumption)|exact aU.up (by assumption) kf|exact aU.up (aU.refl (by assumption)) kf|refine aU.set1 ?_ kg kf|refine aU.kH ?_ kg|refine aU.nM ?_ kg|refine aU.oz ?_ kf)⟩
  .simp(disch:=try exact jz) only[go_sem,z3,am]
   have e:YD (some m) (gap/rate)=some m:=ae hs
   rw[e]
   refine⟨⟨?_,?_⟩,by repeat(first|assumption|exact aU.refl (by assumption)|exact aU.up (by assumption) kf|exact aU.up (aU.refl (by assumption)) kf|refine aU.set1 ?_ kg kf|refine aU.kH ?_ kg|refine aU.nM ?_ kg|refine aU.oz ?_ kf)⟩
   .grind[au]
   grind[au]
def Aj(l:List Rat):Option Rat:=l.foldl YD none
def Si(l:List Rat)(q:Rat):Aj (l++[q])=YD (Aj l) q:=by grind[Aj]
def JG:∀(l:List Rat) (m:Rat),∃k,l.foldl YD (some m)=some k/\(k=m\/k∈l)/\k<=m/\∀v∈l,k<=v
 |[],m=>⟨m,rfl,.inl rfl,be,λv hv=>by cases hv⟩
 |a::l,m=>by
  rw[List.foldl_cons];by_cases h:a<m
  .rw[show YD (some m) a=some a from ab h];obtain⟨k,h1,h2,h3,h4⟩:=JG l a;grind
  .rw[show YD (some m) a=some m from ae h];obtain⟨k,h1,h2,h3,h4⟩:=JG l m;grind
def Vy(l:List Rat):(l=[]/\Aj l=none)\/∃m,Aj l=some m/\m∈l/\∀v∈l,m<=v:=by
 cases l with
 |nil=>exact .inl ⟨rfl,rfl⟩
 |cons a l=>
  obtain⟨k,h1,h2,h3,h4⟩:=JG l a
  refine .inr ⟨k,h1,?_,λv hv=>?_⟩
  .grind
  grind
theorem VH.uniq{e:fH}{n:Nat}{z x:Rat}{o o':Option Rat}(h:VH e n z x o)(h':VH e n z x o'):o=o':=by
 induction h with
 |no h=>cases h' with
  |no=>rfl
  |stop h2=>grind
  |go h2=>grind
 |stop h hs=>cases h' with
  |no h2=>grind
  |stop h2=>grind
  |go h2 hs2=>grind
 |go h hs _ ih=>cases h' with
  |no h2=>grind
  |stop h2 hs2=>grind
  |go h2 _ hr=>grind
open Classical in
noncomputable def nxE(e:fH)(n:Nat)(x:Rat):Option Rat:=if h:∃o,VH e n x x o then h.choose else none
def ajQ{e:fH}{n:Nat}{x:Rat}{o:Option Rat}(h:VH e n x x o):nxE e n x=o:=by
 have h2:∃o,VH e n x x o:=⟨o,h⟩
 grind[nxE,VH.uniq]
noncomputable def mJ(g:gB)(x:Nat->Rat)(i:Nat):Option Rat:=(nxE (dU (ix g.e i)) (kE g.e i) (x i)).map λy=>y-x i
theorem Sj{W:Rat}{q r:fK->Rat}:∀(t:List fK) (a:fK) (Q R:Rat),qC W q r Q R (t++[a])=qC W q r Q R t++(if Q+aK t q+q a<W/\0<R+aK t r+r a then [(W-(Q+aK t q+q a))/(R+aK t r+r a)]else [])
 |[],a,Q,R=>by show(if _ then _ else _)++[]=[]++_;simp_all[aK,cY]
 |b::t,a,Q,R=>by show(if _ then _ else _)++qC W q r _ _ (t++[a])=((if _ then _ else _)++qC W q r _ _ t)++_;rw[Sj t a,ij];have e1:aK (b::t) q=q b+aK t q:=rfl;have e2:aK (b::t) r=r b+aK t r:=rfl;rw[e1,e2,fa Q,fa R]
noncomputable def Vz(g:gB)(x d:Nat->Rat)(j:Nat):List Rat:=Bj (mJ g x) d g.e.length++((aZ g).ds.take j).flatMap λd'=>qC d'.1 (gq (aZ g) x) (gr (aZ g) x d) 0 0 d'.2
noncomputable def DT(g:gB)(x d:Nat->Rat)(j k:Nat):List Rat:=Vz g x d j++qC (dW g j) (gq (aZ g) x) (gr (aZ g) x d) 0 0 ((dL g j).take k)
def aff(g:gB)(x d:Nat->Rat)(j:Nat):DT g x d j 0=Vz g x d j:=by unfold DT;rw[cL];exact dw _
def ajR(g:gB)(x d:Nat->Rat){j:Nat}(h:j<g.d.length):DT g x d j (dL g j).length=Vz g x d (j+1):=by grind[DT,Vz,take_snoc,yg,OJ]
def afg(g:gB)(x d:Nat->Rat){j k:Nat}(h:k<(dL g j).length):DT g x d j (k+1)=DT g x d j k++(if aK ((dL g j).take (k+1)) (gq (aZ g) x)<dW g j/\0<aK ((dL g j).take (k+1)) (gr (aZ g) x d)then [(dW g j-aK ((dL g j).take (k+1)) (gq (aZ g) x))/aK ((dL g j).take (k+1)) (gr (aZ g) x d)]else []):=by grind[DT,take_snoc,Sj,mM]
structure NrN(D:Nat)(g:gB)(x d:Nat->Rat):Prop where
 m:Vf D g x
 nn:∀i,i<g.e.length->BN (dU (ix g.e i))/\0<=x i
 dz:∀i,i<g.e.length->Sz (d i)
 nx:∀i,i<g.e.length->0<d i->∃S:Rat->Prop,S (x i)/\(∀m,S m->∃D,BQ D/\EOk D (kE g.e i) (dU (ix g.e i))/\MOk D (dU (ix g.e i)) m/\ROk D (dU (ix g.e i)) m/\SOk (dU (ix g.e i)) m)/\∀m t,S m->Ie (dU (ix g.e i)) m=some t->S (m+t)
 ny:∀i,i<g.e.length->0<d i->∀y,nxE (dU (ix g.e i)) (kE g.e i) (x i)=some y->Sz y/\Sz (y-x i)/\Sz ((y-x i)/d i)
 c1:∀i,i<=g.e.length->Sz (gq0 (Aj (Bj (mJ g x) d i)))
 c2:∀j,j<g.d.length->∀k,k<=(dL g j).length->Sz (gq0 (Aj (DT g x d j k)))/\Sz (dW g j-aK ((dL g j).take k) (gq (aZ g) x))/\Sz (aK ((dL g j).take k) (gr (aZ g) x d))
  /\Sz ((dW g j-aK ((dL g j).take k) (gq (aZ g) x))/aK ((dL g j).take k) (gr (aZ g) x d))
 c3:∀j,j<g.d.length->∀l∈dL g j,Sz (gq (aZ g) x l)/\Sz (gs (aZ g) x l.1 l)/\Sz (gr (aZ g) x d l)
def Sr{σ:St}(hW:WF σ){sb:Nat}{g:gB}{x d:Nat->Rat}(hs:DI (Lt σ.aj) σ.h sb g){p:Nat->Prop}{xv YV Dv Sv:B}(hx:je p σ.h xv g.e.length x)(hd:je p σ.h YV g.e.length d)(hDv:dV p σ.h Dv g.e.length (kE g.e) (P8 g x))(hSv:dV p σ.h Sv g.e.length (kE g.e) (Ky g x)){D:Nat}(hN:NrN D g x d):
  aC EN 100 [.c (.ptr sb 0),.c xv,.c YV,.agg [Dv,Sv]] σ λr σ'=>r=.aV (.agg [.bool (rn (gq0 (Aj (jQ g.e.length (aZ g) (mJ g x) x d)))),.str (rs (gq0 (Aj (jQ g.e.length (aZ g) (mJ g x) x d)))),.str (rd (gq0 (Aj (jQ g.e.length (aZ g) (mJ g x) x d))))]) (.aV (.c (.bool (Aj (jQ g.e.length (aZ g) (mJ g x) x d)).isSome)) .tnil)/\Fr σ σ':=by
 refine aO (jE.o _ _) jE.h ?_
 unfold jE
 dsimp only
 have hs':=hs
 obtain⟨⟨ev,gv,lv,bv,hsb,hg,⟨R,P,hL1,hL2⟩,hB⟩,hsl⟩:=hs
 have YX:=hN.m.A.s
 have hn:=YX.n
 have hnd:=YX.d
 have hD:=YX.hD
 have hlk:=hL1.kn
 have hll:=hL1.len
 have hlD:=hg.d.len
 have hdk:=hg.d.kn
 have k1:=hDv.kn
 have k2:=hSv.kn
 have hsl:sb<σ.aj:=hsl
 have hFr:=Fr.refl hW
 simp(disch:=try exact jz) only[go_sem,z3,k1,k2,ak hsb,hll,hlk]
 refine bM.mono (Q:=λex tm σ'=>ex=.exit 0/\Tr.ah tm 0=.c (.ptr sb 0)/\Tr.ah tm 2=.c YV/\Tr.ah tm 7=.c (.ptr σ.aj 0)/\Tr.ah tm 8=.c (.ptr (σ.aj+1) 0)/\Tr.ah tm 10=.c (.ptr (σ.aj+1+1) 0)/\Tr.ah tm 11=.c (.ptr (σ.aj+1+1+1) 0)/\Tr.ah tm 12=.fn 156 [.ptr (σ.aj+1+1+1) 0,.ptr (σ.aj+1+1) 0]
   /\σ'.h σ.aj=some ⟨[Dv,Sv],none⟩/\σ'.h (σ.aj+1)=some ⟨[.bool (rn 0),.str (rs 0),.str (rd 0)],none⟩/\Ql σ'.h (σ.aj+1+1+1) (σ.aj+1+1) (Aj (Bj (mJ g x) d g.e.length))/\Fr σ σ'/\σ.aj+1+1+1+1<=σ'.aj)
  (aF (λq tm σ'=>∃i,q=g.e.length-i/\i<=g.e.length/\Tr.ah tm 0=.c (.ptr sb 0)/\Tr.ah tm 1=.c xv/\Tr.ah tm 2=.c YV/\Tr.ah tm 7=.c (.ptr σ.aj 0)/\Tr.ah tm 8=.c (.ptr (σ.aj+1) 0)/\Tr.ah tm 10=.c (.ptr (σ.aj+1+1) 0)/\Tr.ah tm 11=.c (.ptr (σ.aj+1+1+1) 0)/\Tr.ah tm 12=.fn 156 [.ptr (σ.aj+1+1+1) 0,.ptr (σ.aj+1+1) 0]
   /\Tr.ah tm 27=.c lv/\Tr.ah tm 28=.c (.int .i64 (.ofNat g.e.length))/\Tr.ah tm 29=.c (.int .i64 (.ofNat i))/\σ'.h σ.aj=some ⟨[Dv,Sv],none⟩/\σ'.h (σ.aj+1)=some ⟨[.bool (rn 0),.str (rs 0),.str (rd 0)],none⟩/\Ql σ'.h (σ.aj+1+1+1) (σ.aj+1+1) (Aj (Bj (mJ g x) d i))/\Fr σ σ'/\σ.aj+1+1+1+1<=σ'.aj) g.e.length ?_ ?_) ?_
 .refine⟨0,jb,jb,?_⟩
  simp(disch:=try exact jz) only[go_sem,z3,am]
  refine⟨⟨aA _ _ _,?_⟩,fr,jb⟩
  rw[au _ _ _ _ jb,au _ _ _ _ jb,aA]
  rfl
 .rintro q tm σ' ⟨i,rfl,hi,t0,t1,t2,t7,t8,t10,t11,t12,t27,t28,t29,q7,q8,hO,hf,hnx⟩
  have hle:=hf.le
  have jv:=Fr.refl hf.wf
  simp(disch:=try exact jz) only[go_sem,z3,t0,t1,t2,t7,t8,t10,t11,t12,t27,t28,t29,aG]
  refine aH (λhlt=>?_) (λhlt=>?_)
  .obtain⟨b5,o5,c5,rfl,-,bZ⟩:=hL1.pos jb
   have hLi:=hL2 i hlt
   have hRk:=hLi.rk.kn
   have hPk:=hLi.VI
   obtain⟨he1,he2,-,-⟩:=YX.e i hlt
   have bZ:=hf.ld hW (bZ i hlt)
   obtain⟨b6,o6,c6,e6,-,bC⟩:=aY.at3 hd hlt
   obtain⟨b7,o7,c7,e7,-,dh⟩:=aY.at3 hx hlt
   have azl:=hW.dB bC
   have awc:=hW.dB dh
   have bC:=hf.ld hW bC
   have dh:=hf.ld hW dh
   have a6:V.c (.sl b6 o6 g.e.length c6)=V.c YV:=by rw[e6]
   have a7:V.c (.sl b7 o7 g.e.length c7)=V.c xv:=by rw[e7]
   rw[e6]at t2
   rw[e7]at t1
   have hb6:=hf.wf.dB bC
   have hb7:=hf.wf.dB dh
   have hb5:=hf.wf.dB bZ
   have z1:=hN.dz i hlt
   unfold jA at bZ
   by_cases hp:0<d i
   .have hl7:=hf.wf.lt q7
    obtain⟨S,s1,s2,s3⟩:=hN.nx i hlt hp
    obtain⟨n1,n2⟩:=hN.nn i hlt
    have hzO:=hN.c1 i hi
    obtain⟨Dx,-,-,zx,-,-⟩:=s2 _ s1
    have zx:=zx.hm
    simp(disch:=try exact jz) only[go_sem,z3,t0,t1,t2,t7,t8,t10,t11,t12,t27,t28,t29,bZ,bC,dh,hRk,hPk,hp]
    refine aC.st (Fr σ') (fr) λgV=>?_
    have hf5:=hf.trans gV
    refine(arR gV.wf _ (dU (ix g.e i)) ((hLi.keep (λb hb=>hf5.old b hb) λ_ h=>h).lay) (x i) n1 n2 S s1 s2 s3).mono ?_
    rintro _ σ6 ⟨⟨o,ho,rfl⟩,gY⟩
    have lC:=gV.trans gY
    have aaB:=hf.trans lC
    have Ae:σ'.aj+1+1<=σ6.aj:=gY.le
    have hy6:σ6.h (σ'.aj+1)=some ⟨[.bool (rn 0),.str (rs 0),.str (rd 0)],none⟩:=gY.get gV.wf (aA _ _ _)
    have q76:=lC.get hf.wf q7
    have q86:=lC.get hf.wf q8
    have hO6:Ql σ6.h (σ.aj+1+1+1) (σ.aj+1+1) (Aj (Bj (mJ g x) d i)):=⟨lC.get hf.wf hO.f,lC.get hf.wf hO.o⟩
    have awd:=lC.ld hf.wf bC
    have awe:=lC.ld hf.wf dh
    have hno:=ajQ ho
    cases o with
    |none=>
     have hds:mJ g x i=none:=by unfold mJ;rw[hno];rfl
     have hcn:Bj (mJ g x) d (i+1)=Bj (mJ g x) d i:=by show _++_=_;rw[ab hp,hds,dw]
     unfold arQ
     simp(disch:=try exact jz) only[go_sem,z3,t0,t1,t2,t7,t8,t10,t11,t12,t27,t28,t29,ak hy6,hy6,aI hy6]
     have hW6:=gY.wf
     refine⟨g.e.length-(i+1),jb,i+1,rfl,jb,a7,a6,rfl,q76,q86,?_,fr,jb⟩
     rw[hcn]
     exact⟨(au _ _ _ _ jb).trans hO6.f,(au _ _ _ _ jb).trans hO6.o⟩
    |some y=>
     have hds:mJ g x i=some (y-x i):=by unfold mJ;rw[hno];rfl
     have hcn:Bj (mJ g x) d (i+1)=Bj (mJ g x) d i++[(y-x i)/d i]:=by show _++_=_;rw[ab hp,hds]
     obtain⟨y1,y2,y3⟩:=hN.ny i hlt hp y hno
     unfold arQ
     simp(disch:=try exact jz) only[go_sem,z3,t0,t1,t2,t7,t8,t10,t11,t12,t27,t28,t29,ak hy6,hy6,aI hy6,awd,awe]
     refine aC.st (Fr σ') (by have hW6:=gY.wf;exact fr) λsD=>?_
     have hO7:Ql (hset σ6.h (σ'.aj+1) ⟨[.bool (rn y),.str (rs y),.str (rd y)],none⟩) (σ.aj+1+1+1) (σ.aj+1+1) (Aj (Bj (mJ g x) d i)):=⟨(au _ _ _ _ jb).trans hO6.f,(au _ _ _ _ jb).trans hO6.o⟩
     refine(ajP sD.wf hO7 jb y2 z1 hp y3 hzO).mono ?_
     rintro v8 σ8 ⟨hO8,oM⟩
     rw[<-Si,<-hcn]at hO8
     have ae2:σ6.aj<=σ8.aj:=oM.le
     have Ll:=aU.to (hf.trans sD) oM λb hb=>by simp at hb;omega
     have awf:=oM.ld sD.wf (by simp<;>omega) (sD.ld hf.wf bC)
     have q78:=oM.get sD.wf (by simp<;>omega) (sD.get hf.wf q7)
     have q88:=oM.get sD.wf (by simp<;>omega) (sD.get hf.wf q8)
     simp(disch:=try exact jz) only[go_sem,z3,t0,t1,t2,t7,t8,t10,t11,t12,t27,t28,t29,awf]
     exact⟨g.e.length-(i+1),jb,i+1,rfl,jb,a7,a6,rfl,q78,q88,hO8,Ll,jb⟩
   .have hcn:Bj (mJ g x) d (i+1)=Bj (mJ g x) d i:=by show _++_=_;rw[ae hp,dw]
    simp(disch:=try exact jz) only[go_sem,z3,t0,t1,t2,t7,t8,t10,t11,t12,t27,t28,t29,bZ,bC,hRk,hPk,hp]
    refine⟨g.e.length-(i+1),jb,i+1,rfl,jb,a7,a6,rfl,q7,q8,?_,fr,jb⟩
    rw[hcn]
    have hl7:=hf.wf.lt q7
    refine⟨?_,?_⟩
    .repeat rw[au _ _ _ _ jb]
     exact hO.f
    .repeat rw[au _ _ _ _ jb]
     exact hO.o
  .have:i=g.e.length:=jb
   subst this
   simp(disch:=try exact jz) only[go_sem,z3,am]
   exact⟨t0,t2,t7,t8,t10,t11,t12,q7,q8,hO,hf,hnx⟩
 rintro _ tm σ3 ⟨rfl,t0,t2,t7,t8,t10,t11,t12,q7,q8,hO,hf3,hn3⟩
 have hle3:=hf3.le
 have aiR:=hf3.get hW hsb
 have hcz:Bj (mJ g x) d g.e.length=Vz g x d 0:=by unfold Vz;rw[cL];exact(dw _).symm
 rw[hcz]at hO
 simp(disch:=try exact jz) only[go_sem,z3,t0,t2,t7,t8,t10,t11,t12,ak aiR,hlD,hdk]
 refine aF (λq tm σ'=>∃j,q=g.d.length-j/\j<=g.d.length/\Tr.ah tm 2=.c YV/\Tr.ah tm 7=.c (.ptr σ.aj 0)/\Tr.ah tm 8=.c (.ptr (σ.aj+1) 0)/\Tr.ah tm 10=.c (.ptr (σ.aj+1+1) 0)/\Tr.ah tm 11=.c (.ptr (σ.aj+1+1+1) 0)/\Tr.ah tm 12=.fn 156 [.ptr (σ.aj+1+1+1) 0,.ptr (σ.aj+1+1) 0]
   /\Tr.ah tm 67=.c gv/\Tr.ah tm 68=.c (.int .i64 (.ofNat g.d.length))/\Tr.ah tm 69=.c (.int .i64 (.ofNat j))
   /\σ'.h σ.aj=some ⟨[Dv,Sv],none⟩/\σ'.h (σ.aj+1)=some ⟨[.bool (rn 0),.str (rs 0),.str (rd 0)],none⟩/\Ql σ'.h (σ.aj+1+1+1) (σ.aj+1+1) (Aj (Vz g x d j))/\Fr σ σ'/\σ.aj+1+1+1+1<=σ'.aj) g.d.length ?_ ?_
 .refine⟨0,jb,jb,?_⟩
  simp(disch:=try exact jz) only[go_sem,z3,t2,t7,t8,t10,t11,t12,am]
  exact⟨q7,q8,hO,hf3,hn3⟩
 .rintro q tm σ' ⟨j,rfl,hj,t2,t7,t8,t10,t11,t12,t67,t68,t69,q7,q8,hO,hf,hnx⟩
  have hle:=hf.le
  simp(disch:=try exact jz) only[go_sem,z3,t2,t7,t8,t10,t11,t12,t67,t68,t69,aG]
  refine aH (λhlt=>?_) (λhlt=>?_)
  .obtain⟨b5,o5,c5,rfl,L1,bZ,hL⟩:=hg.d.el hlt
   have bZ:=hf.ld hW bZ
   have hLk:=aY.kn hL
   have hlL:=aY.len hL
   obtain⟨hlen,Iw⟩:=YX.l j hlt
   obtain⟨hwf,hw0,hwz⟩:=YX.w j hlt
   have jv:=Fr.refl hf.wf
   have hw2:=oZ hwf
   have hmx:He (rq (ix g.d j).w.n (ix g.d j).w.s (ix g.d j).w.d) 0=dW g j:=by rw[aaD];exact Ju hw0
   generalize hm:(ix g.d j).l.length=m at*
   have hdl:(dL g j).length=m:=(Jz g j).trans hm
   have ajk:lenV (.c L1)=some (.c (.int .i64 (.ofNat m))):=hlL
   have hl7:=hf.wf.lt q7
   have hl8:=hf.wf.lt q8
   have hlf:=hf.wf.lt hO.f
   have hlo:=hf.wf.lt hO.o
   simp(disch:=try exact jz) only[go_sem,z3,t2,t7,t8,t10,t11,t12,t67,t68,t69,bZ,hLk,ajk,hmx]
   refine bM.st (Fr σ') (fr) λgV=>?_
   have hf5:=hf.trans gV
   have xY:=gV.le
   refine bM.mono (Q:=λex tm σ4=>ex=.exit 4/\Tr.ah tm 2=.c YV/\Tr.ah tm 7=.c (.ptr σ.aj 0)/\Tr.ah tm 8=.c (.ptr (σ.aj+1) 0)/\Tr.ah tm 10=.c (.ptr (σ.aj+1+1) 0)/\Tr.ah tm 11=.c (.ptr (σ.aj+1+1+1) 0)/\Tr.ah tm 12=.fn 156 [.ptr (σ.aj+1+1+1) 0,.ptr (σ.aj+1+1) 0]
    /\Tr.ah tm 67=.c (.sl b5 o5 g.d.length c5)/\Tr.ah tm 68=.c (.int .i64 (.ofNat g.d.length))/\Tr.ah tm 69=.c (.int .i64 (.ofNat j))/\σ4.h σ.aj=some ⟨[Dv,Sv],none⟩/\σ4.h (σ.aj+1)=some ⟨[.bool (rn 0),.str (rs 0),.str (rd 0)],none⟩/\Ql σ4.h (σ.aj+1+1+1) (σ.aj+1+1) (Aj (DT g x d j m))/\Fr σ σ4/\σ.aj+1+1+1+1<=σ4.aj)
    (aF (λq tm σ4=>∃k,q=m-k/\k<=m/\Tr.ah tm 2=.c YV/\Tr.ah tm 7=.c (.ptr σ.aj 0)/\Tr.ah tm 8=.c (.ptr (σ.aj+1) 0)/\Tr.ah tm 10=.c (.ptr (σ.aj+1+1) 0)/\Tr.ah tm 11=.c (.ptr (σ.aj+1+1+1) 0)/\Tr.ah tm 12=.fn 156 [.ptr (σ.aj+1+1+1) 0,.ptr (σ.aj+1+1) 0]
     /\Tr.ah tm 19=.c (.ptr (σ'.aj+1) 0)/\Tr.ah tm 20=.c (.ptr (σ'.aj+1+1) 0)/\Tr.ah tm 67=.c (.sl b5 o5 g.d.length c5)/\Tr.ah tm 68=.c (.int .i64 (.ofNat g.d.length))/\Tr.ah tm 69=.c (.int .i64 (.ofNat j))/\Tr.ah tm 79=.c L1/\Tr.ah tm 80=.c (.int .i64 (.ofNat m))/\Tr.ah tm 81=.c (.int .i64 (.ofNat k))
     /\σ4.h σ.aj=some ⟨[Dv,Sv],none⟩/\σ4.h (σ.aj+1)=some ⟨[.bool (rn 0),.str (rs 0),.str (rd 0)],none⟩/\σ4.h (σ'.aj+1)=some ⟨[.bool (rn (dW g j-aK ((dL g j).take k) (gq (aZ g) x))),.str (rs (dW g j-aK ((dL g j).take k) (gq (aZ g) x))),.str (rd (dW g j-aK ((dL g j).take k) (gq (aZ g) x)))],none⟩
     /\σ4.h (σ'.aj+1+1)=some ⟨[.bool (rn (aK ((dL g j).take k) (gr (aZ g) x d))),.str (rs (aK ((dL g j).take k) (gr (aZ g) x d))),.str (rd (aK ((dL g j).take k) (gr (aZ g) x d)))],none⟩/\Ql σ4.h (σ.aj+1+1+1) (σ.aj+1+1) (Aj (DT g x d j k))/\Fr σ σ4/\σ'.aj+1+1+1<=σ4.aj) m ?_ ?_) ?_
   .refine⟨0,jb,jb,?_⟩
    simp(disch:=try exact jz) only[go_sem,z3,t2,t7,t8,t10,t11,t12,t67,t68,t69,am,cL]
    have e1:dW g j-aK ([]:List fK) (gq (aZ g) x)=dW g j:=by show dW g j-0=dW g j;grind
    rw[e1,aff]
    refine⟨q7,q8,rfl,rfl,⟨?_,?_⟩,hf5,jb⟩
    .repeat rw[au _ _ _ _ jb]
     exact hO.f
    .repeat rw[au _ _ _ _ jb]
     exact hO.o
   .rintro q VG σ4 ⟨k,rfl,hk,t2,t7,t8,t10,t11,t12,t19,t20,t67,t68,t69,t79,t80,Ah,q7,q8,q19,q20,hO,hf4,hn4⟩
    simp(disch:=try exact jz) only[go_sem,z3,t2,t7,t8,t10,t11,t12,t19,t20,t67,t68,t69,t79,t80,Ah,aG]
    refine aH (λhltk=>?_) (λhltk=>?_)
    .obtain⟨b8,o8,c8,e8,-,kZ⟩:=aY.pos hL (show 0<(ix g.d j).l.length by omega)
     have kZ:=hf4.ld hW (kZ k jb)
     rw[hm]at e8
     rw[e8]at t79
     have a8:V.c (.sl b8 o8 m c8)=V.c L1:=by rw[e8]
     obtain⟨e,c,EJ,he,hc⟩:=Iw k hltk
     unfold KR at kZ
     rw[EJ]at kZ
     have hlk2:k<(dL g j).length:=jb
     have hix:ix (dL g j) k=(e,c):=by rw[ai2 (by omega:k<(ix g.d j).l.length),EJ];rfl
     have hmem:(e,c)∈dL g j:=by rw[<-hix];exact gy hlk2
     obtain⟨b9,o9,c9,T,eD,-,OQ,hT⟩:=hDv.at he
     obtain⟨ba,oa,ca,rfl,-,afh⟩:=aY.at3 hT hc
     obtain⟨bb,ob,cb,T2,eS,-,Yx,hT2⟩:=hSv.at he
     obtain⟨bc,oc,cc,rfl,-,afi⟩:=aY.at3 hT2 hc
     obtain⟨bd,od,cd,e6,-,afj⟩:=aY.at3 hd he
     have azm:=hW.dB OQ
     have azn:=hW.dB afh
     have azo:=hW.dB Yx
     have azp:=hW.dB afi
     have hbd0:=hW.dB afj
     have vN:=hf4.le
     have OQ:=hf4.ld hW OQ
     have afh:=hf4.ld hW afh
     have Yx:=hf4.ld hW Yx
     have afi:=hf4.ld hW afi
     have afj:=hf4.ld hW afj
     rw[eD,eS]at q7
     rw[e6]at t2
     have a6:V.c (.sl bd od g.e.length cd)=V.c YV:=by rw[e6]
     obtain⟨w1,w2,w3,-⟩:=hN.c2 j hlt k jb
     obtain⟨v1,v2,v3,v4⟩:=hN.c2 j hlt (k+1) jb
     obtain⟨u1,u2,u3⟩:=hN.c3 j hlt _ hmem
     have u1:Sz (P8 g x e c):=u1
     have u2:Sz (Ky g x e c):=by have:gs (aZ g) x (e,c).1 (e,c)=Ky g x e c:=ab rfl;rw[<-this];exact u2
     have u3:Sz (Ky g x e c*d e):=u3
     have u4:=hN.dz e he
     have s1:dW g j-aK ((dL g j).take k) (gq (aZ g) x)-P8 g x e c=dW g j-aK ((dL g j).take (k+1)) (gq (aZ g) x):=by rw[take_snoc hlk2,mM,hix];show _-P8 g x e c=_-(_+P8 g x e c);grind
     have s2:aK ((dL g j).take k) (gr (aZ g) x d)+Ky g x e c*d e=aK ((dL g j).take (k+1)) (gr (aZ g) x d):=by rw[take_snoc hlk2,mM,hix];rfl
     have hsc:=afg g x d hlk2
     have Bf:=Fr.refl hf4.wf
     generalize hA:dW g j-aK ((dL g j).take (k+1)) (gq (aZ g) x)=A at*
     generalize hB:aK ((dL g j).take (k+1)) (gr (aZ g) x d)=Bq at*
     have zA:=v2
     have zB:=v3
     rw[<-s1]at v2
     rw[<-s2]at v3
     have g7:∀b,b≠σ4.aj->b≠σ'.aj+1->b≠σ'.aj+1+1->(hset (hset (hset (hset σ4.h σ4.aj ⟨[.int .i64 (.ofNat 0),.int .i64 (.ofNat 0)],none⟩) σ4.aj ⟨[.int .i64 (.ofNat e),.int .i64 (.ofNat c)],none⟩) (σ'.aj+1) ⟨[.bool (rn A),.str (rs A),.str (rd A)],none⟩) (σ'.aj+1+1) ⟨[.bool (rn Bq),.str (rs Bq),.str (rd Bq)],none⟩) b=σ4.h b:=λb k1 k2 k3=>by rw[au _ _ _ _ k3,au _ _ _ _ k2,au _ _ _ _ k1,au _ _ _ _ k1]
     have hO7:Ql (hset (hset (hset (hset σ4.h σ4.aj ⟨[.int .i64 (.ofNat 0),.int .i64 (.ofNat 0)],none⟩) σ4.aj ⟨[.int .i64 (.ofNat e),.int .i64 (.ofNat c)],none⟩) (σ'.aj+1) ⟨[.bool (rn A),.str (rs A),.str (rd A)],none⟩) (σ'.aj+1+1) ⟨[.bool (rn Bq),.str (rs Bq),.str (rd Bq)],none⟩) (σ.aj+1+1+1) (σ.aj+1+1) (Aj (DT g x d j k)):=⟨(g7 _ jb jb jb).trans hO.f,(g7 _ jb jb jb).trans hO.o⟩
     by_cases h1:0<A
     .by_cases h2:0<Bq
      .simp(disch:=try exact jz) only[go_sem,z3,t2,t7,t8,t10,t11,t12,t19,t20,t67,t68,t69,t79,t80,Ah,kZ,OQ,afh,Yx,afi,afj,ak q7,ak q19,q19,aI q19,ak q20,q20,aI q20,s1,s2,h1,h2]
       refine aC.st (Fr σ) (fr) λsD=>?_
       refine(ajP sD.wf hO7 jb zA zB h2 v4 w1).mono ?_
       rintro v8 σ8 ⟨hO8,oM⟩
       have hcn:DT g x d j (k+1)=DT g x d j k++[A/Bq]:=by rw[hsc,ab ⟨by grind,h2⟩]
       rw[<-Si,<-hcn]at hO8
       have ae2:σ4.aj+1<=σ8.aj:=oM.le
       have Ll:=aU.to sD oM λb hb=>by simp at hb;omega
       have q78:=oM.get sD.wf (by simp<;>omega) ((g7 _ jb jb jb).trans q7)
       have q88:=oM.get sD.wf (by simp<;>omega) ((g7 _ jb jb jb).trans q8)
       have ayd:=oM.get sD.wf (by simp<;>omega) ((au _ _ _ _ (show σ'.aj+1≠σ'.aj+1+1 by omega)).trans (aA _ _ _))
       have aye:=oM.get sD.wf (by simp<;>omega) (aA _ _ _)
       simp(disch:=try exact jz) only[go_sem,z3,t2,t7,t8,t10,t11,t12,t19,t20,t67,t68,t69,t79,t80,Ah]
       refine⟨m-(k+1),jb,k+1,rfl,jb,a6,a8,rfl,?_,q88,?_,?_,?_,Ll,jb⟩
       .rw[eD,eS];exact q78
       .rw[hA];exact ayd
       .rw[hB];exact aye
       .exact hO8
      .simp(disch:=try exact jz) only[go_sem,z3,t2,t7,t8,t10,t11,t12,t19,t20,t67,t68,t69,t79,t80,Ah,kZ,OQ,afh,Yx,afi,afj,ak q7,ak q19,q19,aI q19,ak q20,q20,aI q20,s1,s2,h1,h2]
       have hcn:DT g x d j (k+1)=DT g x d j k:=by rw[hsc,ae λh=>h2 h.2,dw]
       refine⟨m-(k+1),jb,k+1,rfl,jb,a6,a8,rfl,?_,q8,?_,?_,?_,fr,jb⟩
       .rw[eD,eS];exact q7
       .rw[hA]
       .rw[hB]
       .rw[hcn];exact hO7
     .simp(disch:=try exact jz) only[go_sem,z3,t2,t7,t8,t10,t11,t12,t19,t20,t67,t68,t69,t79,t80,Ah,kZ,OQ,afh,Yx,afi,afj,ak q7,ak q19,q19,aI q19,ak q20,q20,aI q20,s1,s2,h1]
      have hcn:DT g x d j (k+1)=DT g x d j k:=by rw[hsc,ae λh=>h1 kd,dw]
      refine⟨m-(k+1),jb,k+1,rfl,jb,a6,a8,rfl,?_,q8,?_,?_,?_,fr,jb⟩
      .rw[eD,eS];exact q7
      .rw[hA]
      .rw[hB]
      .rw[hcn];exact hO7
    .have:k=m:=jb
     subst this
     simp(disch:=try exact jz) only[go_sem,z3,am]
     exact⟨t2,t7,t8,t10,t11,t12,t67,t68,t69,q7,q8,hO,hf4,jb⟩
   .rintro _ tm σ4 ⟨rfl,t2,t7,t8,t10,t11,t12,t67,t68,t69,q7,q8,hO,hf4,hn4⟩
    rw[<-hdl,ajR g x d hlt]at hO
    simp(disch:=try exact jz) only[go_sem,z3,t2,t7,t8,t10,t11,t12,t67,t68,t69]
    exact⟨g.d.length-(j+1),jb,j+1,rfl,jb,rfl,q7,q8,hO,hf4,hn4⟩
  .have:j=g.d.length:=jb
   subst this
   have hcs:Vz g x d g.d.length=jQ g.e.length (aZ g) (mJ g x) x d:=by unfold Vz jQ;rw[fe (by rw[yg];exact jp)]
   rw[hcs]at hO
   have o1:=hO.f
   have o2:=hO.o
   simp(disch:=try exact jz) only[go_sem,z3,t8,t10,t11,ak o1,ak o2,o1,o2,aI q8,q8]
   exact fr
end Go.Proofs.Xe
