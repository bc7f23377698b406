import Derived.Test.YthkggcakedkboaaGreatDoorYa39
set_option linter.all false
set_option maxHeartbeats 8000000
namespace Go.Proofs.Xe
open Go.RowKit Go.Proofs.Ins
def VN{l:fU}:∀{m g:Rat},Kw l->mG l m=some g->m+g<=jr l:=by
 induction l with
 |nil=>intro m g _ h;cases h
 |cons t l ih=>
  intro m g hn h
  have h1:=zy (l:=l) λu hu=>hn u (by simp[hu])
  unfold mG at h
  show m+g<=aV t+jr l
  split at h
  .grind
  .have:=ih (λu hu=>hn u (by simp[hu])) h;grind
def PL{l:fU}:∀{m:Rat},Kw l->jh l m<=jr l:=by
 induction l with
 |nil=>intro m _;rfl
 |cons t l ih=>
  intro m hn
  have h1:=zy (l:=l) λu hu=>hn u (by simp[hu])
  have h2:=ih (m:=m-aV t) λu hu=>hn u (by simp[hu])
  grind[jh,jr]
def aoy{l:fU}(h:Kw l){m:Rat}(h0:0<=m):jh l m<=m:=by have h1:=Jz h be h0;grind[Ou,zy]
def VO{A n:Nat}{U:Rat}:∀{l:fU},xU (λq=>dX A q/\0<=q/\q<=U) n l->jr l<=(dH l:Rat)*U
 |[],_=>by show(0:Rat)<=((0:Nat):Rat)*U;simp
 |t::l,h=>by have h1:=VO (l:=l) λu hu=>h u (by simp[hu]);have h2:=Yq (h t kc);show aV t+jr l<=((t.length+dH l:Nat):Rat)*U;grind
def abE{n:Nat}{e:fA}(hN:Ak e)(hI:InE n e){x:Rat}(hx:0<=x):aB n (pO e x)<=jr e.rk:=by
 rw[Lu hN hI hx];have h1:=PL (m:=x) hN.rk;have h2:0<=aI e.ps (λp=>kK e x p-jh p.2 (kK e x p)):=ng λp hp=>by have:=aoy (hN.ps p hp) (mY hN hx p);grind
 have h3:0<=VZ e x:=ng λp hp=>UU (hN.ps p hp) _ (mY hN hx p);grind
def adL{W:Rat}{q:fC->Rat}{j:Nat}:∀(t:List fC) (Q:Rat),(∀l∈t,0<=q l)->ql W q Q t j<=aI t q
 |[],_,_=>be
 |l::t,Q,h=>by
  have h1:=adL t (Q+q l) (W:=W) (j:=j) λu hu=>h u (by simp[hu]);have h2:=h l kc;have h3:oz (Q+q l-W)-oz (Q-W)<=q l:=by unfold oz;split<;>split<;>grind
  show(if l.1=j then _ else 0)+ql W q (Q+q l) t j<=q l+aI t q;split<;>grind
def aoz(e:fA)(x:Rat):opn e x<=e.rk.length+Ov e x e.ps:=by unfold opn;omega
def adM{e:fA}{x:Rat}{k:Nat}:∀{l:List (List Nat×fU)},(∀p∈l,p.2.length<=k)->Ov e x l<=l.length*k
 |[],_=>bz _
 |p::l,h=>by have h1:=adM (e:=e) (x:=x) (l:=l) λq hq=>h q (by simp[hq]);grind[Ov,Nat.succ_mul]
def VP{A C K:Nat}{a b:Rat}(hA:0<A)(hC:0<C)(ha:dX (A*C) a)(hb:dX C b)(h0:0<b)(hk:b<=(K:Rat)):∃s,0<s/\s<=K*C/\dX (A*s) (a/b):=by
 obtain⟨e,hs⟩:=Vb hC hb h0;generalize nuA C b=s at*;refine⟨s,hs,?_,?_⟩
 .refine O4 ?_;have hp:=Pv hC;have h1:=bo hk (dT hp);rw[e,de (iI hC)]at h1;grind
 .obtain⟨z,rfl⟩:=ha;refine⟨z,?_⟩;grind
def adN{W:Rat}{q r:fC->Rat}:∀(t:List fC) (Q R:Rat),∀v∈qp W q r Q R t,∃k,k<t.length/\v=(W-(Q+aI (t.take (k+1)) q))/(R+aI (t.take (k+1)) r)/\0<R+aI (t.take (k+1)) r
 |[],_,_,v,hv=>by cases hv
 |l::t,Q,R,v,hv=>by
  unfold qp at hv;rcases bP.mp hv with hv|hv
  .split at hv
   .next hh=>
    have e:v=(W-(Q+q l))/(R+r l):=by grind
    have e1:aI ((l::t).take (0+1)) q=q l:=by grind[aI]
    have e2:aI ((l::t).take (0+1)) r=r l:=by grind[aI]
    exact⟨0,by simp,by grind,by grind⟩
   grind
  .obtain⟨k,h1,h2,h3⟩:=adN t _ _ v hv;have e1:∀f:fC->Rat,aI ((l::t).take (k+1+1)) f=f l+aI (t.take (k+1)) f:=λf=>rfl;refine⟨k+1,by grind,?_,?_⟩
   .grind
   grind
def Fb(n q:Nat)(d:Nat->Rat):Prop:=∃Q:Nat,0<Q/\Q<=2^q/\∀i,i<n->∃z:Int,d i=(z:Rat)/(Q:Rat)/\z.natAbs<=2^q
def Fb.rat{n q:Nat}{d:Nat->Rat}(h:Fb n q d){i:Nat}(hi:i<n):lN q (d i):=by obtain⟨Q,h1,h2,h3⟩:=h;obtain⟨z,e,hz⟩:=h3 i hi;exact⟨z,Q,h1,h2,hz,e⟩
def lN.le{q:Nat}{v:Rat}(h:lN q v):v<=((2^q:Nat):Rat):=by obtain⟨z,Q,h1,h2,h3,rfl⟩:=h;have hp:=Pv h1;have h4:((z:Int):Rat)<=(((2^q:Nat):Int):Rat):=fW.mpr jb;have h5:((1:Nat):Rat)<=(Q:Rat):=br.mpr h1;have e1:((1:Nat):Rat)=1:=rfl;have h6:(0:Rat)<=((2^q:Nat):Rat):=br.mpr (bz _);have h4:((z:Int):Rat)<=((2^q:Nat):Rat):=h4;generalize ((2^q:Nat):Rat)=N at*;refine il.mp λhlt=>?_;have h7:=dC hlt hp;rw[de (iI h1)]at h7;have h8:=cN h5 h6;grind
def af9(B b r:Nat)(v:Rat):Prop:=lN r v/\∃H,B∣H/\0<H/\H<=2^b/\dX H v
section
variable {g:fP} {B b q:Nat} {x d:Nat→Rat}
theorem kL.tot(h:kL g){i:Nat}(hi:i<g.e.length):0<=jr (bW (ix g.e i)).rk/\jr (bW (ix g.e i)).rk<=2880:=by refine⟨zy (h.ed i hi).nn.rk,?_⟩;have h1:=VO (h.ed i hi).rk;have h2:((dH (bW (ix g.e i)).rk:Nat):Rat)<=((48:Nat):Rat):=br.mpr (h.er i hi).1;grind
def kL.lay(h:kL g){i:Nat}(hi:i<g.e.length):Ak (bW (ix g.e i))/\InE (kE g.e i) (bW (ix g.e i)):=A8 ((DK h.z).e i hi)
def kL.apP(h:kL g)(hx:∀i,i<g.e.length->0<=x i){i:Nat}(hi:i<g.e.length):aB (kE g.e i) (λc=>gq (aZ g) x (i,c))<=2880:=by obtain⟨h1,h2⟩:=h.lay hi;have e:(λc=>gq (aZ g) x (i,c))=pO (bW (ix g.e i)) (x i):=rfl;rw[e];exact cI (abE h1 h2 (hx i hi)) (h.tot hi).2
def kL.akI(h:kL g)(hx:∀i,i<g.e.length->0<=x i){l:fC}(hl:l∈(aZ g).eY):0<=gq (aZ g) x l/\gq (aZ g) x l<=2880:=by have hk:=h.KA;have hk:=hk.eY l hl;have h1:l.1<g.e.length:=hk.1;have h2:l.2<kE g.e l.1:=hk.2;clear hk;refine⟨JC (h.nn h1) (hx _ h1) _,?_⟩;have h3:=Dw (f:=λc=>gq (aZ g) x (l.1,c)) (k:=l.2) (n:=kE g.e l.1) h2 λc _=>JC (h.nn h1) (hx _ h1) c;exact cI h3 (h.apP hx h1)
def kL.aa8(h:kL g){d:Rat×List fC}(hd:d∈(aZ g).ds):pV 60 60 d.1/\d.2.length<=4/\∀l∈d.2,l∈(aZ g).eY:=by
 have hd':=hd;obtain⟨D,hD,rfl⟩:=cC.mp hd';obtain⟨j,hj,ej⟩:=aM hD;have e0:D=ix g.d j:=by grind[dV]
 subst e0;obtain⟨h1,-,h2⟩:=h.d j hj;exact⟨h2,by grind,λl hl=>bB.mpr ⟨_,hd,hl⟩⟩
def kL.awR(h:kL g)(hx:∀i,i<g.e.length->0<=x i)(j:Nat):gG g.e.length (aZ g) x j<=90000:=by
 have h1:aB g.e.length (λi=>aB ((aZ g).k i) λc=>if wI (aZ g) j i c then gq (aZ g) x (i,c)else 0)<=(g.e.length:Rat)*2880:=by
  have key:∀n,n<=g.e.length->aB n (λi=>aB ((aZ g).k i) λc=>if wI (aZ g) j i c then gq (aZ g) x (i,c)else 0)<=(n:Rat)*2880:=λn=>by
   induction n with
   |zero=>intro _;show(0:Rat)<=((0:Nat):Rat)*2880;simp
   |succ n ih=>
    intro hn
    have a:=ih jb
    have b:=h.apP hx (i:=n) jb
    have c:aB ((aZ g).k n) (λc=>if wI (aZ g) j n c then gq (aZ g) x (n,c)else 0)<=aB (kE g.e n) (λc=>gq (aZ g) x (n,c)):=kN λc _=>by have:0<=gq (aZ g) x (n,c):=JC (h.nn (by omega:n<g.e.length)) (hx _ jb) c;grind
    have e:((n+1:Nat):Rat)=(n:Rat)+1:=gc _ _
    grind[aB]
  grind
 have h2:aI (aZ g).ds (dG (aZ g) x j)<=((3:Nat):Rat)*11580:=rO jj (λd hd=>by obtain⟨a1,a2,a3⟩:=h.aa8 hd;have b1:=adL (W:=d.1) (q:=gq (aZ g) x) (j:=j) d.2 0 λl hl=>(h.akI hx (a3 l hl)).1;have b2:=rO (f:=gq (aZ g) x) (v:=2880) jj (l:=d.2) (k:=4) (λl hl=>(h.akI hx (a3 l hl)).2) a2;grind[acG,dG]) (by show(g.d.map _).length<=3;rw[cV];exact h.d3)
 have h3:((g.e.length:Nat):Rat)<=((8:Nat):Rat):=br.mpr h.n;grind[gG]
def kL.apQ(h:kL g){i:Nat}(hi:i<g.e.length)(y:Rat):opn (bW (ix g.e i)) y<=16:=by obtain⟨-,h1,h2,h3⟩:=h.er i hi;have a:=aoz (bW (ix g.e i)) y;have b:=adM (e:=bW (ix g.e i)) (x:=y) λp hp=>(h3 p hp).2;omega
def awS{n:Nat}{e:fA}(h:ED 60 60 n e)(hb:EB n e)(hB:0<B)(h6:60∣B){y s:Rat}(hy:dX B y)(h0:0<=y)(hs:Iz e y=some s):∃u v:Rat,s=u/v/\0<u/\dX (B*BM 60 e y) u/\0<v/\dX (BM 60 e y) v/\v<=1000/\y+s<=jr e.rk:=by
 have hE:=IL jj h h0;have hp:=cw hB hE;have hp1:=cw hB (rM jj h.rk.D h0);unfold Iz at hs;split at hs
 .next g hg=>
  cases hs;have ht:=VN h.nn.rk hg;have hl:=(wH e y e.ps g).1;rcases AU e y e.ps g with e1|⟨p,hpp,d,h1,h2,h3⟩
  .rw[e1];exact⟨g,1,by grind,yJ hg,(YP hB h6 h.rk.D hy hg).dvd (aR _ _) hp,jj,⟨BM 60 e y,by have:=iI hE;have e2:(((BM 60 e y:Nat):Int):Rat)=((BM 60 e y:Nat):Rat):=rfl;grind⟩,jj,ht⟩
  .refine⟨d,_,h3,yJ h1,(YP hp1 (bO h6 (aR _ _)) (h.ps p hpp).D (X8 jj hB h6 h hy h0 p) h1).dvd ?_ hp,h2,(ac7 jj h h0 p).dvd (aR _ _) hE,Px h.uq hb h0 hpp,by grind⟩;exact cF _ (aR _ _)
 grind
def ChS(B b:Nat)(e:fA)(y:Rat):Prop:=∃B' k,B∣B'/\0<B'/\B'<=2^(b+61*k)/\k+opn e y<=16/\dX B' y/\0<=y/\y<=100000
def ChS.next(h:kL g){i:Nat}(hi:i<g.e.length)(h6:60∣B){y s:Rat}(hy:ChS B b (bW (ix g.e i)) y)(hs:Iz (bW (ix g.e i)) y=some s):ChS B b (bW (ix g.e i)) (y+s):=by obtain⟨B',k,h1,h2,h3,h4,h5,h7,h8⟩:=hy;obtain⟨u,v,rfl,u0,uD,v0,vD,v1,ht⟩:=awS (h.ed i hi) (h.eb i hi) h2 (bO h6 h1) h5 h7 hs;obtain⟨p1,p2⟩:=h.cur hi h7;obtain⟨w,w0,w1,wD⟩:=VP (K:=1000) h2 p1 uD vD v0 v1;have hop:=AV (h.nn hi) h7 hs;have hd:=div_pos u0 v0;have ht2:=(h.tot hi).2;have hw:w<=2^61:=az w1 (az (cA _ p2) jj);refine⟨B'*w,k+1,bO h1 (aR _ _),cw h2 w0,?_,jb,(h5.dvd (aR _ _) (cw h2 w0)).add wD,by grind,by grind⟩;have:=oI h3 hw;omega
def Gy{b:Nat}{D:Nat}{v:Rat}(hD:0<D)(hb:D<=2^b)(h:dX D v)(h0: -100000<=v)(h1:v<=100000):lN (b+17) v:=by have e:((100000:Nat):Rat)=100000:=rfl;exact VD (K:=100000) hD hb h jj jb jb
def ChS.ok(h:kL g){i:Nat}(hi:i<g.e.length)(h6:60∣B)(hb:b<=190000000){y:Rat}(hy:ChS B b (bW (ix g.e i)) y):∃D,BJ D/\EOk D (kE g.e i) (bW (ix g.e i))/\MOk D (bW (ix g.e i)) y/\ROk D (bW (ix g.e i)) y/\SOk (bW (ix g.e i)) y:=by
 obtain⟨B',k,h1,h2,h3,h4,h5,h7,h8⟩:=hy;obtain⟨p1,p2⟩:=h.cur hi h7;have h6':=bO h6 h1;have hpos:=cw h2 p1;have hle:=oI h3 p2;have hD:BJ (B'*BM 60 (bW (ix g.e i)) y):=abC hpos hle jb;have hv:y<=vQ:=by have a:=OT (k:=100000) jj;grind
 have hE:=h.ed i hi;have hB:=h.eb i hi;have hN:=h.nn hi;have ht:=(h.tot hi).2;obtain⟨-,-,-,hps⟩:=h.er i hi;have hp1:=cw h2 (rM jj hE.rk.D h7);have hdl:B'*wJ 60 (bW (ix g.e i)).rk y∣B'*BM 60 (bW (ix g.e i)) y:=cF _ (aR _ _);refine⟨_,hD,ajb hD (bO h6' (aR _ _)) hE.uq hB,ajc jj h2 h6' hD (ii _) hE.uq hB h5 h7 hv,ajd jj h2 h6' hD (ii _) hE.uq hB h5 h7 hv,λs hs=>?_,λp hp s hs=>?_⟩
 .have a:=VN hN.rk hs;have c:=yJ hs;exact(Gy h2 h3 (YP h2 h6' hE.rk.D h5 hs) kd kd).sz jb
 .have a:=VN (hN.ps p hp) hs;have c:=yJ hs;have d0:=mY hN h7 p;have t1:=VO (hE.ps p hp);have t2:((dH p.2:Nat):Rat)<=((28:Nat):Rat):=br.mpr (hps p hp).1;have e28:((28:Nat):Rat)=28:=rfl;have gD:=(YP hp1 (bO h6' (aR _ _)) (hE.ps p hp).D (X8 jj h2 h6' hE h5 h7 p) hs).dvd hdl hpos;have z1:=Gy hpos hle gD kd kd;have r0:=JB hN h7 p;have r1:=Px hE.uq hB h7 hp;refine⟨z1.sz jb,?_⟩;by_cases e:rY (bW (ix g.e i)) y p=0
  .grind[Sz.zero]
  .exact(z1.div (Gy p1 p2 ((ac7 jj hE h7 p).dvd (aR _ _) p1) kd kd) e).sz jb
def ChS.aj(h:kL g){i:Nat}(hi:i<g.e.length)(h6:60∣B){n:Nat}{z y:Rat}{o:Option Rat}(hN:V3 (bW (ix g.e i)) n z y o)(hy:ChS B b (bW (ix g.e i)) y):∀w,o=some w->ChS B b (bW (ix g.e i)) w:=by
 induction hN with
 |no h=>simp
 |stop hs _=>intro w hw;cases hw;exact hy.next h hi h6 hs
 |go hs _ _ ih=>exact ih (hy.next h hi h6 hs)
def akJ(h:kL g){i:Nat}(hi:i<g.e.length)(hx:0<=x i):V3 (bW (ix g.e i)) (kE g.e i) (x i) (x i) (nxE (bW (ix g.e i)) (kE g.e i) (x i))/\Gt (bW (ix g.e i)) (kE g.e i) (x i) (mJ g x i):=by obtain⟨o,ho⟩:=aiM (bW (ix g.e i)) (kE g.e i) (h.nn hi) (x i) _ (x i) hx jp;have e:=akG ho;refine⟨by grind,?_⟩;unfold mJ;rw[e];exact(acM (h.nn hi) ho hx λ_ _=>rfl).d3
end
def akK{r:Nat}{l:List Rat}(h:∀v∈l,lN r v)(hr:r<=200000000):Sz (gq0 (Ag l)):=by
 rcases VK l with⟨-,e⟩|⟨m,e,hm,-⟩
 .rw[e];exact Sz.zero
 .rw[e];exact(h m hm).sz hr
section
variable {g:fP} {B b q:Nat} {x d:Nat→Rat}
def kL.ch0(h:kL g)(hB0:0<B)(hb:B<=2^b)(hx:∀i,i<g.e.length->SmB B (x i)){i:Nat}(hi:i<g.e.length):ChS B b (bW (ix g.e i)) (x i):=
 ⟨B,0,ii _,hB0,jb,by have:=h.apQ hi (x i);omega,(hx i hi).1,(hx i hi).2.1,(hx i hi).2.2⟩
def kL.ny(h:kL g)(hB0:0<B)(h6:60∣B)(hb:B<=2^b)(hx:∀i,i<g.e.length->SmB B (x i))(hdz:Fb g.e.length q d){i:Nat}(hi:i<g.e.length)(hp:0<d i){y:Rat}(hy:nxE (bW (ix g.e i)) (kE g.e i) (x i)=some y):
  lN (b+993) y/\lN (b+993) (y-x i)/\af9 B (b+1000+2*q) (b+2000+2*q) ((y-x i)/d i):=by
 obtain⟨h1,-⟩:=akJ h hi (hx i hi).2.1 (x:=x)
 rw[hy]at h1
 have hyx:=((acM (h.nn hi) h1 (hx i hi).2.1 λ_ _=>rfl).yes y rfl).1
 obtain⟨B',k,c1,c2,c3,c4,c5,c6,c7⟩:=ChS.aj h hi h6 h1 (h.ch0 hB0 hb hx hi) y rfl
 obtain⟨xD,x0,x1⟩:=hx i hi
 have c3:B'<=2^(b+976):=az c3 (yO jb)
 have hD:=c5.sub (xD.dvd c1 c2)
 have z1:=Gy c2 c3 c5 (by clear c3;grind) c7
 have z2:=Gy c2 c3 hD (by clear c3;grind) (by clear c3;grind)
 have z3:=hdz.rat hi
 refine⟨z1,z2,(z2.div z3 (by clear c3;grind)).mono jb,?_⟩
 obtain⟨Q,q1,q2,q3⟩:=hdz
 obtain⟨z,ez,-⟩:=q3 i hi
 obtain⟨w,w0,w1,wD⟩:=VP (K:=2^q) c2 q1 (hD.dvd (aR _ _) (cw c2 q1)) ⟨z,ez⟩ hp z3.le
 refine⟨B'*w,bO c1 (aR _ _),cw c2 w0,?_,wD⟩
 have:=oI c3 (az w1 (oI jp q2))
 exact az this (yO jb)
def kL.c_e(h:kL g)(hB0:0<B)(h6:60∣B)(hb:B<=2^b)(hx:∀i,i<g.e.length->SmB B (x i))(hdz:Fb g.e.length q d){i:Nat}(hi:i<=g.e.length):∀v∈Bg (mJ g x) d i,af9 B (b+1000+2*q) (b+2000+2*q) v:=λv hv=>by
 obtain⟨k,h1,h2,y,h3,rfl⟩:=(xY i).mp hv;unfold mJ at h3;cases ho:nxE (bW (ix g.e k)) (kE g.e k) (x k)with
 |none=>grind
 |some w=>
  rw[ho]at h3
  cases h3
  exact(h.ny hB0 h6 hb hx hdz jb h2 ho).2.2
def kL.ds(h:kL g){j:Nat}(hj:j<g.d.length):(dW g j,dL g j)∈(aZ g).ds:=by rw[<-O8 hj];grind[gI,xX]
def kL.c_d(h:kL g)(hB0:0<B)(h6:60∣B)(hb:B<=2^b)(hx:∀i,i<g.e.length->SmB B (x i))(hd:∀i,i<g.e.length->0<=d i)(hdz:Fb g.e.length q d){j:Nat}(hj:j<g.d.length)(k:Nat):
  lN (b+425) (dW g j-aI ((dL g j).take k) (gq (aZ g) x))/\lN (430+2*q) (aI ((dL g j).take k) (gr (aZ g) x d))/\(0<aI ((dL g j).take k) (gr (aZ g) x d)->af9 B (b+1000+2*q) (b+2000+2*q) ((dW g j-aI ((dL g j).take k) (gq (aZ g) x))/aI ((dL g j).take k) (gr (aZ g) x d))):=by
 have hx0:∀i,i<g.e.length->0<=x i:=λi hi=>(hx i hi).2.1
 obtain⟨p1,p2⟩:=h.gE hx0
 have heB:=Y2
 obtain⟨w1,w2,w3⟩:=h.aa8 (h.ds hj)
 have hl:∀l∈(dL g j).take k,l∈(aZ g).eY:=λl hl=>w3 l (ec hl)
 have hk:((dL g j).take k).length<=4:=by grind
 generalize (dL g j).take k=t at hl hk
 have hln:∀l∈t,l.1<g.e.length:=λl hlt=>(h.KA.eY l (hl l hlt)).1
 have hBE:=cw hB0 p1
 have awT:=oI hb p2
 have w1:pV 60 60 (dW g j):=w1
 have nD:dX (B*Xe.gE g x) (dW g j-aI t (gq (aZ g) x)):=by refine(w1.1.dvd (bO h6 (aR _ _)) hBE).sub (dX.sum λl hlt=>?_);have hi:=hln l hlt;exact(ai5 jj hB0 h6 (h.ed l.1 hi) (hx l.1 hi).1 (hx l.1 hi).2.1 l.2).dvd (cF _ (PG x hi)) hBE
 have q0:0<=aI t (gq (aZ g) x):=ng λl hlt=>(h.akI hx0 (hl l hlt)).1
 have q1:=rO (f:=gq (aZ g) x) (v:=2880) jj (l:=t) (k:=4) (λl hlt=>(h.akI hx0 (hl l hlt)).2) hk
 have e4:((4:Nat):Rat)=4:=rfl
 have w2:=w1.2
 have zn:=Gy hBE awT nD kd kd
 have hdr:=λi (hi:i<g.e.length)=>hdz.rat hi
 obtain⟨Q,a1,a2,a3⟩:=hdz
 have hEQ:=cw p1 a1
 have apR:=oI p2 a2
 have dD:dX (Xe.gE g x*Q) (aI t (gr (aZ g) x d)):=dX.sum λl hlt=>by have hi:=hln l hlt;obtain⟨z,ez,-⟩:=a3 l.1 hi;exact dX.mul p1 a1 (h.slD hx0 hi l.2) ⟨z,ez⟩
 have hN:(0:Rat)<=((2^q:Nat):Rat):=br.mpr (bz _)
 have hgr:∀l∈t,0<=gr (aZ g) x d l/\gr (aZ g) x d l<=1000001*((2^q:Nat):Rat):=λl hlt=>by have hi:=hln l hlt;have s1:=qY (h.nn hi) (hx0 _ hi) l.2;have s2:=Vu (h.ed l.1 hi).uq (h.eb l.1 hi) (hx0 _ hi) l.2;have s3:=hd l.1 hi;have s4:=(hdr l.1 hi).le;refine⟨cj s1 s3,?_⟩;have s5:=bo s2 s3;have s6:=cN s4 (show(0:Rat)<=1000001 by decide);show xQ (bW (ix g.e l.1)) (x l.1) l.2*d l.1<=_;grind
 have r0:0<=aI t (gr (aZ g) x d):=ng λl hlt=>(hgr l hlt).1
 have r1:=rO (f:=gr (aZ g) x d) (v:=1000001*((2^q:Nat):Rat)) (cj jj hN) (l:=t) (k:=4) (λl hlt=>(hgr l hlt).2) hk
 have hK:((4000004*2^q:Nat):Rat)=((4:Nat):Rat)*(1000001*((2^q:Nat):Rat)):=by rw[fa,e4];have:((4000004:Nat):Rat)=4000004:=rfl;rw[this];grind
 rw[<-hK]at r1
 have hK2:4000004*2^q<=2^(22+q):=by rw[dE];exact bw _ jj
 have zd:=(VD hEQ apR dD hK2 (by have:(0:Rat)<=((4000004*2^q:Nat):Rat):=br.mpr (bz _);grind) r1)
 have zd:lN (430+2*q) (aI t (gr (aZ g) x d)):=zd.mono jb
 refine⟨zn.mono jb,zd,λhpos=>⟨(zn.div zd kd).mono jb,?_⟩⟩
 obtain⟨w,v0,v1,vD⟩:=VP hB0 hEQ (nD.dvd (cF _ (aR _ _)) (cw hB0 hEQ)) dD hpos r1
 refine⟨B*w,aR _ _,cw hB0 v0,?_,vD⟩
 have:=oI hb (az v1 (oI hK2 apR))
 exact az this (yO jb)
def kL.c_p(h:kL g)(hB0:0<B)(h6:60∣B)(hb:B<=2^b)(hx:∀i,i<g.e.length->SmB B (x i))(hd:∀i,i<g.e.length->0<=d i)(hdz:Fb g.e.length q d){D:Rat×List fC}(hD:D∈(aZ g).ds){k:Nat}:∀v∈qp D.1 (gq (aZ g) x) (gr (aZ g) x d) 0 0 (D.2.take k),af9 B (b+1000+2*q) (b+2000+2*q) v:=λv hv=>by
 obtain⟨j,hj,ej⟩:=aM hD;have hj2:j<g.d.length:=by grind[xX]
 have e0:D=(dW g j,dL g j):=by rw[<-ej,<-O8 hj2];grind[dV]
 subst e0;obtain⟨k',h1,h2,h3⟩:=adN _ _ _ v hv;rw[ga]at h2 h3;rw[ga,List.take_take]at h2;rw[List.take_take]at h3;rw[h2];exact(h.c_d hB0 h6 hb hx hd hdz hj2 _).2.2 h3
def kL.nr(h:kL g)(hB0:0<B)(h6:60∣B)(hb:B<=2^b)(hb2:b<=190000000)(hx:∀i,i<g.e.length->SmB B (x i))(hd:∀i,i<g.e.length->0<=d i)(hdz:Fb g.e.length q d)(hq:q<=1000000):
  NrN (B*Xe.gE g x) g x d/\∀v∈jX g.e.length (aZ g) (mJ g x) x d,af9 B (b+1000+2*q) (b+2000+2*q) v:=by
 have hx0:∀i,i<g.e.length->0<=x i:=λi hi=>(hx i hi).2.1
 obtain⟨p1,p2⟩:=h.gE hx0
 have heB:=Y2
 have hall:∀v∈jX g.e.length (aZ g) (mJ g x) x d,af9 B (b+1000+2*q) (b+2000+2*q) v:=λv hv=>by
  rcases bP.mp hv with hv|hv
  .exact h.c_e hB0 h6 hb hx hdz jp v hv
  .obtain⟨D,hD,hv⟩:=bB.mp hv;rw[<-bR (l:=D.2)]at hv;exact h.c_p hB0 h6 hb hx hd hdz hD v hv
 refine⟨⟨h.mg hB0 h6 hb jb hx,λi hi=>⟨h.nn hi,hx0 i hi⟩,λi hi=>(hdz.rat hi).sz jb,λi hi _=>⟨ChS B b (bW (ix g.e i)),h.ch0 hB0 hb hx hi,λm hm=>ChS.ok h hi h6 hb2 hm,λm t hm ht=>hm.next h hi h6 ht⟩,λi hi hp y hy=>?_,λi hi=>?_,λj hj k hk=>?_,λj hj l hl=>?_⟩,hall⟩
 .obtain⟨z1,z2,z3⟩:=h.ny hB0 h6 hb hx hdz hi hp hy
  exact⟨z1.sz jb,z2.sz jb,z3.1.sz jb⟩
 .exact akK (λv hv=>(h.c_e hB0 h6 hb hx hdz hi v hv).1) jb
 .obtain⟨z1,z2,z3⟩:=h.c_d hB0 h6 hb hx hd hdz hj k
  refine⟨akK (r:=b+2000+2*q) (λv hv=>?_) jb,z1.sz jb,z2.sz jb,?_⟩
  .rcases bP.mp hv with hv|hv
   .rcases bP.mp hv with hv|hv
    .exact(h.c_e hB0 h6 hb hx hdz jp v hv).1
    .obtain⟨D,hD,hv⟩:=bB.mp hv
     rw[<-bR (l:=D.2)]at hv
     exact(h.c_p hB0 h6 hb hx hd hdz (ec hD) v hv).1
   .exact(h.c_p hB0 h6 hb hx hd hdz (h.ds hj) (k:=k) v hv).1
  .by_cases e:aI ((dL g j).take k) (gr (aZ g) x d)=0
   .grind[Sz.zero]
   .exact(z1.div z2 e).sz jb
 .obtain⟨-,-,w3⟩:=h.aa8 (h.ds hj)
  have hle:=w3 l hl
  have hi:=(h.KA.eY l hle).1
  have s1:=qY (h.nn hi) (hx0 _ hi) l.2
  have s2:=Vu (h.ed l.1 hi).uq (h.eb l.1 hi) (hx0 _ hi) l.2
  obtain⟨q0,q1⟩:=h.akI hx0 hle
  have e1:((1000001:Nat):Rat)=1000001:=rfl
  have zs:lN (eB+20) (xQ (bW (ix g.e l.1)) (x l.1) l.2):=VD (K:=1000001) p1 p2 (h.slD hx0 hi l.2) jj kd jb
  refine⟨?_,?_,?_⟩
  .have hBE:=cw hB0 p1
   exact(Gy hBE (oI hb p2) ((ai5 jj hB0 h6 (h.ed l.1 hi) (hx l.1 hi).1 (hx l.1 hi).2.1 l.2).dvd (cF _ (PG x hi)) hBE) (by have:0<=pO (bW (ix g.e l.1)) (x l.1) l.2:=q0;grind) (by have:pO (bW (ix g.e l.1)) (x l.1) l.2<=2880:=q1;grind)).sz jb
  .unfold gs
   rw[ab rfl]
   exact zs.sz jb
  .exact(zs.mul (hdz.rat hi)).sz jb
end
def iv(s:Bool)(u:Nat):Int:=if s=true then-(u:Int)else(u:Int)
theorem zG(s:Bool)(u:Nat):(iv s u).natAbs=u:=by cases s<;>simp[iv]
def akL(s:Bool){u:Nat}:iv s u=0↔u=0:=by cases s<;>simp[iv]
def akM(s t:Bool)(u v:Nat):iv (false==(s==t)) (u*v)=iv s u*iv t v:=by cases s<;>cases t<;>simp[iv]<;>grind
def aoA{s t:Bool}(h:s≠t)(u v:Nat):iv s (u+v)=iv s u-iv t v:=by cases s<;>cases t<;>simp_all [iv]<;>omega
def adO(s:Bool){u v:Nat}(h:v<=u):iv s (u-v)=iv s u-iv s v:=by cases s<;>simp[iv]<;>omega
def aoB(s:Bool){u v:Nat}(h:¬v<=u):iv (!s) (v-u)=iv s u-iv s v:=by cases s<;>simp[iv]<;>omega
def att{s t:Bool}{u v:Nat}{q:Int}(h:iv s u=q*iv t v)(hv:v≠0):iv (false==(s==t)) (u/v)=q:=by
 have ha:u=q.natAbs*v:=by have:=cf Int.natAbs h;rwa[zG,fm,zG]at this
 have hq:u/v=q.natAbs:=by rw[ha];exact Nat.mul_div_cancel _ jb
 rw[hq];have h2:iv (false==(s==t)) q.natAbs*(v:Int)=q*(v:Int):=by
  have e:(u:Int)=(q.natAbs:Int)*(v:Int):=by rw[ha,eC]
  cases s<;>cases t<;>simp[iv]at h⊢ <;>grind
 exact Int.eq_of_mul_eq_mul_right jb h2
def kvS(F:Nat->Nat->Rat)(P:List Nat)(f:Nat):Nat->Nat->Rat
 |0,k=>if k=f then 1 else 0
 |r+1,k=>if k=at0 P r then-F r f else kvS F P f r k
def kvF(F:Nat->Nat->Rat)(P:List Nat)(f:Nat):Nat->Rat:=kvS F P f P.length
def abG{F:Nat->Nat->Rat}{P:List Nat}{f k:Nat}:∀r,(∀a,a<r->k≠at0 P a)->kvS F P f r k=if k=f then 1 else 0
 |0,_=>rfl
 |r+1,h=>by unfold kvS;rw[ae (h r jb)];exact abG r λa ha=>h a jb
def akN{F:Nat->Nat->Rat}{P:List Nat}{f:Nat}(hlt:∀a b,b<a->a<P.length->at0 P b<at0 P a){a:Nat}:∀r,r<=P.length->a<r->kvS F P f r (at0 P a)=-F a f
 |0,_,h=>jb
 |r+1,hr,ha=>by
  unfold kvS;by_cases e:a=r
  .subst e;rw[ab rfl]
  .have:=hlt r a jb jb;rw[ae jb];exact akN hlt r jb jb
def awU{F:Nat->Nat->Rat}{P:List Nat}{f:Nat}(hlt:∀a b,b<a->a<P.length->at0 P b<at0 P a)(hf:f∉P):kvF F P f f=1/\(∀a,a<P.length->kvF F P f (at0 P a)=-F a f)/\∀k,k∉P->k≠f->kvF F P f k=0:=by
 refine⟨?_,λa ha=>akN hlt _ jp ha,λk hk hne=>?_⟩
 .have:=abG (F:=F) (P:=P) (f:=f) (k:=f) P.length λa ha e=>hf (by grind[jc]);rwa[ab rfl]at this
 .have:=abG (F:=F) (P:=P) (f:=f) (k:=k) P.length λa ha e=>hk (by grind[jc]);rwa[ae hne]at this
section
variable {n:Nat} {M:Nat→Nat→Rat} {l:List Nat}
def sub_one(M:Nat->Nat->Rat)(l:List Nat)(a b:Nat):nU M l a b=1*(vP M l a b-if a=b then 1 else 0):=by unfold nU;grind
def akO(hl:I8 n M l):∃f,f<l.length/\f∉(ech l.length (nU M l) l.length).2:=
 aob (JW _ _ _ _) (afT hl.nodup hl.lt hl.aok hl.ne hl.col _ 1 λa b _ _=>sub_one M l a b)
def aoC(hM:KI n M)(hl:I8 n M l){f:Nat}(hf:f<l.length)(hfP:f∉(ech l.length (nU M l) l.length).2):
  (∀j,j<n->pW l (kvF (ech l.length (nU M l) l.length).1 (ech l.length (nU M l) l.length).2 f) j=mv n M (pW l (kvF (ech l.length (nU M l) l.length).1 (ech l.length (nU M l) l.length).2 f)) j)/\∀i∈l,0<pW l (kvF (ech l.length (nU M l) l.length).1 (ech l.length (nU M l) l.length).2 f) i:=by
 have hE:=JW l.length l.length (nU M l) l.length
 obtain⟨k1,k2,k3⟩:=awU (F:=(ech l.length (nU M l) l.length).1) hE.lt hfP
 have hs:=aoa hE hf hfP k1 k2 λk _ h1 h2=>k3 k h1 h2
 exact afS hM hl.nodup hl.lt hl.aok hl.min hf k1 (afU (s:=1) jj (λa b _ _=>sub_one M l a b) hs)
def ay8{m a:Nat}{F:Nat->Nat->Rat}{P:List Nat}{f:Nat}(hP:P.length<=m)(hf:f<m)(h:DU m m a F)(hl:l.length=m):Fb n a (pW l (kvF F P f)):=by
 obtain⟨Q,h1,h2,h3⟩:=h;have key:∀r,r<=P.length->∀k,∃z:Int,kvS F P f r k=(z:Rat)/(Q:Rat)/\z.natAbs<=2^a:=λr=>by
  induction r with
  |zero=>
   intro _ k
   unfold kvS
   split
   .refine⟨Q,?_,jb⟩
    have:=iI h1
    have e:(((Q:Nat):Int):Rat)=(Q:Rat):=rfl
    grind
   .exact⟨0,by grind,bz _⟩
  |succ r ih=>
   intro hr k
   unfold kvS
   split
   .obtain⟨z,e,hz⟩:=h3 r f jb hf
    exact⟨-z,by grind,jb⟩
   .exact ih jb k
 refine⟨Q,h1,h2,λi _=>?_⟩;unfold pW;split
 .exact key _ jp _
 .exact⟨0,by grind,bz _⟩
def aga(hM:KI n M)(hn:l.Nodup)(hl:∀i∈l,i<n)(hc:Vw n M l)(hno:∀S:Nat->Prop,(∃i,i<n/\S i)->(∀i,i<n->S i->i∈l)->¬Ins.Shut n M S)
  {B:Nat->Nat->Rat}{s:Nat->Rat}(hs:∀i,i<l.length->s i≠0) (hB:∀i j,i<l.length->j<l.length->B i j=s i*nU M l i j) (z:Nat->Rat) (hz:∀i,i<l.length->aB l.length (λj=>B i j*z j)=0):∀j,j<l.length->z j=0:=by
 refine ake hM hn hl hc hno λa ha=>?_
 have h:=hz a ha
 have e:aB l.length (λj=>B a j*z j)=s a*aB l.length (λj=>vP M l a j*z j-if j=a then z a else 0):=by rw[<-gQ];grind[Go.Proofs.Ins.aK,Go.Proofs.Xe.nU]
 rw[e,iH,jw ha]at h
 grind
def akP{B:Nat->Nat->Rat}{s v c:Nat->Rat}(hs:∀i,i<l.length->s i≠0)(hB:∀i j,i<l.length->j<l.length->B i j=s i*nU M l i j)(hBn:∀i,i<l.length->B i l.length=s i* -(c (at0 l i)))(hv:∀i,i<l.length->aB l.length (λj=>B i j*v j)=B i l.length):
  ∀a,a<l.length->v a=aB l.length (λb=>vP M l a b*v b)+c (at0 l a):=by
 intro a ha
 have h:=hv a ha
 have e:aB l.length (λj=>B a j*v j)=s a*aB l.length (λj=>vP M l a j*v j-if j=a then v a else 0):=by rw[<-gQ];grind[Go.Proofs.Ins.aK,Go.Proofs.Xe.nU]
 rw[e,hBn a ha,iH,jw ha]at h
 grind
def KT(n a:Nat)(W:Nat->Nat->Rat):Prop:=∀i j,i<n->j<=n->∃z:Int,W i j=(z:Rat)/\z.natAbs<=2^a
def KT.step{a k:Nat}{W:Nat->Nat->Rat}{p:Rat}(h:KT n a W)(hk:k<n)(hp:FP p)(p0:p≠0)(hi:∀i j,i<n->j<=n->FP (JY W k p i j)):KT n (2*a+1) (JY W k p):=λi j hin hj=>by
 obtain⟨z,ez⟩:=hi i j hin hj;refine⟨z,ez,?_⟩;have e2:(2:Nat)^(2*a+1)=2^a*2^a+2^a*2^a:=by rw[dq,Nat.two_mul a,dE];omega
 have h1:1<=2^a:=gR;have h2:2^a<=2^a*2^a:=fS _ h1;unfold JY at ez;by_cases e:i=k
 .rw[ab e]at ez;obtain⟨y,ey,hy⟩:=h k j hk hj;rw[ey]at ez;have:=fe.mp ez;omega
 .rw[ae e]at ez;obtain⟨q,rfl⟩:=hp;obtain⟨y1,e1,hy1⟩:=h k k hk jb;obtain⟨y2,e3,hy2⟩:=h i j hin hj;obtain⟨y3,e4,hy3⟩:=h i k hin jb;obtain⟨y4,e5,hy4⟩:=h k j hk hj;rw[e1,e3,e4,e5]at ez;have e6:((y1*y2-y3*y4:Int):Rat)=((z*q:Int):Rat):=by grind
  have e7:=fe.mp e6;have hq:1<=q.natAbs:=by have:q≠0:=λe=>p0 (by simp_all);omega
  have k1:=cG hy1 hy2;have k2:=cG hy3 hy4;have k3:(z*q).natAbs<=(y1*y2).natAbs+(y3*y4).natAbs:=jb;rw[fm,fm,fm]at k3;have k4:z.natAbs<=z.natAbs*q.natAbs:=fS _ hq;omega
def awV{m a:Nat}{W:Nat->Nat->Rat}{p:Rat}(h:KT m a W)(hd:∀i,i<m->W i i=p)(p0:p≠0)(hm:0<m)(hl:l.length=m)(hnd:l.Nodup):Fb n a (pW l λi=>W i m/W i i):=by
 obtain⟨q,eq,hq⟩:=h 0 0 hm jb;rw[hd 0 hm]at eq;have hq0:q≠0:=λe=>p0 (by simp_all);obtain⟨s,hs,es⟩:=Vz q;have hss:=aby hs;refine⟨q.natAbs,jb,hq,λi _=>?_⟩;by_cases hi:i∈l
 .obtain⟨k,hk,rfl⟩:=EH hi;rw[EI hnd _ hk];obtain⟨z,ez,hz⟩:=h k m jb jp;refine⟨s*z,?_,?_⟩
  .grind
  grind
 .rw[uy hi];exact⟨0,by grind,bz _⟩
def Bar.diag{W B:Nat->Nat->Rat}{p:Rat}(h:Bar n n B W p):∀i,i<n->W i i=p:=by obtain⟨X,-,h2,h3,-⟩:=h.ex;grind
end
def iT(g:fP)(i:Nat):Rat:=(ix g.e i).m.q
def meas(g:fP)(x:Nat->Rat)(t:Rat):Nat:=mu g.e.length (aZ g) x+if t=1 then 0 else 1
def sD(g:fP)(x:Nat->Rat)(t:Rat):Prop:=∃B b,60∣B/\0<B/\B<=2^b/\b+400000*meas g x t<=180000000/\(∀i,i<g.e.length->SmB B (x i))/\dX B t
theorem adP{W:Rat}{q:fC->Rat}:∀(t:List fC) (Q:Rat),AY W q Q t<=t.length
 |[],_=>jp
 |l::t,Q=>by have:=adP (W:=W) (q:=q) t (Q+q l);unfold AY;rw[bX];split<;>omega
def adQ{g:GL}{q:fC->Rat}{k:Nat}:∀{l:List (Rat×List fC)},(∀d∈l,d.2.length<=k)->Qq g q l<=l.length*k
 |[],_=>bz _
 |d::l,h=>by have h1:=adQ (g:=g) (q:=q) (l:=l) λe he=>h e (by simp[he]);have h2:=h d kc;grind[adP,Qq,Nat.succ_mul]
def Zb{f:Nat->Nat}{k:Nat}:∀n,(∀i,i<n->f i<=k)->zC n f<=n*k
 |0,_=>bz _
 |n+1,h=>by have h1:=Zb n λi hi=>h i jb;grind[zC]
section
variable {g:fP} {x d:Nat→Rat} {t v:Rat} {q:Nat}
def kL.awW(h:kL g)(x:Nat->Rat):mu g.e.length (aZ g) x<=140:=by have h1:=Zb (f:=λi=>opn ((aZ g).e i) (x i)) (k:=16) g.e.length λi hi=>h.apQ hi (x i);have h2:=adQ (g:=aZ g) (q:=gq (aZ g) x) (k:=4) (l:=(aZ g).ds) λd hd=>(h.aa8 hd).2.1;have h3:=h.n;have h4:=h.d3;grind[xX,mu]
def J3(h:kL g):sD g (λ_=>0) 0:=by have:=h.awW λ_=>0;refine⟨60,6,ii _,jj,jj,?_,λi _=>⟨dX.zero _,be,show(0:Rat)<=100000 by decide⟩,dX.zero _⟩;grind[meas]
def kL.awX(h:kL g){least:Bool}(hI:BN h.KA (iT g) least x t){i:Nat}(hi:i<g.e.length):0<=x i/\x i<=100000:=by refine⟨hI.nn i hi,?_⟩;have h1:=hI.fix i hi;have h2:=h.awR hI.nn i;have h3:=(h.m i hi).2.2;have h4:=bo hI.t1 h3.1;have e:(vO h.KA).G x i=gG g.e.length (aZ g) x i:=rfl;grind[iT]
def sD.nr(h:kL g)(hP:sD g x t)(hd:∀i,i<g.e.length->0<=d i)(hdz:Fb g.e.length q d)(hq:q<=120000):∃D,NrN D g x d:=by obtain⟨B,b,h6,h0,hb,hb2,hx,-⟩:=hP;exact⟨_,(h.nr h0 h6 hb jb hx hd hdz jb).1⟩
def sD.aj7(h:kL g)(hP:sD g x t)(hd:∀i,i<g.e.length->0<=d i)(hdz:Fb g.e.length q d)(hq:q<=120000)(hv:v∈jX g.e.length (aZ g) (mJ g x) x d){least:Bool}{t':Rat}(ht:t'=t\/t'=t+v)(hI:BN h.KA (iT g) least (bf x d v) t')(hm:meas g (bf x d v) t'<meas g x t):
  sD g (bf x d v) t'/\Sz v:=by
 obtain⟨B,b,h6,h0,hb,hb2,hx,htD⟩:=hP
 obtain⟨hZ,H,k1,k2,k3,k4⟩:=(h.nr h0 h6 hb jb hx hd hdz jb).2 v hv
 obtain⟨Q,q1,q2,q3⟩:=hdz
 have hBQ:=cw k2 q1
 refine⟨⟨H*Q,b+1000+2*q+q,bO h6 (bO k1 (aR _ _)),hBQ,oI k3 q2,jb,λi hi=>?_,?_⟩,hZ.sz jb⟩
 .obtain⟨z,ez,-⟩:=q3 i hi
  have hf:=h.awX hI hi
  exact⟨((hx i hi).1.dvd (bO k1 (aR _ _)) hBQ).add (dX.mul k2 q1 k4 ⟨z,ez⟩),hf.1,hf.2⟩
 .have e1:=htD.dvd (bO k1 (aR _ Q)) hBQ
  rcases ht with rfl|rfl
  .exact e1
  .exact e1.add (k4.dvd (aR _ _) hBQ)
def sD.last(h:kL g)(hP:sD g x t)(hdz:Fb g.e.length q d)(hq:q<=120000)(ht:t≠1){least:Bool}(hI:BN h.KA (iT g) least (bf x d (1-t)) 1)(hm:mu g.e.length (aZ g) (bf x d (1-t))<=mu g.e.length (aZ g) x):
  sD g (bf x d (1-t)) 1:=by
 obtain⟨B,b,h6,h0,hb,hb2,hx,htD⟩:=hP
 obtain⟨Q,q1,q2,q3⟩:=hdz
 have hBQ:=cw h0 q1
 have hone:dX B (1:Rat):=⟨B,by have:=iI h0;have e:(((B:Nat):Int):Rat)=((B:Nat):Rat):=rfl;grind⟩
 have hlt:meas g (bf x d (1-t)) 1<meas g x t:=by grind[meas]
 refine⟨B*Q,b+q,bO h6 (aR _ _),hBQ,oI hb q2,jb,λi hi=>?_,hone.dvd (aR _ _) hBQ⟩
 obtain⟨z,ez,-⟩:=q3 i hi
 have hf:=h.awX hI hi
 exact⟨((hx i hi).1.dvd (aR _ _) hBQ).add (dX.mul h0 q1 (hone.sub htD) ⟨z,ez⟩),hf.1,hf.2⟩
def sD.sz(hP:sD g x t)(h0:0<=t)(h1:t<=1):(∀i,i<g.e.length->Sz (x i))/\Sz t/\Sz (1-t):=by
 obtain⟨B,b,h6,hB,hb,hb2,hx,htD⟩:=hP;have hone:dX B (1:Rat):=⟨B,by have:=iI hB;have e:(((B:Nat):Int):Rat)=((B:Nat):Rat):=rfl;rw[e];grind⟩
 exact⟨λi hi=>(Gy hB hb (hx i hi).1 (by have:=(hx i hi).2.1;grind) (hx i hi).2.2).sz jb,(Gy hB hb htD kd kd).sz jb,(Gy hB hb (hone.sub htD) kd kd).sz jb⟩
def sD.awY(h:kL g)(hP:sD g x t)(hd:∀i,i<g.e.length->0<=d i)(hdz:Fb g.e.length q d)(hq:q<=120000)(h0:0<=t)(h1:t<=1)(hv:v∈jX g.e.length (aZ g) (mJ g x) x d\/v=1-t):Sz v/\∀i,i<g.e.length->Sz (d i)/\Sz (v*d i):=by
 obtain⟨B,b,h6,hB,hb,hb2,hx,htD⟩:=hP;have hone:dX B (1:Rat):=⟨B,by have:=iI hB;have e:(((B:Nat):Int):Rat)=((B:Nat):Rat):=rfl;grind⟩
 have hZ:lN (b+2000+2*q) v:=by
  rcases hv with hv|rfl
  .exact((h.nr hB h6 hb jb hx hd hdz jb).2 v hv).1
  .exact(Gy hB hb (hone.sub htD) kd kd).mono jb
 exact⟨hZ.sz jb,λi hi=>⟨(hdz.rat hi).sz jb,(hZ.mul (hdz.rat hi)).sz jb⟩⟩
def sD.mg(h:kL g)(hP:sD g x t):∃D,Vq D g x:=by obtain⟨B,b,h6,hB,hb,hb2,hx,-⟩:=hP;exact⟨_,h.mg hB h6 hb jb hx⟩
def sD.map(h:kL g)(hP:sD g x t):∃D,asZ 60 D g x:=by obtain⟨B,b,h6,hB,hb,hb2,hx,-⟩:=hP;exact⟨_,h.map hB h6 hb jb hx⟩
def kL.mz(h:kL g)(hx:∀i,i<g.e.length->0<=x i):(∀j i,j<g.e.length->i<g.e.length->Sz (gM g.e.length (aZ g) x j i))/\(∀i,i<g.e.length->Sz (gM g.e.length (aZ g) x i i-1))/\∀i k,i<g.e.length->k<=g.e.length->Sz (aB k λj=>gM g.e.length (aZ g) x j i):=by
 obtain⟨p1,p2⟩:=h.gE hx;have hone:dX (Xe.gE g x) (1:Rat):=⟨Xe.gE g x,by have:=iI p1;have e:(((Xe.gE g x:Nat):Int):Rat)=((Xe.gE g x:Nat):Rat):=rfl;grind⟩
 refine⟨λj i hj hi=>?_,λi hi=>?_,λi k hi hk=>?_⟩
 .have:=h.m01 hx hj hi;exact(Gy p1 p2 (h.mD hx hi) kd kd).sz jj
 .have:=h.m01 hx hi hi;exact(Gy p1 p2 ((h.mD hx hi).sub hone) kd kd).sz jj
 .have key:∀k,k<=g.e.length->0<=aB k (λj=>gM g.e.length (aZ g) x j i)/\aB k (λj=>gM g.e.length (aZ g) x j i)<=(k:Rat):=λk=>by
   induction k with
   |zero=>intro _;exact⟨be,be⟩
   |succ k ih=>
    intro hk
    have a:=ih jb
    have b:=h.m01 hx (j:=k) jb hi
    have e:((k+1:Nat):Rat)=(k:Rat)+1:=gc _ _
    grind[aB]
  have hk8:((k:Nat):Rat)<=((8:Nat):Rat):=br.mpr (by have:=h.n;omega);have e8:((8:Nat):Rat)=8:=rfl;have:=key k hk;exact(Gy p1 p2 (abu λj _=>h.mD hx hi) kd kd).sz jj
end
structure akQ(D:Nat)(g:fP)(x:Nat->Rat):Prop where
 d:BJ D
 nn:∀i,i<g.e.length->0<=x i
 xz:∀i,i<g.e.length->Zk D 1 (x i)
 gz:∀i,i<g.e.length->∀c,c<kE g.e i->Zk D 1 (grF g x i c)
 vz:∀i,i<g.e.length->∀c,c<kE g.e i->Zk D 1 (L8 g x i c)
 nz:∀i,i<g.e.length->∀c,c<kE g.e i->Zk D 5001 (nT (aZ g) x (i,c))
 sz:∀i,i<g.e.length->Zk D 2 (suF g x i)
 rz:∀i,i<g.e.length->Zk D 9 (rsF g x i)
section
variable {g:fP} {x:Nat→Rat}
def kL.all(h:kL g)(hx:∀i,i<g.e.length->0<=x i){i:Nat}(hi:i<g.e.length):aB (kE g.e i) (L8 g x i)+(suF g x i+rsF g x i)=x i:=by obtain⟨h1,h2⟩:=A8 ((DK h.z).e i hi);exact VH (h.bld.e i hi) h1 h2 (hx i hi)
def sD.ay9(h:kL g)(hP:sD g x 1):∃D,akQ D g x:=by
 obtain⟨B,b,h6,hB,hb,hb2,hx,-⟩:=hP;have hx0:∀i,i<g.e.length->0<=x i:=λi hi=>(hx i hi).2.1;have hM:=h.mg hB h6 hb jb hx;have hD:=h.dok hB hb jb hx0;have hu:=tY;have hxZ:∀i,i<g.e.length->Zk (B*Xe.gE g x) 1 (x i):=λi hi=>nX hD (aR _ _) (hx i hi).1 (hx i hi).2.1 (hx i hi).v;have hq:=hM.A.s.q;have hsZ:∀i,i<g.e.length->Zk (B*Xe.gE g x) 2 (suF g x i):=λi hi=>by obtain⟨s1,s2,s3⟩:=PI (h.cap i hi) (kE g.e i);have hk6:=h.k6 i hi;have h4:((kE g.e i:Nat):Rat)<=((6:Nat):Rat):=br.mpr jb;have e6:((6:Nat):Rat)=6:=rfl;have hv:=OT (k:=1000001) jj;have ev:((1000001:Nat):Rat)=1000001:=rfl;rw[ev]at hv;have hT:Zk (B*Xe.gE g x) 1 (l9 (ix g.e i) (kE g.e i)):=nX hD (bO h6 (aR _ _)) s1 s2 (by unfold l9;grind);unfold suF;rw[Gj];exact((hxZ i hi).sub hT).pq
 refine⟨_,hD,hx0,hxZ,λi hi c hc=>?_,λi hi c hc=>(hq i hi c hc).2,λi hi c hc=>?_,hsZ,λi hi=>?_⟩
 .obtain⟨h1,h2⟩:=A8 ((DK h.z).e i hi);refine nX hD (cF _ (bO (aR _ _) (PG x hi))) (ai4 jj hB h6 (h.ed i hi) (hx i hi).1 (hx i hi).2.1 c) (aaO h1 (hx i hi).2.1 c) ?_;exact cI (adB (h.bld.e i hi) h1 (hx i hi).2.1 hc) (akw (h.cap i hi c))
 .unfold nT;exact((hq i hi c hc).2.sub (hM.A.r i hi c hc)).mono jb
 .have e:rsF g x i=x i-aB (kE g.e i) (L8 g x i)-suF g x i:=by have:=h.all hx0 hi;grind
  rw[e];have hk6:=h.k6 i hi;exact(((hxZ i hi).sub (Zk.zC λc hc=>(hq i hi c hc).2)).sub (hsZ i hi)).mono jb
end
noncomputable def atu(g:fP)(i:Nat):Bool:=decide (0<(ix g.e i).m.q)
set_option maxRecDepth 10000 in
def akR{σ:St}(hW:WF σ){sb:Nat}{g:fP}(hs:E5 (Lt σ.aj) σ.h sb g)(hn:g.e.length<=1000)(hm:∀i,i<g.e.length->(ix g.e i).m.fits 1000000):
  aC EN 66 [.c (.ptr sb 0)] σ λr σ'=>(∃b,r=.c (.sl b 0 g.e.length (.ex g.e.length))/\σ'.h b=some ⟨bls g.e.length (atu g),none⟩/\σ.aj<=b/\b<σ'.aj)/\Fr σ σ':=by
 refine aN (kC.o _ _) kC.h ?_
 unfold kC
 dsimp only
 obtain⟨⟨ev,gv,lv,bv,hsb,hg,⟨R,P,hL1,hL2⟩,hB⟩,hsl⟩:=hs
 have hlk:=hL1.kn
 have hll:=hL1.len
 have hlE:=hg.e.len
 have hek:=hg.e.kn
 have hsl:sb<σ.aj:=hsl
 have hFr:=Fr.refl hW
 simp(disch:=try exact jz) only[go_sem,z3,ak hsb,hll,hlk,hlE,hek]
 refine aF (λq tm σ'=>∃i,q=g.e.length-i/\i<=g.e.length/\Tr.ah tm 3=.c (.sl σ.aj 0 g.e.length (.ex g.e.length))/\Tr.ah tm 16=.c ev/\Tr.ah tm 17=.c (.int .i64 (.ofNat g.e.length))/\Tr.ah tm 18=.c (.int .i64 (.ofNat i))
   /\σ'.h σ.aj=some ⟨ones g.e.length (λk=>.bool (if k<i then atu g k else false)),none⟩/\Fr σ σ'/\σ.aj+1<=σ'.aj) g.e.length ?_ ?_
 .refine⟨0,jb,jb,?_⟩
  simp(disch:=try exact jz) only[go_sem,z3,am]
  exact⟨cf (λl=>some (Bk.mk l none)) (dU λk _=>by rfl),fr,jb⟩
 .rintro q tm σ' ⟨i,rfl,hi,t3,t16,t17,oJ,q3,hf,hnx⟩
  have hle:=hf.le
  have jM:=Fr.refl hf.wf
  simp(disch:=try exact jz) only[go_sem,z3,t3,t16,t17,oJ,aG]
  refine aH (λhlt=>?_) (λhlt=>?_)
  .obtain⟨b5,o5,c5,rfl,C1,A1,bF,-,hC,hA1⟩:=hg.e.at hlt
   have bF:=hf.ld hW bF
   have JJ:=aY.kn hC
   have hAk:=hA1.kn
   have hw:=rF (hm i hlt)
   simp(disch:=try exact jz) only[go_sem,z3,t3,t16,t17,oJ,bF,JJ,hAk,q3,aJ q3]
   refine⟨g.e.length-(i+1),jb,i+1,rfl,jb,rfl,cf (λl=>some (Bk.mk l none)) (dU λk hk=>?_),fr,jb⟩
   unfold aP
   by_cases e:k=i
   .rw[ab e,ab jb,e];rfl
   grind
  .have:i=g.e.length:=jb
   subst this
   simp(disch:=try exact jz) only[go_sem,z3,t3]
   refine⟨⟨_,rfl,?_,jb,jb⟩,hf⟩
   rw[q3]
   exact cf (λl=>some (Bk.mk l none)) (dU λk hk=>by grind)
end Go.Proofs.Xe
