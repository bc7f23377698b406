import Derived.Test.YthkggcakedkboaaGreatDoorY39
set_option linter.all false
set_option maxHeartbeats 8000000
namespace Go.Proofs.Xe
open Go.RowKit Go.Proofs.Ins
def VK{l:fU}:∀{m g:Rat},Kq l->mG l m=some g->m+g<=jw l:=by
 induction l with
 |nil=>intro m g _ h;cases h
 |cons t l ih=>
  intro m g hn h
  have h1:=zy (l:=l) λu hu=>hn u (by simp[hu])
  unfold mG at h
  show m+g<=aV t+jw l
  split at h
  .grind
  .have:=ih (λu hu=>hn u (by simp[hu])) h;grind
def PI{l:fU}:∀{m:Rat},Kq l->ji l m<=jw l:=by
 induction l with
 |nil=>intro m _;rfl
 |cons t l ih=>
  intro m hn
  have h1:=zy (l:=l) λu hu=>hn u (by simp[hu])
  have h2:=ih (m:=m-aV t) λu hu=>hn u (by simp[hu])
  grind[ji,jw]
def aor{l:fU}(h:Kq l){m:Rat}(h0:0<=m):ji l m<=m:=by have h1:=Jt h aR h0;grind[Oo,zy]
def VL{A n:Nat}{U:Rat}:∀{l:fU},xU (λq=>dV A q/\0<=q/\q<=U) n l->jw l<=(dH l:Rat)*U
 |[],_=>by show(0:Rat)<=((0:Nat):Rat)*U;simp
 |t::l,h=>by have h1:=VL (l:=l) λu hu=>h u (by simp[hu]);have h2:=Yl (h t kc);show aV t+jw l<=((t.length+dH l:Nat):Rat)*U;grind
def abv{n:Nat}{e:fC}(hN:AB e)(hI:InE n e){x:Rat}(hx:0<=x):aB n (rX e x)<=jw e.rk:=by
 rw[Lr hN hI hx];have h1:=PI (m:=x) hN.rk;have h2:0<=aI e.ps (λp=>kL e x p-ji p.2 (kL e x p)):=mZ λp hp=>by have:=aor (hN.ps p hp) (mX hN hx p);grind
 have h3:0<=Zd e x:=mZ λp hp=>UQ (hN.ps p hp) _ (mX hN hx p);grind
def adB{W:Rat}{q:fD->Rat}{j:Nat}:∀(t:List fD) (Q:Rat),(∀l∈t,0<=q l)->qj W q Q t j<=aI t q
 |[],_,_=>aR
 |l::t,Q,h=>by
  have h1:=adB t (Q+q l) (W:=W) (j:=j) λu hu=>h u (by simp[hu]);have h2:=h l kc;have h3:oD (Q+q l-W)-oD (Q-W)<=q l:=by unfold oD;split<;>split<;>grind
  show(if l.1=j then _ else 0)+qj W q (Q+q l) t j<=q l+aI t q;split<;>grind
def aot(e:fC)(x:Rat):opn e x<=e.rk.length+Oq e x e.ps:=by unfold opn;omega
def adC{e:fC}{x:Rat}{k:Nat}:∀{l:List (List Nat×fU)},(∀p∈l,p.2.length<=k)->Oq e x l<=l.length*k
 |[],_=>bw _
 |p::l,h=>by have h1:=adC (e:=e) (x:=x) (l:=l) λq hq=>h q (by simp[hq]);grind[Oq,Nat.succ_mul]
def VN{A C K:Nat}{a b:Rat}(hA:0<A)(hC:0<C)(ha:dV (A*C) a)(hb:dV C b)(h0:0<b)(hk:b<=(K:Rat)):∃s,0<s/\s<=K*C/\dV (A*s) (a/b):=by
 obtain⟨e,hs⟩:=U9 hC hb h0;generalize nuA C b=s at*;refine⟨s,hs,?_,?_⟩
 .refine OY ?_;have hp:=Pq hC;have h1:=bj hk (dE hp);rw[e,dc (iI hC)]at h1;grind
 .obtain⟨z,rfl⟩:=ha;refine⟨z,?_⟩;grind
def adE{W:Rat}{q r:fD->Rat}:∀(t:List fD) (Q R:Rat),∀v∈ql W q r Q R t,∃k,k<t.length/\v=(W-(Q+aI (t.take (k+1)) q))/(R+aI (t.take (k+1)) r)/\0<R+aI (t.take (k+1)) r
 |[],_,_,v,hv=>by cases hv
 |l::t,Q,R,v,hv=>by
  unfold ql at hv;rcases bO.mp hv with hv|hv
  .split at hv
   .next hh=>
    have e:v=(W-(Q+q l))/(R+r l):=by grind
    have e1:aI ((l::t).take (0+1)) q=q l:=by grind[aI]
    have e2:aI ((l::t).take (0+1)) r=r l:=by grind[aI]
    exact⟨0,by simp,by grind,by grind⟩
   grind
  .obtain⟨k,h1,h2,h3⟩:=adE t _ _ v hv;have e1:∀f:fD->Rat,aI ((l::t).take (k+1+1)) f=f l+aI (t.take (k+1)) f:=λf=>rfl;refine⟨k+1,by grind,?_,?_⟩
   .grind
   grind
def EU(n q:Nat)(d:Nat->Rat):Prop:=∃Q:Nat,0<Q/\Q<=2^q/\∀i,i<n->∃z:Int,d i=(z:Rat)/(Q:Rat)/\z.natAbs<=2^q
def EU.rat{n q:Nat}{d:Nat->Rat}(h:EU n q d){i:Nat}(hi:i<n):lN q (d i):=by obtain⟨Q,h1,h2,h3⟩:=h;obtain⟨z,e,hz⟩:=h3 i hi;exact⟨z,Q,h1,h2,hz,e⟩
def lN.le{q:Nat}{v:Rat}(h:lN q v):v<=((2^q:Nat):Rat):=by obtain⟨z,Q,h1,h2,h3,rfl⟩:=h;have hp:=Pq h1;have h4:((z:Int):Rat)<=(((2^q:Nat):Int):Rat):=fT.mpr jb;have h5:((1:Nat):Rat)<=(Q:Rat):=bo.mpr h1;have e1:((1:Nat):Rat)=1:=rfl;have h6:(0:Rat)<=((2^q:Nat):Rat):=bo.mpr (bw _);have h4:((z:Int):Rat)<=((2^q:Nat):Rat):=h4;generalize ((2^q:Nat):Rat)=N at*;refine ik.mp λhlt=>?_;have h7:=dy hlt hp;rw[dc (iI h1)]at h7;have h8:=cL h5 h6;grind
def afX(B b r:Nat)(v:Rat):Prop:=lN r v/\∃H,B∣H/\0<H/\H<=2^b/\dV H v
section
variable {g:fP} {B b q:Nat} {x d:Nat→Rat}
theorem kM.tot(h:kM g){i:Nat}(hi:i<g.e.length):0<=jw (cO (ix g.e i)).rk/\jw (cO (ix g.e i)).rk<=2880:=by refine⟨zy (h.ed i hi).nn.rk,?_⟩;have h1:=VL (h.ed i hi).rk;have h2:((dH (cO (ix g.e i)).rk:Nat):Rat)<=((48:Nat):Rat):=bo.mpr (h.er i hi).1;grind
def kM.lay(h:kM g){i:Nat}(hi:i<g.e.length):AB (cO (ix g.e i))/\InE (kE g.e i) (cO (ix g.e i)):=Em ((FB h.z).e i hi)
def kM.apG(h:kM g)(hx:∀i,i<g.e.length->0<=x i){i:Nat}(hi:i<g.e.length):aB (kE g.e i) (λc=>gq (aY g) x (i,c))<=2880:=by obtain⟨h1,h2⟩:=h.lay hi;have e:(λc=>gq (aY g) x (i,c))=rX (cO (ix g.e i)) (x i):=rfl;rw[e];exact cG (abv h1 h2 (hx i hi)) (h.tot hi).2
def kM.akx(h:kM g)(hx:∀i,i<g.e.length->0<=x i){l:fD}(hl:l∈(aY g).fA):0<=gq (aY g) x l/\gq (aY g) x l<=2880:=by have hk:=h.Ku;have hk:=hk.fA l hl;have h1:l.1<g.e.length:=hk.1;have h2:l.2<kE g.e l.1:=hk.2;clear hk;refine⟨Jw (h.nn h1) (hx _ h1) _,?_⟩;have h3:=Dl (f:=λc=>gq (aY g) x (l.1,c)) (k:=l.2) (n:=kE g.e l.1) h2 λc _=>Jw (h.nn h1) (hx _ h1) c;exact cG h3 (h.apG hx h1)
def kM.aaZ(h:kM g){d:Rat×List fD}(hd:d∈(aY g).ds):oM 60 60 d.1/\d.2.length<=4/\∀l∈d.2,l∈(aY g).fA:=by
 have hd':=hd;obtain⟨D,hD,rfl⟩:=cB.mp hd';obtain⟨j,hj,ej⟩:=aL hD;have e0:D=ix g.d j:=by grind[dX]
 subst e0;obtain⟨h1,-,h2⟩:=h.d j hj;exact⟨h2,by grind,λl hl=>bA.mpr ⟨_,hd,hl⟩⟩
def kM.awP(h:kM g)(hx:∀i,i<g.e.length->0<=x i)(j:Nat):gG g.e.length (aY g) x j<=90000:=by
 have h1:aB g.e.length (λi=>aB ((aY g).k i) λc=>if wI (aY g) j i c then gq (aY g) x (i,c)else 0)<=(g.e.length:Rat)*2880:=by
  have key:∀n,n<=g.e.length->aB n (λi=>aB ((aY g).k i) λc=>if wI (aY g) j i c then gq (aY g) x (i,c)else 0)<=(n:Rat)*2880:=λn=>by
   induction n with
   |zero=>intro _;show(0:Rat)<=((0:Nat):Rat)*2880;simp
   |succ n ih=>
    intro hn
    have a:=ih jb
    have b:=h.apG hx (i:=n) jb
    have c:aB ((aY g).k n) (λc=>if wI (aY g) j n c then gq (aY g) x (n,c)else 0)<=aB (kE g.e n) (λc=>gq (aY g) x (n,c)):=nP λc _=>by have:0<=gq (aY g) x (n,c):=Jw (h.nn (by omega:n<g.e.length)) (hx _ jb) c;grind
    have e:((n+1:Nat):Rat)=(n:Rat)+1:=gb _ _
    grind[aB]
  grind
 have h2:aI (aY g).ds (dG (aY g) x j)<=((3:Nat):Rat)*11580:=rJ jj (λd hd=>by obtain⟨a1,a2,a3⟩:=h.aaZ hd;have b1:=adB (W:=d.1) (q:=gq (aY g) x) (j:=j) d.2 0 λl hl=>(h.akx hx (a3 l hl)).1;have b2:=rJ (f:=gq (aY g) x) (v:=2880) jj (l:=d.2) (k:=4) (λl hl=>(h.akx hx (a3 l hl)).2) a2;grind[acw,dG]) (by show(g.d.map _).length<=3;rw[cU];exact h.d3)
 have h3:((g.e.length:Nat):Rat)<=((8:Nat):Rat):=bo.mpr h.n;grind[gG]
def kM.apI(h:kM g){i:Nat}(hi:i<g.e.length)(y:Rat):opn (cO (ix g.e i)) y<=16:=by obtain⟨-,h1,h2,h3⟩:=h.er i hi;have a:=aot (cO (ix g.e i)) y;have b:=adC (e:=cO (ix g.e i)) (x:=y) λp hp=>(h3 p hp).2;omega
def awQ{n:Nat}{e:fC}(h:ED 60 60 n e)(hb:EB n e)(hB:0<B)(h6:60∣B){y s:Rat}(hy:dV B y)(h0:0<=y)(hs:Iq e y=some s):∃u v:Rat,s=u/v/\0<u/\dV (B*BI 60 e y) u/\0<v/\dV (BI 60 e y) v/\v<=1000/\y+s<=jw e.rk:=by
 have hE:=IC jj h h0;have hp:=ck hB hE;have hp1:=ck hB (rH jj h.rk.D h0);unfold Iq at hs;split at hs
 .next g hg=>
  cases hs;have ht:=VK h.nn.rk hg;have hl:=(wH e y e.ps g).1;rcases AL e y e.ps g with e1|⟨p,hpp,d,h1,h2,h3⟩
  .rw[e1];exact⟨g,1,by grind,yK hg,(YG hB h6 h.rk.D hy hg).dvd (aM _ _) hp,jj,⟨BI 60 e y,by have:=iI hE;have e2:(((BI 60 e y:Nat):Int):Rat)=((BI 60 e y:Nat):Rat):=rfl;grind⟩,jj,ht⟩
  .refine⟨d,_,h3,yK h1,(YG hp1 (bN h6 (aM _ _)) (h.ps p hpp).D (X4 jj hB h6 h hy h0 p) h1).dvd ?_ hp,h2,(acY jj h h0 p).dvd (aM _ _) hE,Pv h.uq hb h0 hpp,by grind⟩;exact cD _ (aM _ _)
 grind
def ChS(B b:Nat)(e:fC)(y:Rat):Prop:=∃B' k,B∣B'/\0<B'/\B'<=2^(b+61*k)/\k+opn e y<=16/\dV B' y/\0<=y/\y<=100000
def ChS.next(h:kM g){i:Nat}(hi:i<g.e.length)(h6:60∣B){y s:Rat}(hy:ChS B b (cO (ix g.e i)) y)(hs:Iq (cO (ix g.e i)) y=some s):ChS B b (cO (ix g.e i)) (y+s):=by obtain⟨B',k,h1,h2,h3,h4,h5,h7,h8⟩:=hy;obtain⟨u,v,rfl,u0,uD,v0,vD,v1,ht⟩:=awQ (h.ed i hi) (h.eb i hi) h2 (bN h6 h1) h5 h7 hs;obtain⟨p1,p2⟩:=h.cur hi h7;obtain⟨w,w0,w1,wD⟩:=VN (K:=1000) h2 p1 uD vD v0 v1;have hop:=AP (h.nn hi) h7 hs;have hd:=div_pos u0 v0;have ht2:=(h.tot hi).2;have hw:w<=2^61:=aw w1 (aw (cn _ p2) jj);refine⟨B'*w,k+1,bN h1 (aM _ _),ck h2 w0,?_,jb,(h5.dvd (aM _ _) (ck h2 w0)).add wD,by grind,by grind⟩;have:=oC h3 hw;omega
def EW{b:Nat}{D:Nat}{v:Rat}(hD:0<D)(hb:D<=2^b)(h:dV D v)(h0: -100000<=v)(h1:v<=100000):lN (b+17) v:=by have e:((100000:Nat):Rat)=100000:=rfl;exact VA (K:=100000) hD hb h jj jb jb
def ChS.ok(h:kM g){i:Nat}(hi:i<g.e.length)(h6:60∣B)(hb:b<=190000000){y:Rat}(hy:ChS B b (cO (ix g.e i)) y):∃D,BD D/\EOk D (kE g.e i) (cO (ix g.e i))/\MOk D (cO (ix g.e i)) y/\ROk D (cO (ix g.e i)) y/\SOk (cO (ix g.e i)) y:=by
 obtain⟨B',k,h1,h2,h3,h4,h5,h7,h8⟩:=hy;obtain⟨p1,p2⟩:=h.cur hi h7;have h6':=bN h6 h1;have hpos:=ck h2 p1;have hle:=oC h3 p2;have hD:BD (B'*BI 60 (cO (ix g.e i)) y):=abt hpos hle jb;have hv:y<=vQ:=by have a:=OM (k:=100000) jj;grind
 have hE:=h.ed i hi;have hB:=h.eb i hi;have hN:=h.nn hi;have ht:=(h.tot hi).2;obtain⟨-,-,-,hps⟩:=h.er i hi;have hp1:=ck h2 (rH jj hE.rk.D h7);have hdl:B'*wJ 60 (cO (ix g.e i)).rk y∣B'*BI 60 (cO (ix g.e i)) y:=cD _ (aM _ _);refine⟨_,hD,ai3 hD (bN h6' (aM _ _)) hE.uq hB,ai4 jj h2 h6' hD (ie _) hE.uq hB h5 h7 hv,ai5 jj h2 h6' hD (ie _) hE.uq hB h5 h7 hv,λs hs=>?_,λp hp s hs=>?_⟩
 .have a:=VK hN.rk hs;have c:=yK hs;exact(EW h2 h3 (YG h2 h6' hE.rk.D h5 hs) kd kd).sz jb
 .have a:=VK (hN.ps p hp) hs;have c:=yK hs;have d0:=mX hN h7 p;have t1:=VL (hE.ps p hp);have t2:((dH p.2:Nat):Rat)<=((28:Nat):Rat):=bo.mpr (hps p hp).1;have e28:((28:Nat):Rat)=28:=rfl;have gD:=(YG hp1 (bN h6' (aM _ _)) (hE.ps p hp).D (X4 jj h2 h6' hE h5 h7 p) hs).dvd hdl hpos;have z1:=EW hpos hle gD kd kd;have r0:=Jv hN h7 p;have r1:=Pv hE.uq hB h7 hp;refine⟨z1.sz jb,?_⟩;by_cases e:rW (cO (ix g.e i)) y p=0
  .grind[Sz.zero]
  .exact(z1.div (EW p1 p2 ((acY jj hE h7 p).dvd (aM _ _) p1) kd kd) e).sz jb
def ChS.aj(h:kM g){i:Nat}(hi:i<g.e.length)(h6:60∣B){n:Nat}{z y:Rat}{o:Option Rat}(hN:VX (cO (ix g.e i)) n z y o)(hy:ChS B b (cO (ix g.e i)) y):∀w,o=some w->ChS B b (cO (ix g.e i)) w:=by
 induction hN with
 |no h=>simp
 |stop hs _=>intro w hw;cases hw;exact hy.next h hi h6 hs
 |go hs _ _ ih=>exact ih (hy.next h hi h6 hs)
def aky(h:kM g){i:Nat}(hi:i<g.e.length)(hx:0<=x i):VX (cO (ix g.e i)) (kE g.e i) (x i) (x i) (nxE (cO (ix g.e i)) (kE g.e i) (x i))/\Gj (cO (ix g.e i)) (kE g.e i) (x i) (mJ g x i):=by obtain⟨o,ho⟩:=aiE (cO (ix g.e i)) (kE g.e i) (h.nn hi) (x i) _ (x i) hx jp;have e:=akv ho;refine⟨by grind,?_⟩;unfold mJ;rw[e];exact(acD (h.nn hi) ho hx λ_ _=>rfl).d3
end
def akz{r:Nat}{l:List Rat}(h:∀v∈l,lN r v)(hr:r<=200000000):Sz (gq0 (Ae l)):=by
 rcases VI l with⟨-,e⟩|⟨m,e,hm,-⟩
 .rw[e];exact Sz.zero
 .rw[e];exact(h m hm).sz hr
section
variable {g:fP} {B b q:Nat} {x d:Nat→Rat}
def kM.ch0(h:kM g)(hB0:0<B)(hb:B<=2^b)(hx:∀i,i<g.e.length->SmB B (x i)){i:Nat}(hi:i<g.e.length):ChS B b (cO (ix g.e i)) (x i):=
 ⟨B,0,ie _,hB0,jb,by have:=h.apI hi (x i);omega,(hx i hi).1,(hx i hi).2.1,(hx i hi).2.2⟩
def kM.ny(h:kM g)(hB0:0<B)(h6:60∣B)(hb:B<=2^b)(hx:∀i,i<g.e.length->SmB B (x i))(hdz:EU g.e.length q d){i:Nat}(hi:i<g.e.length)(hp:0<d i){y:Rat}(hy:nxE (cO (ix g.e i)) (kE g.e i) (x i)=some y):
  lN (b+993) y/\lN (b+993) (y-x i)/\afX B (b+1000+2*q) (b+2000+2*q) ((y-x i)/d i):=by
 obtain⟨h1,-⟩:=aky h hi (hx i hi).2.1 (x:=x)
 rw[hy]at h1
 have hyx:=((acD (h.nn hi) h1 (hx i hi).2.1 λ_ _=>rfl).yes y rfl).1
 obtain⟨B',k,c1,c2,c3,c4,c5,c6,c7⟩:=ChS.aj h hi h6 h1 (h.ch0 hB0 hb hx hi) y rfl
 obtain⟨xD,x0,x1⟩:=hx i hi
 have c3:B'<=2^(b+976):=aw c3 (yP jb)
 have hD:=c5.sub (xD.dvd c1 c2)
 have z1:=EW c2 c3 c5 (by clear c3;grind) c7
 have z2:=EW c2 c3 hD (by clear c3;grind) (by clear c3;grind)
 have z3:=hdz.rat hi
 refine⟨z1,z2,(z2.div z3 (by clear c3;grind)).mono jb,?_⟩
 obtain⟨Q,q1,q2,q3⟩:=hdz
 obtain⟨z,ez,-⟩:=q3 i hi
 obtain⟨w,w0,w1,wD⟩:=VN (K:=2^q) c2 q1 (hD.dvd (aM _ _) (ck c2 q1)) ⟨z,ez⟩ hp z3.le
 refine⟨B'*w,bN c1 (aM _ _),ck c2 w0,?_,wD⟩
 have:=oC c3 (aw w1 (oC jp q2))
 exact aw this (yP jb)
def kM.c_e(h:kM g)(hB0:0<B)(h6:60∣B)(hb:B<=2^b)(hx:∀i,i<g.e.length->SmB B (x i))(hdz:EU g.e.length q d){i:Nat}(hi:i<=g.e.length):∀v∈Ba (mJ g x) d i,afX B (b+1000+2*q) (b+2000+2*q) v:=λv hv=>by
 obtain⟨k,h1,h2,y,h3,rfl⟩:=(xY i).mp hv;unfold mJ at h3;cases ho:nxE (cO (ix g.e k)) (kE g.e k) (x k)with
 |none=>grind
 |some w=>
  rw[ho]at h3
  cases h3
  exact(h.ny hB0 h6 hb hx hdz jb h2 ho).2.2
def kM.ds(h:kM g){j:Nat}(hj:j<g.d.length):(dW g j,dL g j)∈(aY g).ds:=by rw[<-O7 hj];grind[gI,xX]
def kM.c_d(h:kM g)(hB0:0<B)(h6:60∣B)(hb:B<=2^b)(hx:∀i,i<g.e.length->SmB B (x i))(hd:∀i,i<g.e.length->0<=d i)(hdz:EU g.e.length q d){j:Nat}(hj:j<g.d.length)(k:Nat):
  lN (b+425) (dW g j-aI ((dL g j).take k) (gq (aY g) x))/\lN (430+2*q) (aI ((dL g j).take k) (gr (aY g) x d))/\(0<aI ((dL g j).take k) (gr (aY g) x d)->afX B (b+1000+2*q) (b+2000+2*q) ((dW g j-aI ((dL g j).take k) (gq (aY g) x))/aI ((dL g j).take k) (gr (aY g) x d))):=by
 have hx0:∀i,i<g.e.length->0<=x i:=λi hi=>(hx i hi).2.1
 obtain⟨p1,p2⟩:=h.gE hx0
 have heB:=YT
 obtain⟨w1,w2,w3⟩:=h.aaZ (h.ds hj)
 have hl:∀l∈(dL g j).take k,l∈(aY g).fA:=λl hl=>w3 l (dT hl)
 have hk:((dL g j).take k).length<=4:=by grind
 generalize (dL g j).take k=t at hl hk
 have hln:∀l∈t,l.1<g.e.length:=λl hlt=>(h.Ku.fA l (hl l hlt)).1
 have hBE:=ck hB0 p1
 have awR:=oC hb p2
 have w1:oM 60 60 (dW g j):=w1
 have nD:dV (B*Xe.gE g x) (dW g j-aI t (gq (aY g) x)):=by refine(w1.1.dvd (bN h6 (aM _ _)) hBE).sub (dV.sum λl hlt=>?_);have hi:=hln l hlt;exact(aiX jj hB0 h6 (h.ed l.1 hi) (hx l.1 hi).1 (hx l.1 hi).2.1 l.2).dvd (cD _ (PE x hi)) hBE
 have q0:0<=aI t (gq (aY g) x):=mZ λl hlt=>(h.akx hx0 (hl l hlt)).1
 have q1:=rJ (f:=gq (aY g) x) (v:=2880) jj (l:=t) (k:=4) (λl hlt=>(h.akx hx0 (hl l hlt)).2) hk
 have e4:((4:Nat):Rat)=4:=rfl
 have w2:=w1.2
 have zn:=EW hBE awR nD kd kd
 have hdr:=λi (hi:i<g.e.length)=>hdz.rat hi
 obtain⟨Q,a1,a2,a3⟩:=hdz
 have hEQ:=ck p1 a1
 have apJ:=oC p2 a2
 have dD:dV (Xe.gE g x*Q) (aI t (gr (aY g) x d)):=dV.sum λl hlt=>by have hi:=hln l hlt;obtain⟨z,ez,-⟩:=a3 l.1 hi;exact dV.mul p1 a1 (h.slD hx0 hi l.2) ⟨z,ez⟩
 have hN:(0:Rat)<=((2^q:Nat):Rat):=bo.mpr (bw _)
 have hgr:∀l∈t,0<=gr (aY g) x d l/\gr (aY g) x d l<=1000001*((2^q:Nat):Rat):=λl hlt=>by have hi:=hln l hlt;have s1:=qX (h.nn hi) (hx0 _ hi) l.2;have s2:=Vs (h.ed l.1 hi).uq (h.eb l.1 hi) (hx0 _ hi) l.2;have s3:=hd l.1 hi;have s4:=(hdr l.1 hi).le;refine⟨cf s1 s3,?_⟩;have s5:=bj s2 s3;have s6:=cL s4 (show(0:Rat)<=1000001 by decide);show xQ (cO (ix g.e l.1)) (x l.1) l.2*d l.1<=_;grind
 have r0:0<=aI t (gr (aY g) x d):=mZ λl hlt=>(hgr l hlt).1
 have r1:=rJ (f:=gr (aY g) x d) (v:=1000001*((2^q:Nat):Rat)) (cf jj hN) (l:=t) (k:=4) (λl hlt=>(hgr l hlt).2) hk
 have hK:((4000004*2^q:Nat):Rat)=((4:Nat):Rat)*(1000001*((2^q:Nat):Rat)):=by rw[eZ,e4];have:((4000004:Nat):Rat)=4000004:=rfl;rw[this];grind
 rw[<-hK]at r1
 have hK2:4000004*2^q<=2^(22+q):=by rw[dC];exact br _ jj
 have zd:=(VA hEQ apJ dD hK2 (by have:(0:Rat)<=((4000004*2^q:Nat):Rat):=bo.mpr (bw _);grind) r1)
 have zd:lN (430+2*q) (aI t (gr (aY g) x d)):=zd.mono jb
 refine⟨zn.mono jb,zd,λhpos=>⟨(zn.div zd kd).mono jb,?_⟩⟩
 obtain⟨w,v0,v1,vD⟩:=VN hB0 hEQ (nD.dvd (cD _ (aM _ _)) (ck hB0 hEQ)) dD hpos r1
 refine⟨B*w,aM _ _,ck hB0 v0,?_,vD⟩
 have:=oC hb (aw v1 (oC hK2 apJ))
 exact aw this (yP jb)
def kM.c_p(h:kM g)(hB0:0<B)(h6:60∣B)(hb:B<=2^b)(hx:∀i,i<g.e.length->SmB B (x i))(hd:∀i,i<g.e.length->0<=d i)(hdz:EU g.e.length q d){D:Rat×List fD}(hD:D∈(aY g).ds){k:Nat}:∀v∈ql D.1 (gq (aY g) x) (gr (aY g) x d) 0 0 (D.2.take k),afX B (b+1000+2*q) (b+2000+2*q) v:=λv hv=>by
 obtain⟨j,hj,ej⟩:=aL hD;have hj2:j<g.d.length:=by grind[xX]
 have e0:D=(dW g j,dL g j):=by rw[<-ej,<-O7 hj2];grind[dX]
 subst e0;obtain⟨k',h1,h2,h3⟩:=adE _ _ _ v hv;rw[fY]at h2 h3;rw[fY,List.take_take]at h2;rw[List.take_take]at h3;rw[h2];exact(h.c_d hB0 h6 hb hx hd hdz hj2 _).2.2 h3
def kM.nr(h:kM g)(hB0:0<B)(h6:60∣B)(hb:B<=2^b)(hb2:b<=190000000)(hx:∀i,i<g.e.length->SmB B (x i))(hd:∀i,i<g.e.length->0<=d i)(hdz:EU g.e.length q d)(hq:q<=1000000):
  NrN (B*Xe.gE g x) g x d/\∀v∈jY g.e.length (aY g) (mJ g x) x d,afX B (b+1000+2*q) (b+2000+2*q) v:=by
 have hx0:∀i,i<g.e.length->0<=x i:=λi hi=>(hx i hi).2.1
 obtain⟨p1,p2⟩:=h.gE hx0
 have heB:=YT
 have hall:∀v∈jY g.e.length (aY g) (mJ g x) x d,afX B (b+1000+2*q) (b+2000+2*q) v:=λv hv=>by
  rcases bO.mp hv with hv|hv
  .exact h.c_e hB0 h6 hb hx hdz jp v hv
  .obtain⟨D,hD,hv⟩:=bA.mp hv;rw[<-bP (l:=D.2)]at hv;exact h.c_p hB0 h6 hb hx hd hdz hD v hv
 refine⟨⟨h.mg hB0 h6 hb jb hx,λi hi=>⟨h.nn hi,hx0 i hi⟩,λi hi=>(hdz.rat hi).sz jb,λi hi _=>⟨ChS B b (cO (ix g.e i)),h.ch0 hB0 hb hx hi,λm hm=>ChS.ok h hi h6 hb2 hm,λm t hm ht=>hm.next h hi h6 ht⟩,λi hi hp y hy=>?_,λi hi=>?_,λj hj k hk=>?_,λj hj l hl=>?_⟩,hall⟩
 .obtain⟨z1,z2,z3⟩:=h.ny hB0 h6 hb hx hdz hi hp hy
  exact⟨z1.sz jb,z2.sz jb,z3.1.sz jb⟩
 .exact akz (λv hv=>(h.c_e hB0 h6 hb hx hdz hi v hv).1) jb
 .obtain⟨z1,z2,z3⟩:=h.c_d hB0 h6 hb hx hd hdz hj k
  refine⟨akz (r:=b+2000+2*q) (λv hv=>?_) jb,z1.sz jb,z2.sz jb,?_⟩
  .rcases bO.mp hv with hv|hv
   .rcases bO.mp hv with hv|hv
    .exact(h.c_e hB0 h6 hb hx hdz jp v hv).1
    .obtain⟨D,hD,hv⟩:=bA.mp hv
     rw[<-bP (l:=D.2)]at hv
     exact(h.c_p hB0 h6 hb hx hd hdz (dT hD) v hv).1
   .exact(h.c_p hB0 h6 hb hx hd hdz (h.ds hj) (k:=k) v hv).1
  .by_cases e:aI ((dL g j).take k) (gr (aY g) x d)=0
   .grind[Sz.zero]
   .exact(z1.div z2 e).sz jb
 .obtain⟨-,-,w3⟩:=h.aaZ (h.ds hj)
  have hle:=w3 l hl
  have hi:=(h.Ku.fA l hle).1
  have s1:=qX (h.nn hi) (hx0 _ hi) l.2
  have s2:=Vs (h.ed l.1 hi).uq (h.eb l.1 hi) (hx0 _ hi) l.2
  obtain⟨q0,q1⟩:=h.akx hx0 hle
  have e1:((1000001:Nat):Rat)=1000001:=rfl
  have zs:lN (eB+20) (xQ (cO (ix g.e l.1)) (x l.1) l.2):=VA (K:=1000001) p1 p2 (h.slD hx0 hi l.2) jj kd jb
  refine⟨?_,?_,?_⟩
  .have hBE:=ck hB0 p1
   exact(EW hBE (oC hb p2) ((aiX jj hB0 h6 (h.ed l.1 hi) (hx l.1 hi).1 (hx l.1 hi).2.1 l.2).dvd (cD _ (PE x hi)) hBE) (by have:0<=rX (cO (ix g.e l.1)) (x l.1) l.2:=q0;grind) (by have:rX (cO (ix g.e l.1)) (x l.1) l.2<=2880:=q1;grind)).sz jb
  .unfold gs
   rw[ab rfl]
   exact zs.sz jb
  .exact(zs.mul (hdz.rat hi)).sz jb
end
def iv(s:Bool)(u:Nat):Int:=if s=true then-(u:Int)else(u:Int)
theorem zG(s:Bool)(u:Nat):(iv s u).natAbs=u:=by cases s<;>simp[iv]
def akA(s:Bool){u:Nat}:iv s u=0↔u=0:=by cases s<;>simp[iv]
def akB(s t:Bool)(u v:Nat):iv (false==(s==t)) (u*v)=iv s u*iv t v:=by cases s<;>cases t<;>simp[iv]<;>grind
def aou{s t:Bool}(h:s≠t)(u v:Nat):iv s (u+v)=iv s u-iv t v:=by cases s<;>cases t<;>simp_all [iv]<;>omega
def adF(s:Bool){u v:Nat}(h:v<=u):iv s (u-v)=iv s u-iv s v:=by cases s<;>simp[iv]<;>omega
def aov(s:Bool){u v:Nat}(h:¬v<=u):iv (!s) (v-u)=iv s u-iv s v:=by cases s<;>simp[iv]<;>omega
def atn{s t:Bool}{u v:Nat}{q:Int}(h:iv s u=q*iv t v)(hv:v≠0):iv (false==(s==t)) (u/v)=q:=by
 have ha:u=q.natAbs*v:=by have:=bY Int.natAbs h;rwa[zG,fj,zG]at this
 have hq:u/v=q.natAbs:=by rw[ha];exact Nat.mul_div_cancel _ jb
 rw[hq];have h2:iv (false==(s==t)) q.natAbs*(v:Int)=q*(v:Int):=by
  have e:(u:Int)=(q.natAbs:Int)*(v:Int):=by rw[ha,eA]
  cases s<;>cases t<;>simp[iv]at h⊢ <;>grind
 exact Int.eq_of_mul_eq_mul_right jb h2
def kvS(F:Nat->Nat->Rat)(P:List Nat)(f:Nat):Nat->Nat->Rat
 |0,k=>if k=f then 1 else 0
 |r+1,k=>if k=at0 P r then-F r f else kvS F P f r k
def kvF(F:Nat->Nat->Rat)(P:List Nat)(f:Nat):Nat->Rat:=kvS F P f P.length
def abw{F:Nat->Nat->Rat}{P:List Nat}{f k:Nat}:∀r,(∀a,a<r->k≠at0 P a)->kvS F P f r k=if k=f then 1 else 0
 |0,_=>rfl
 |r+1,h=>by unfold kvS;rw[ae (h r jb)];exact abw r λa ha=>h a jb
def akC{F:Nat->Nat->Rat}{P:List Nat}{f:Nat}(hlt:∀a b,b<a->a<P.length->at0 P b<at0 P a){a:Nat}:∀r,r<=P.length->a<r->kvS F P f r (at0 P a)=-F a f
 |0,_,h=>jb
 |r+1,hr,ha=>by
  unfold kvS;by_cases e:a=r
  .subst e;rw[ab rfl]
  .have:=hlt r a jb jb;rw[ae jb];exact akC hlt r jb jb
def awS{F:Nat->Nat->Rat}{P:List Nat}{f:Nat}(hlt:∀a b,b<a->a<P.length->at0 P b<at0 P a)(hf:f∉P):kvF F P f f=1/\(∀a,a<P.length->kvF F P f (at0 P a)=-F a f)/\∀k,k∉P->k≠f->kvF F P f k=0:=by
 refine⟨?_,λa ha=>akC hlt _ jp ha,λk hk hne=>?_⟩
 .have:=abw (F:=F) (P:=P) (f:=f) (k:=f) P.length λa ha e=>hf (by grind[jc]);rwa[ab rfl]at this
 .have:=abw (F:=F) (P:=P) (f:=f) (k:=k) P.length λa ha e=>hk (by grind[jc]);rwa[ae hne]at this
section
variable {n:Nat} {M:Nat→Nat→Rat} {l:List Nat}
def sub_one(M:Nat->Nat->Rat)(l:List Nat)(a b:Nat):nS M l a b=1*(vS M l a b-if a=b then 1 else 0):=by unfold nS;grind
def akD(hl:IY n M l):∃f,f<l.length/\f∉(ech l.length (nS M l) l.length).2:=
 an5 (JQ _ _ _ _) (afJ hl.nodup hl.lt hl.aoe hl.ne hl.col _ 1 λa b _ _=>sub_one M l a b)
def aow(hM:KD n M)(hl:IY n M l){f:Nat}(hf:f<l.length)(hfP:f∉(ech l.length (nS M l) l.length).2):
  (∀j,j<n->pU l (kvF (ech l.length (nS M l) l.length).1 (ech l.length (nS M l) l.length).2 f) j=mv n M (pU l (kvF (ech l.length (nS M l) l.length).1 (ech l.length (nS M l) l.length).2 f)) j)/\∀i∈l,0<pU l (kvF (ech l.length (nS M l) l.length).1 (ech l.length (nS M l) l.length).2 f) i:=by
 have hE:=JQ l.length l.length (nS M l) l.length
 obtain⟨k1,k2,k3⟩:=awS (F:=(ech l.length (nS M l) l.length).1) hE.lt hfP
 have hs:=an4 hE hf hfP k1 k2 λk _ h1 h2=>k3 k h1 h2
 exact afI hM hl.nodup hl.lt hl.aoe hl.min hf k1 (afK (s:=1) jj (λa b _ _=>sub_one M l a b) hs)
def ay1{m a:Nat}{F:Nat->Nat->Rat}{P:List Nat}{f:Nat}(hP:P.length<=m)(hf:f<m)(h:DK m m a F)(hl:l.length=m):EU n a (pU l (kvF F P f)):=by
 obtain⟨Q,h1,h2,h3⟩:=h;have key:∀r,r<=P.length->∀k,∃z:Int,kvS F P f r k=(z:Rat)/(Q:Rat)/\z.natAbs<=2^a:=λr=>by
  induction r with
  |zero=>
   intro _ k
   unfold kvS
   split
   .refine⟨Q,?_,jb⟩
    have:=iI h1
    have e:(((Q:Nat):Int):Rat)=(Q:Rat):=rfl
    grind
   .exact⟨0,by grind,bw _⟩
  |succ r ih=>
   intro hr k
   unfold kvS
   split
   .obtain⟨z,e,hz⟩:=h3 r f jb hf
    exact⟨-z,by grind,jb⟩
   .exact ih jb k
 refine⟨Q,h1,h2,λi _=>?_⟩;unfold pU;split
 .exact key _ jp _
 .exact⟨0,by grind,bw _⟩
def afY(hM:KD n M)(hn:l.Nodup)(hl:∀i∈l,i<n)(hc:Vt n M l)(hno:∀S:Nat->Prop,(∃i,i<n/\S i)->(∀i,i<n->S i->i∈l)->¬Ins.Shut n M S)
  {B:Nat->Nat->Rat}{s:Nat->Rat}(hs:∀i,i<l.length->s i≠0) (hB:∀i j,i<l.length->j<l.length->B i j=s i*nS M l i j) (z:Nat->Rat) (hz:∀i,i<l.length->aB l.length (λj=>B i j*z j)=0):∀j,j<l.length->z j=0:=by
 refine aj1 hM hn hl hc hno λa ha=>?_
 have h:=hz a ha
 have e:aB l.length (λj=>B a j*z j)=s a*aB l.length (λj=>vS M l a j*z j-if j=a then z a else 0):=by rw[<-gQ];grind[Go.Proofs.Ins.aK,Go.Proofs.Xe.nS]
 rw[e,iH,jy ha]at h
 grind
def akE{B:Nat->Nat->Rat}{s v c:Nat->Rat}(hs:∀i,i<l.length->s i≠0)(hB:∀i j,i<l.length->j<l.length->B i j=s i*nS M l i j)(hBn:∀i,i<l.length->B i l.length=s i* -(c (at0 l i)))(hv:∀i,i<l.length->aB l.length (λj=>B i j*v j)=B i l.length):
  ∀a,a<l.length->v a=aB l.length (λb=>vS M l a b*v b)+c (at0 l a):=by
 intro a ha
 have h:=hv a ha
 have e:aB l.length (λj=>B a j*v j)=s a*aB l.length (λj=>vS M l a j*v j-if j=a then v a else 0):=by rw[<-gQ];grind[Go.Proofs.Ins.aK,Go.Proofs.Xe.nS]
 rw[e,hBn a ha,iH,jy ha]at h
 grind
def KP(n a:Nat)(W:Nat->Nat->Rat):Prop:=∀i j,i<n->j<=n->∃z:Int,W i j=(z:Rat)/\z.natAbs<=2^a
def KP.step{a k:Nat}{W:Nat->Nat->Rat}{p:Rat}(h:KP n a W)(hk:k<n)(hp:FH p)(p0:p≠0)(hi:∀i j,i<n->j<=n->FH (JU W k p i j)):KP n (2*a+1) (JU W k p):=λi j hin hj=>by
 obtain⟨z,ez⟩:=hi i j hin hj;refine⟨z,ez,?_⟩;have e2:(2:Nat)^(2*a+1)=2^a*2^a+2^a*2^a:=by rw[dp,Nat.two_mul a,dC];omega
 have h1:1<=2^a:=gP;have h2:2^a<=2^a*2^a:=fR _ h1;unfold JU at ez;by_cases e:i=k
 .rw[ab e]at ez;obtain⟨y,ey,hy⟩:=h k j hk hj;rw[ey]at ez;have:=fa.mp ez;omega
 .rw[ae e]at ez;obtain⟨q,rfl⟩:=hp;obtain⟨y1,e1,hy1⟩:=h k k hk jb;obtain⟨y2,e3,hy2⟩:=h i j hin hj;obtain⟨y3,e4,hy3⟩:=h i k hin jb;obtain⟨y4,e5,hy4⟩:=h k j hk hj;rw[e1,e3,e4,e5]at ez;have e6:((y1*y2-y3*y4:Int):Rat)=((z*q:Int):Rat):=by grind
  have e7:=fa.mp e6;have hq:1<=q.natAbs:=by have:q≠0:=λe=>p0 (by simp_all);omega
  have k1:=cE hy1 hy2;have k2:=cE hy3 hy4;have k3:(z*q).natAbs<=(y1*y2).natAbs+(y3*y4).natAbs:=jb;rw[fj,fj,fj]at k3;have k4:z.natAbs<=z.natAbs*q.natAbs:=fR _ hq;omega
def awT{m a:Nat}{W:Nat->Nat->Rat}{p:Rat}(h:KP m a W)(hd:∀i,i<m->W i i=p)(p0:p≠0)(hm:0<m)(hl:l.length=m)(hnd:l.Nodup):EU n a (pU l λi=>W i m/W i i):=by
 obtain⟨q,eq,hq⟩:=h 0 0 hm jb;rw[hd 0 hm]at eq;have hq0:q≠0:=λe=>p0 (by simp_all);obtain⟨s,hs,es⟩:=Vx q;have hss:=abo hs;refine⟨q.natAbs,jb,hq,λi _=>?_⟩;by_cases hi:i∈l
 .obtain⟨k,hk,rfl⟩:=Ey hi;rw[Ez hnd _ hk];obtain⟨z,ez,hz⟩:=h k m jb jp;refine⟨s*z,?_,?_⟩
  .grind
  grind
 .rw[uy hi];exact⟨0,by grind,bw _⟩
def Bar.diag{W B:Nat->Nat->Rat}{p:Rat}(h:Bar n n B W p):∀i,i<n->W i i=p:=by obtain⟨X,-,h2,h3,-⟩:=h.ex;grind
end
def iP(g:fP)(i:Nat):Rat:=(ix g.e i).m.q
def meas(g:fP)(x:Nat->Rat)(t:Rat):Nat:=mu g.e.length (aY g) x+if t=1 then 0 else 1
def rZ(g:fP)(x:Nat->Rat)(t:Rat):Prop:=∃B b,60∣B/\0<B/\B<=2^b/\b+400000*meas g x t<=180000000/\(∀i,i<g.e.length->SmB B (x i))/\dV B t
theorem adG{W:Rat}{q:fD->Rat}:∀(t:List fD) (Q:Rat),AQ W q Q t<=t.length
 |[],_=>jp
 |l::t,Q=>by have:=adG (W:=W) (q:=q) t (Q+q l);unfold AQ;rw[bR];split<;>omega
def adH{g:GL}{q:fD->Rat}{k:Nat}:∀{l:List (Rat×List fD)},(∀d∈l,d.2.length<=k)->Qr g q l<=l.length*k
 |[],_=>bw _
 |d::l,h=>by have h1:=adH (g:=g) (q:=q) (l:=l) λe he=>h e (by simp[he]);have h2:=h d kc;grind[adG,Qr,Nat.succ_mul]
def Y1{f:Nat->Nat}{k:Nat}:∀n,(∀i,i<n->f i<=k)->zC n f<=n*k
 |0,_=>bw _
 |n+1,h=>by have h1:=Y1 n λi hi=>h i jb;grind[zC]
section
variable {g:fP} {x d:Nat→Rat} {t v:Rat} {q:Nat}
def kM.awU(h:kM g)(x:Nat->Rat):mu g.e.length (aY g) x<=140:=by have h1:=Y1 (f:=λi=>opn ((aY g).e i) (x i)) (k:=16) g.e.length λi hi=>h.apI hi (x i);have h2:=adH (g:=aY g) (q:=gq (aY g) x) (k:=4) (l:=(aY g).ds) λd hd=>(h.aaZ hd).2.1;have h3:=h.n;have h4:=h.d3;grind[xX,mu]
def JW(h:kM g):rZ g (λ_=>0) 0:=by have:=h.awU λ_=>0;refine⟨60,6,ie _,jj,jj,?_,λi _=>⟨dV.zero _,aR,show(0:Rat)<=100000 by decide⟩,dV.zero _⟩;grind[meas]
def kM.awV(h:kM g){least:Bool}(hI:BJ h.Ku (iP g) least x t){i:Nat}(hi:i<g.e.length):0<=x i/\x i<=100000:=by refine⟨hI.nn i hi,?_⟩;have h1:=hI.fix i hi;have h2:=h.awP hI.nn i;have h3:=(h.m i hi).2.2;have h4:=bj hI.t1 h3.1;have e:(vP h.Ku).G x i=gG g.e.length (aY g) x i:=rfl;grind[iP]
def rZ.nr(h:kM g)(hP:rZ g x t)(hd:∀i,i<g.e.length->0<=d i)(hdz:EU g.e.length q d)(hq:q<=120000):∃D,NrN D g x d:=by obtain⟨B,b,h6,h0,hb,hb2,hx,-⟩:=hP;exact⟨_,(h.nr h0 h6 hb jb hx hd hdz jb).1⟩
def rZ.ajV(h:kM g)(hP:rZ g x t)(hd:∀i,i<g.e.length->0<=d i)(hdz:EU g.e.length q d)(hq:q<=120000)(hv:v∈jY g.e.length (aY g) (mJ g x) x d){least:Bool}{t':Rat}(ht:t'=t\/t'=t+v)(hI:BJ h.Ku (iP g) least (aZ x d v) t')(hm:meas g (aZ x d v) t'<meas g x t):
  rZ g (aZ x d v) t'/\Sz v:=by
 obtain⟨B,b,h6,h0,hb,hb2,hx,htD⟩:=hP
 obtain⟨hZ,H,k1,k2,k3,k4⟩:=(h.nr h0 h6 hb jb hx hd hdz jb).2 v hv
 obtain⟨Q,q1,q2,q3⟩:=hdz
 have hBQ:=ck k2 q1
 refine⟨⟨H*Q,b+1000+2*q+q,bN h6 (bN k1 (aM _ _)),hBQ,oC k3 q2,jb,λi hi=>?_,?_⟩,hZ.sz jb⟩
 .obtain⟨z,ez,-⟩:=q3 i hi
  have hf:=h.awV hI hi
  exact⟨((hx i hi).1.dvd (bN k1 (aM _ _)) hBQ).add (dV.mul k2 q1 k4 ⟨z,ez⟩),hf.1,hf.2⟩
 .have e1:=htD.dvd (bN k1 (aM _ Q)) hBQ
  rcases ht with rfl|rfl
  .exact e1
  .exact e1.add (k4.dvd (aM _ _) hBQ)
def rZ.last(h:kM g)(hP:rZ g x t)(hdz:EU g.e.length q d)(hq:q<=120000)(ht:t≠1){least:Bool}(hI:BJ h.Ku (iP g) least (aZ x d (1-t)) 1)(hm:mu g.e.length (aY g) (aZ x d (1-t))<=mu g.e.length (aY g) x):
  rZ g (aZ x d (1-t)) 1:=by
 obtain⟨B,b,h6,h0,hb,hb2,hx,htD⟩:=hP
 obtain⟨Q,q1,q2,q3⟩:=hdz
 have hBQ:=ck h0 q1
 have hone:dV B (1:Rat):=⟨B,by have:=iI h0;have e:(((B:Nat):Int):Rat)=((B:Nat):Rat):=rfl;grind⟩
 have hlt:meas g (aZ x d (1-t)) 1<meas g x t:=by grind[meas]
 refine⟨B*Q,b+q,bN h6 (aM _ _),hBQ,oC hb q2,jb,λi hi=>?_,hone.dvd (aM _ _) hBQ⟩
 obtain⟨z,ez,-⟩:=q3 i hi
 have hf:=h.awV hI hi
 exact⟨((hx i hi).1.dvd (aM _ _) hBQ).add (dV.mul h0 q1 (hone.sub htD) ⟨z,ez⟩),hf.1,hf.2⟩
def rZ.sz(hP:rZ g x t)(h0:0<=t)(h1:t<=1):(∀i,i<g.e.length->Sz (x i))/\Sz t/\Sz (1-t):=by
 obtain⟨B,b,h6,hB,hb,hb2,hx,htD⟩:=hP;have hone:dV B (1:Rat):=⟨B,by have:=iI hB;have e:(((B:Nat):Int):Rat)=((B:Nat):Rat):=rfl;rw[e];grind⟩
 exact⟨λi hi=>(EW hB hb (hx i hi).1 (by have:=(hx i hi).2.1;grind) (hx i hi).2.2).sz jb,(EW hB hb htD kd kd).sz jb,(EW hB hb (hone.sub htD) kd kd).sz jb⟩
def rZ.awW(h:kM g)(hP:rZ g x t)(hd:∀i,i<g.e.length->0<=d i)(hdz:EU g.e.length q d)(hq:q<=120000)(h0:0<=t)(h1:t<=1)(hv:v∈jY g.e.length (aY g) (mJ g x) x d\/v=1-t):Sz v/\∀i,i<g.e.length->Sz (d i)/\Sz (v*d i):=by
 obtain⟨B,b,h6,hB,hb,hb2,hx,htD⟩:=hP;have hone:dV B (1:Rat):=⟨B,by have:=iI hB;have e:(((B:Nat):Int):Rat)=((B:Nat):Rat):=rfl;grind⟩
 have hZ:lN (b+2000+2*q) v:=by
  rcases hv with hv|rfl
  .exact((h.nr hB h6 hb jb hx hd hdz jb).2 v hv).1
  .exact(EW hB hb (hone.sub htD) kd kd).mono jb
 exact⟨hZ.sz jb,λi hi=>⟨(hdz.rat hi).sz jb,(hZ.mul (hdz.rat hi)).sz jb⟩⟩
def rZ.mg(h:kM g)(hP:rZ g x t):∃D,Vo D g x:=by obtain⟨B,b,h6,hB,hb,hb2,hx,-⟩:=hP;exact⟨_,h.mg hB h6 hb jb hx⟩
def rZ.map(h:kM g)(hP:rZ g x t):∃D,asR 60 D g x:=by obtain⟨B,b,h6,hB,hb,hb2,hx,-⟩:=hP;exact⟨_,h.map hB h6 hb jb hx⟩
def kM.mz(h:kM g)(hx:∀i,i<g.e.length->0<=x i):(∀j i,j<g.e.length->i<g.e.length->Sz (gM g.e.length (aY g) x j i))/\(∀i,i<g.e.length->Sz (gM g.e.length (aY g) x i i-1))/\∀i k,i<g.e.length->k<=g.e.length->Sz (aB k λj=>gM g.e.length (aY g) x j i):=by
 obtain⟨p1,p2⟩:=h.gE hx;have hone:dV (Xe.gE g x) (1:Rat):=⟨Xe.gE g x,by have:=iI p1;have e:(((Xe.gE g x:Nat):Int):Rat)=((Xe.gE g x:Nat):Rat):=rfl;grind⟩
 refine⟨λj i hj hi=>?_,λi hi=>?_,λi k hi hk=>?_⟩
 .have:=h.m01 hx hj hi;exact(EW p1 p2 (h.mD hx hi) kd kd).sz jj
 .have:=h.m01 hx hi hi;exact(EW p1 p2 ((h.mD hx hi).sub hone) kd kd).sz jj
 .have key:∀k,k<=g.e.length->0<=aB k (λj=>gM g.e.length (aY g) x j i)/\aB k (λj=>gM g.e.length (aY g) x j i)<=(k:Rat):=λk=>by
   induction k with
   |zero=>intro _;exact⟨aR,aR⟩
   |succ k ih=>
    intro hk
    have a:=ih jb
    have b:=h.m01 hx (j:=k) jb hi
    have e:((k+1:Nat):Rat)=(k:Rat)+1:=gb _ _
    grind[aB]
  have hk8:((k:Nat):Rat)<=((8:Nat):Rat):=bo.mpr (by have:=h.n;omega);have e8:((8:Nat):Rat)=8:=rfl;have:=key k hk;exact(EW p1 p2 (abk λj _=>h.mD hx hi) kd kd).sz jj
end
structure akF(D:Nat)(g:fP)(x:Nat->Rat):Prop where
 d:BD D
 nn:∀i,i<g.e.length->0<=x i
 xz:∀i,i<g.e.length->Zk D 1 (x i)
 gz:∀i,i<g.e.length->∀c,c<kE g.e i->Zk D 1 (grF g x i c)
 vz:∀i,i<g.e.length->∀c,c<kE g.e i->Zk D 1 (KH g x i c)
 nz:∀i,i<g.e.length->∀c,c<kE g.e i->Zk D 5001 (l9 (aY g) x (i,c))
 sz:∀i,i<g.e.length->Zk D 2 (Zf g x i)
 rz:∀i,i<g.e.length->Zk D 9 (rsF g x i)
section
variable {g:fP} {x:Nat→Rat}
def kM.all(h:kM g)(hx:∀i,i<g.e.length->0<=x i){i:Nat}(hi:i<g.e.length):aB (kE g.e i) (KH g x i)+(Zf g x i+rsF g x i)=x i:=by obtain⟨h1,h2⟩:=Em ((FB h.z).e i hi);exact aon (h.bld.e i hi) h1 h2 (hx i hi)
def rZ.ay2(h:kM g)(hP:rZ g x 1):∃D,akF D g x:=by
 obtain⟨B,b,h6,hB,hb,hb2,hx,-⟩:=hP;have hx0:∀i,i<g.e.length->0<=x i:=λi hi=>(hx i hi).2.1;have hM:=h.mg hB h6 hb jb hx;have hD:=h.dok hB hb jb hx0;have hu:=tX;have hxZ:∀i,i<g.e.length->Zk (B*Xe.gE g x) 1 (x i):=λi hi=>nU hD (aM _ _) (hx i hi).1 (hx i hi).2.1 (hx i hi).v;have hq:=hM.A.s.q;have hsZ:∀i,i<g.e.length->Zk (B*Xe.gE g x) 2 (Zf g x i):=λi hi=>by obtain⟨s1,s2,s3⟩:=I5 (h.cap i hi) (kE g.e i);have hk6:=h.k6 i hi;have h4:((kE g.e i:Nat):Rat)<=((6:Nat):Rat):=bo.mpr jb;have e6:((6:Nat):Rat)=6:=rfl;have hv:=OM (k:=1000001) jj;have ev:((1000001:Nat):Rat)=1000001:=rfl;rw[ev]at hv;have hT:Zk (B*Xe.gE g x) 1 (nM (ix g.e i) (kE g.e i)):=nU hD (bN h6 (aM _ _)) s1 s2 (by unfold nM;grind);unfold Zf;rw[O4];exact((hxZ i hi).sub hT).pq
 refine⟨_,hD,hx0,hxZ,λi hi c hc=>?_,λi hi c hc=>(hq i hi c hc).2,λi hi c hc=>?_,hsZ,λi hi=>?_⟩
 .obtain⟨h1,h2⟩:=Em ((FB h.z).e i hi);refine nU hD (cD _ (bN (aM _ _) (PE x hi))) (aiW jj hB h6 (h.ed i hi) (hx i hi).1 (hx i hi).2.1 c) (aaE h1 (hx i hi).2.1 c) ?_;exact cG (ads (h.bld.e i hi) h1 (hx i hi).2.1 hc) (akm (h.cap i hi c))
 .unfold l9;exact((hq i hi c hc).2.sub (hM.A.r i hi c hc)).mono jb
 .have e:rsF g x i=x i-aB (kE g.e i) (KH g x i)-Zf g x i:=by have:=h.all hx0 hi;grind
  rw[e];have hk6:=h.k6 i hi;exact(((hxZ i hi).sub (Zk.zC λc hc=>(hq i hi c hc).2)).sub (hsZ i hi)).mono jb
end
noncomputable def ato(g:fP)(i:Nat):Bool:=decide (0<(ix g.e i).m.q)
set_option maxRecDepth 10000 in
def akG{σ:St}(hW:WF σ){sb:Nat}{g:fP}(hs:ER (Lt σ.aj) σ.h sb g)(hn:g.e.length<=1000)(hm:∀i,i<g.e.length->(ix g.e i).m.fits 1000000):
  aC EN 66 [.c (.ptr sb 0)] σ λr σ'=>(∃b,r=.c (.sl b 0 g.e.length (.ex g.e.length))/\σ'.h b=some ⟨bls g.e.length (ato g),none⟩/\σ.aj<=b/\b<σ'.aj)/\Fr σ σ':=by
 refine aN (kD.o _ _) kD.h ?_
 unfold kD
 dsimp only
 obtain⟨⟨ev,gv,lv,bv,hsb,hg,⟨R,P,hL1,hL2⟩,hB⟩,hsl⟩:=hs
 have hlk:=hL1.kn
 have hll:=hL1.len
 have hlE:=hg.e.len
 have hek:=hg.e.kn
 have hsl:sb<σ.aj:=hsl
 have hFr:=Fr.refl hW
 simp(disch:=try exact jz) only[go_sem,z3,ak hsb,hll,hlk,hlE,hek]
 refine aF (λq tm σ'=>∃i,q=g.e.length-i/\i<=g.e.length/\Tr.ah tm 3=.c (.sl σ.aj 0 g.e.length (.ex g.e.length))/\Tr.ah tm 16=.c ev/\Tr.ah tm 17=.c (.int .i64 (.ofNat g.e.length))/\Tr.ah tm 18=.c (.int .i64 (.ofNat i))
   /\σ'.h σ.aj=some ⟨ones g.e.length (λk=>.bool (if k<i then ato g k else false)),none⟩/\Fr σ σ'/\σ.aj+1<=σ'.aj) g.e.length ?_ ?_
 .refine⟨0,jb,jb,?_⟩
  simp(disch:=try exact jz) only[go_sem,z3,am]
  exact⟨bY (λl=>some (Bk.mk l none)) (dU λk _=>by rfl),fr,jb⟩
 .rintro q tm σ' ⟨i,rfl,hi,t3,t16,t17,oG,q3,hf,hnx⟩
  have hle:=hf.le
  have jE:=Fr.refl hf.wf
  simp(disch:=try exact jz) only[go_sem,z3,t3,t16,t17,oG,aG]
  refine aH (λhlt=>?_) (λhlt=>?_)
  .obtain⟨b5,o5,c5,rfl,C1,A1,bF,-,hC,hA1⟩:=hg.e.at hlt
   have bF:=hf.ld hW bF
   have IK:=bf.kn hC
   have hAk:=hA1.kn
   have hw:=rE (hm i hlt)
   simp(disch:=try exact jz) only[go_sem,z3,t3,t16,t17,oG,bF,IK,hAk,q3,aJ q3]
   refine⟨g.e.length-(i+1),jb,i+1,rfl,jb,rfl,bY (λl=>some (Bk.mk l none)) (dU λk hk=>?_),fr,jb⟩
   unfold aP
   by_cases e:k=i
   .rw[ab e,ab jb,e];rfl
   grind
  .have:i=g.e.length:=jb
   subst this
   simp(disch:=try exact jz) only[go_sem,z3,t3]
   refine⟨⟨_,rfl,?_,jb,jb⟩,hf⟩
   rw[q3]
   exact bY (λl=>some (Bk.mk l none)) (dU λk hk=>by grind)
end Go.Proofs.Xe
