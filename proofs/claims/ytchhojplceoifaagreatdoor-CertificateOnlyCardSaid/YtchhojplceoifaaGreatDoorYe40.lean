import Derived.Test.YtchhojplceoifaaGreatDoorYe39
set_option linter.all false
set_option maxRecDepth 100000
set_option maxHeartbeats 8000000
namespace Go.Proofs.Xe
open Go.RowKit Go.Proofs.Ins
def VL{l:gW}:∀{m g:Rat},Qe l->mG l m=some g->m+g<=nU l:=by
 induction l with
 |nil=>intro m g _ h;cases h
 |cons t l ih=>
  intro m g hn h
  have h1:=DU (l:=l) λu hu=>hn u (by simp[hu])
  unfold mG at h
  show m+g<=aW t+nU l
  split at h
  .grind
  .have:=ih (λu hu=>hn u (by simp[hu])) h;grind
def akc{l:gW}:∀{m:Rat},Qe l->kD l m<=nU l:=by
 induction l with
 |nil=>intro m _;rfl
 |cons t l ih=>
  intro m hn
  have h1:=DU (l:=l) λu hu=>hn u (by simp[hu])
  have h2:=ih (m:=m-aW t) λu hu=>hn u (by simp[hu])
  grind[kD,nU]
def aoa{l:gW}(h:Qe l){m:Rat}(h0:0<=m):kD l m<=m:=by have h1:=Js h bo h0;grind[aic,DU]
def VN{A n:Nat}{U:Rat}:∀{l:gW},yj (λq=>eX A q/\0<=q/\q<=U) n l->nU l<=(dS l:Rat)*U
 |[],_=>by show(0:Rat)<=((0:Nat):Rat)*U;simp
 |t::l,h=>by have h1:=VN (l:=l) λu hu=>h u (by simp[hu]);have h2:=Yu (h t kc);show aW t+nU l<=((t.length+dS l:Nat):Rat)*U;grind
def abl{n:Nat}{e:fJ}(hN:BX e)(hI:InE n e){x:Rat}(hx:0<=x):aB n (uh e x)<=nU e.rk:=by
 rw[UW hN hI hx];have h1:=akc (m:=x) hN.rk;have h2:0<=aK e.ps (λp=>lu e x p-kD p.2 (lu e x p)):=nH λp hp=>by have:=aoa (hN.ps p hp) (nV hN hx p);grind
 have h3:0<=rsv e x:=nH λp hp=>UM (hN.ps p hp) _ (nV hN hx p);grind
def ade{W:Rat}{q:fM->Rat}{j:Nat}:∀(t:List fM) (Q:Rat),(∀l∈t,0<=q l)->og W q Q t j<=aK t q
 |[],_,_=>bo
 |l::t,Q,h=>by
  have h1:=ade t (Q+q l) (W:=W) (j:=j) λu hu=>h u (by simp[hu]);have h2:=h l kc;have h3:nI (Q+q l-W)-nI (Q-W)<=q l:=by unfold nI;split<;>split<;>grind
  show(if l.1=j then _ else 0)+og W q (Q+q l) t j<=q l+aK t q;split<;>grind
def aob(e:fJ)(x:Rat):opn e x<=e.rk.length+Oq e x e.ps:=by unfold opn;omega
def adf{e:fJ}{x:Rat}{k:Nat}:∀{l:List (List Nat×gW)},(∀p∈l,p.2.length<=k)->Oq e x l<=l.length*k
 |[],_=>bp _
 |p::l,h=>by have h1:=adf (e:=e) (x:=x) (l:=l) λq hq=>h q (by simp[hq]);grind[Oq,Nat.succ_mul]
def VO{A C K:Nat}{a b:Rat}(hA:0<A)(hC:0<C)(ha:eX (A*C) a)(hb:eX C b)(h0:0<b)(hk:b<=(K:Rat)):∃s,0<s/\s<=K*C/\eX (A*s) (a/b):=by
 obtain⟨e,hs⟩:=U8 hC hb h0;generalize nuA C b=s at*;refine⟨s,hs,?_,?_⟩
 .refine Pv ?_;have hp:=Px hC;have h1:=bj hk (eo hp);rw[e,dq (iK hC)]at h1;grind
 .obtain⟨z,rfl⟩:=ha;refine⟨z,?_⟩;grind
def adg{W:Rat}{q r:fM->Rat}:∀(t:List fM) (Q R:Rat),∀v∈qF W q r Q R t,∃k,k<t.length/\v=(W-(Q+aK (t.take (k+1)) q))/(R+aK (t.take (k+1)) r)/\0<R+aK (t.take (k+1)) r
 |[],_,_,v,hv=>by cases hv
 |l::t,Q,R,v,hv=>by
  unfold qF at hv;rcases ck.mp hv with hv|hv
  .split at hv
   .next hh=>
    have e:v=(W-(Q+q l))/(R+r l):=by grind
    have e1:aK ((l::t).take (0+1)) q=q l:=by grind[aK]
    have e2:aK ((l::t).take (0+1)) r=r l:=by grind[aK]
    exact⟨0,by simp,by grind,by grind⟩
   grind
  .obtain⟨k,h1,h2,h3⟩:=adg t _ _ v hv;have e1:∀f:fM->Rat,aK ((l::t).take (k+1+1)) f=f l+aK (t.take (k+1)) f:=λf=>rfl;refine⟨k+1,by grind,?_,?_⟩
   .grind
   grind
def Fe(n q:Nat)(d:Nat->Rat):Prop:=∃Q:Nat,0<Q/\Q<=2^q/\∀i,i<n->∃z:Int,d i=(z:Rat)/(Q:Rat)/\z.natAbs<=2^q
def Fe.rat{n q:Nat}{d:Nat->Rat}(h:Fe n q d){i:Nat}(hi:i<n):lJ q (d i):=by obtain⟨Q,h1,h2,h3⟩:=h;obtain⟨z,e,hz⟩:=h3 i hi;exact⟨z,Q,h1,h2,hz,e⟩
def lJ.le{q:Nat}{v:Rat}(h:lJ q v):v<=((2^q:Nat):Rat):=by obtain⟨z,Q,h1,h2,h3,rfl⟩:=h;have hp:=Px h1;have h4:((z:Int):Rat)<=(((2^q:Nat):Int):Rat):=gl.mpr jb;have h5:((1:Nat):Rat)<=(Q:Rat):=bz.mpr h1;have e1:((1:Nat):Rat)=1:=rfl;have h6:(0:Rat)<=((2^q:Nat):Rat):=bz.mpr (bp _);have h4:((z:Int):Rat)<=((2^q:Nat):Rat):=h4;generalize ((2^q:Nat):Rat)=N at*;refine gN.mp λhlt=>?_;have h7:=dA hlt hp;rw[dq (iK h1)]at h7;have h8:=dt h5 h6;grind
def afA(B b r:Nat)(v:Rat):Prop:=lJ r v/\∃H,B∣H/\0<H/\H<=2^b/\eX H v
section
variable {g:gB} {B b q:Nat} {x d:Nat→Rat}
theorem kG.tot(h:kG g){i:Nat}(hi:i<g.e.length):0<=nU (dX (ix g.e i)).rk/\nU (dX (ix g.e i)).rk<=4800:=by refine⟨DU (h.ed i hi).nn.rk,?_⟩;have h1:=VN (h.ed i hi).rk;have h2:((dS (dX (ix g.e i)).rk:Nat):Rat)<=((48:Nat):Rat):=bz.mpr (h.er i hi).1;grind
def kG.lay(h:kG g){i:Nat}(hi:i<g.e.length):BX (dX (ix g.e i))/\InE (kE g.e i) (dX (ix g.e i)):=LU ((OL h.z).e i hi)
def kG.apv(h:kG g)(hx:∀i,i<g.e.length->0<=x i){i:Nat}(hi:i<g.e.length):aB (kE g.e i) (λc=>gq (aZ g) x (i,c))<=4800:=by obtain⟨h1,h2⟩:=h.lay hi;have e:(λc=>gq (aZ g) x (i,c))=uh (dX (ix g.e i)) (x i):=rfl;rw[e];exact cQ (abl h1 h2 (hx i hi)) (h.tot hi).2
def kG.akd(h:kG g)(hx:∀i,i<g.e.length->0<=x i){l:fM}(hl:l∈(aZ g).fA):0<=gq (aZ g) x l/\gq (aZ g) x l<=4800:=by have hk:=h.I7;have hk:=hk.fA l hl;have h1:l.1<g.e.length:=hk.1;have h2:l.2<kE g.e l.1:=hk.2;clear hk;refine⟨Ju (h.nn h1) (hx _ h1) _,?_⟩;have h3:=DI (f:=λc=>gq (aZ g) x (l.1,c)) (k:=l.2) (n:=kE g.e l.1) h2 λc _=>Ju (h.nn h1) (hx _ h1) c;exact cQ h3 (h.apv hx h1)
def kG.ajq(h:kG g){d:Rat×List fM}(hd:d∈(aZ g).ds):qp 60 100 d.1/\d.2.length<=4/\∀l∈d.2,l∈(aZ g).fA:=by
 have hd':=hd;obtain⟨D,hD,rfl⟩:=cV.mp hd';obtain⟨j,hj,ej⟩:=aR hD;have e0:D=ix g.d j:=by grind[fE]
 subst e0;obtain⟨h1,-,h2⟩:=h.d j hj;exact⟨h2,by grind,λl hl=>cG.mpr ⟨_,hd,hl⟩⟩
def kG.awG(h:kG g)(hx:∀i,i<g.e.length->0<=x i)(j:Nat):gG g.e.length (aZ g) x j<=97000:=by
 have h1:aB g.e.length (λi=>aB ((aZ g).k i) λc=>if uX (aZ g) j i c then gq (aZ g) x (i,c)else 0)<=(g.e.length:Rat)*4800:=by
  have key:∀n,n<=g.e.length->aB n (λi=>aB ((aZ g).k i) λc=>if uX (aZ g) j i c then gq (aZ g) x (i,c)else 0)<=(n:Rat)*4800:=λn=>by
   induction n with
   |zero=>intro _;show(0:Rat)<=((0:Nat):Rat)*4800;simp
   |succ n ih=>
    intro hn
    have a:=ih jb
    have b:=h.apv hx (i:=n) jb
    have c:aB ((aZ g).k n) (λc=>if uX (aZ g) j n c then gq (aZ g) x (n,c)else 0)<=aB (kE g.e n) (λc=>gq (aZ g) x (n,c)):=pF λc _=>by have:0<=gq (aZ g) x (n,c):=Ju (h.nn (by omega:n<g.e.length)) (hx _ jb) c;grind
    have e:((n+1:Nat):Rat)=(n:Rat)+1:=gx _ _
    grind[aB]
  grind
 have h2:aK (aZ g).ds (dG (aZ g) x j)<=((3:Nat):Rat)*19300:=rU jj (λd hd=>by obtain⟨a1,a2,a3⟩:=h.ajq hd;have b1:=ade (W:=d.1) (q:=gq (aZ g) x) (j:=j) d.2 0 λl hl=>(h.akd hx (a3 l hl)).1;have b2:=rU (f:=gq (aZ g) x) (v:=4800) jj (l:=d.2) (k:=4) (λl hl=>(h.akd hx (a3 l hl)).2) a2;grind[acj,dG]) (by show(g.d.map _).length<=3;rw[di];exact h.d3)
 have h3:((g.e.length:Nat):Rat)<=((8:Nat):Rat):=bz.mpr h.n;grind[gG]
def kG.apw(h:kG g){i:Nat}(hi:i<g.e.length)(y:Rat):opn (dX (ix g.e i)) y<=16:=by obtain⟨-,h1,h2,h3⟩:=h.er i hi;have a:=aob (dX (ix g.e i)) y;have b:=adf (e:=dX (ix g.e i)) (x:=y) λp hp=>(h3 p hp).2;omega
def awH{n:Nat}{e:fJ}(h:ED 60 100 n e)(hb:EB n e)(hB:0<B)(h6:60∣B){y s:Rat}(hy:eX B y)(h0:0<=y)(hs:Io e y=some s):∃u v:Rat,s=u/v/\0<u/\eX (B*Cb 60 e y) u/\0<v/\eX (Cb 60 e y) v/\v<=1000/\y+s<=nU e.rk:=by
 have hE:=IB jj h h0;have hp:=cn hB hE;have hp1:=cn hB (rP jj h.rk.D h0);unfold Io at hs;split at hs
 .next g hg=>
  cases hs;have ht:=VL h.nn.rk hg;have hl:=(wM e y e.ps g).1;rcases Bg e y e.ps g with e1|⟨p,hpp,d,h1,h2,h3⟩
  .rw[e1];exact⟨g,1,by grind,yP hg,(Yz hB h6 h.rk.D hy hg).dvd (aM _ _) hp,jj,⟨Cb 60 e y,by have:=iK hE;have e2:(((Cb 60 e y:Nat):Int):Rat)=((Cb 60 e y:Nat):Rat):=rfl;grind⟩,jj,ht⟩
  .refine⟨d,_,h3,yP h1,(Yz hp1 (bB h6 (aM _ _)) (h.ps p hpp).D (XY jj hB h6 h hy h0 p) h1).dvd ?_ hp,h2,(acO jj h h0 p).dvd (aM _ _) hE,Py h.uq hb h0 hpp,by grind⟩;exact cL _ (aM _ _)
 grind
def ChS(B b:Nat)(e:fJ)(y:Rat):Prop:=∃B' k,B∣B'/\0<B'/\B'<=2^(b+63*k)/\k+opn e y<=16/\eX B' y/\0<=y/\y<=100000
def ChS.next(h:kG g){i:Nat}(hi:i<g.e.length)(h6:60∣B){y s:Rat}(hy:ChS B b (dX (ix g.e i)) y)(hs:Io (dX (ix g.e i)) y=some s):ChS B b (dX (ix g.e i)) (y+s):=by obtain⟨B',k,h1,h2,h3,h4,h5,h7,h8⟩:=hy;obtain⟨u,v,rfl,u0,uD,v0,vD,v1,ht⟩:=awH (h.ed i hi) (h.eb i hi) h2 (bB h6 h1) h5 h7 hs;obtain⟨p1,p2⟩:=h.cur hi h7;obtain⟨w,w0,w1,wD⟩:=VO (K:=1000) h2 p1 uD vD v0 v1;have hop:=Bh (h.nn hi) h7 hs;have hd:=div_pos u0 v0;have ht2:=(h.tot hi).2;have hw:w<=2^63:=aw w1 (aw (cA _ p2) jj);refine⟨B'*w,k+1,bB h1 (aM _ _),cn h2 w0,?_,jb,(h5.dvd (aM _ _) (cn h2 w0)).add wD,by grind,by grind⟩;have:=kC h3 hw;omega
def Fg{b:Nat}{D:Nat}{v:Rat}(hD:0<D)(hb:D<=2^b)(h:eX D v)(h0: -100000<=v)(h1:v<=100000):lJ (b+17) v:=by have e:((100000:Nat):Rat)=100000:=rfl;exact VI (K:=100000) hD hb h jj jb jb
def ChS.ok(h:kG g){i:Nat}(hi:i<g.e.length)(h6:60∣B)(hb:b<=190000000){y:Rat}(hy:ChS B b (dX (ix g.e i)) y):∃D,Ce D/\EOk D (kE g.e i) (dX (ix g.e i))/\MOk D (dX (ix g.e i)) y/\ROk D (dX (ix g.e i)) y/\SOk (dX (ix g.e i)) y:=by
 obtain⟨B',k,h1,h2,h3,h4,h5,h7,h8⟩:=hy;obtain⟨p1,p2⟩:=h.cur hi h7;have h6':=bB h6 h1;have hpos:=cn h2 p1;have hle:=kC h3 p2;have hD:Ce (B'*Cb 60 (dX (ix g.e i)) y):=abk hpos hle jb;have hv:y<=vQ:=by have a:=RH (k:=100000) jj;grind
 have hE:=h.ed i hi;have hB:=h.eb i hi;have hN:=h.nn hi;have ht:=(h.tot hi).2;obtain⟨-,-,-,hps⟩:=h.er i hi;have hp1:=cn h2 (rP jj hE.rk.D h7);have hdl:B'*wP 60 (dX (ix g.e i)).rk y∣B'*Cb 60 (dX (ix g.e i)) y:=cL _ (aM _ _);refine⟨_,hD,aiN hD (bB h6' (aM _ _)) hE.uq hB,aiO jj h2 h6' hD (hJ _) hE.uq hB h5 h7 hv,aiP jj h2 h6' hD (hJ _) hE.uq hB h5 h7 hv,λs hs=>?_,λp hp s hs=>?_⟩
 .have a:=VL hN.rk hs;have c:=yP hs;exact(Fg h2 h3 (Yz h2 h6' hE.rk.D h5 hs) kd kd).sz jb
 .have a:=VL (hN.ps p hp) hs;have c:=yP hs;have d0:=nV hN h7 p;have t1:=VN (hE.ps p hp);have t2:((dS p.2:Nat):Rat)<=((28:Nat):Rat):=bz.mpr (hps p hp).1;have e28:((28:Nat):Rat)=28:=rfl;have gD:=(Yz hp1 (bB h6' (aM _ _)) (hE.ps p hp).D (XY jj h2 h6' hE h5 h7 p) hs).dvd hdl hpos;have z1:=Fg hpos hle gD kd kd;have r0:=Jt hN h7 p;have r1:=Py hE.uq hB h7 hp;refine⟨z1.sz jb,?_⟩;by_cases e:sF (dX (ix g.e i)) y p=0
  .grind[Sz.zero]
  .exact(z1.div (Fg p1 p2 ((acO jj hE h7 p).dvd (aM _ _) p1) kd kd) e).sz jb
def ChS.aj(h:kG g){i:Nat}(hi:i<g.e.length)(h6:60∣B){n:Nat}{z y:Rat}{o:Option Rat}(hN:VW (dX (ix g.e i)) n z y o)(hy:ChS B b (dX (ix g.e i)) y):∀w,o=some w->ChS B b (dX (ix g.e i)) w:=by
 induction hN with
 |no h=>simp
 |stop hs _=>intro w hw;cases hw;exact hy.next h hi h6 hs
 |go hs _ _ ih=>exact ih (hy.next h hi h6 hs)
def ake(h:kG g){i:Nat}(hi:i<g.e.length)(hx:0<=x i):VW (dX (ix g.e i)) (kE g.e i) (x i) (x i) (nxE (dX (ix g.e i)) (kE g.e i) (x i))/\Gh (dX (ix g.e i)) (kE g.e i) (x i) (mJ g x i):=by obtain⟨o,ho⟩:=ail (dX (ix g.e i)) (kE g.e i) (h.nn hi) (x i) _ (x i) hx jp;have e:=aj9 ho;refine⟨by grind,?_⟩;unfold mJ;rw[e];exact(acr (h.nn hi) ho hx λ_ _=>rfl).d3
end
def akf{r:Nat}{l:List Rat}(h:∀v∈l,lJ r v)(hr:r<=200000000):Sz (gq0 (Au l)):=by
 rcases VJ l with⟨-,e⟩|⟨m,e,hm,-⟩
 .rw[e];exact Sz.zero
 .rw[e];exact(h m hm).sz hr
section
variable {g:gB} {B b q:Nat} {x d:Nat→Rat}
def kG.ch0(h:kG g)(hB0:0<B)(hb:B<=2^b)(hx:∀i,i<g.e.length->Yx B (x i)){i:Nat}(hi:i<g.e.length):ChS B b (dX (ix g.e i)) (x i):=
 ⟨B,0,hJ _,hB0,jb,by have:=h.apw hi (x i);omega,(hx i hi).1,(hx i hi).2.1,(hx i hi).2.2⟩
def kG.ny(h:kG g)(hB0:0<B)(h6:60∣B)(hb:B<=2^b)(hx:∀i,i<g.e.length->Yx B (x i))(hdz:Fe g.e.length q d){i:Nat}(hi:i<g.e.length)(hp:0<d i){y:Rat}(hy:nxE (dX (ix g.e i)) (kE g.e i) (x i)=some y):
  lJ (b+1025) y/\lJ (b+1025) (y-x i)/\afA B (b+1100+2*q) (b+2200+2*q) ((y-x i)/d i):=by
 obtain⟨h1,-⟩:=ake h hi (hx i hi).2.1 (x:=x)
 rw[hy]at h1
 have hyx:=((acr (h.nn hi) h1 (hx i hi).2.1 λ_ _=>rfl).yes y rfl).1
 obtain⟨B',k,c1,c2,c3,c4,c5,c6,c7⟩:=ChS.aj h hi h6 h1 (h.ch0 hB0 hb hx hi) y rfl
 obtain⟨xD,x0,x1⟩:=hx i hi
 have c3:B'<=2^(b+1008):=aw c3 (yU jb)
 have hD:=c5.sub (xD.dvd c1 c2)
 have z1:=Fg c2 c3 c5 (by clear c3;grind) c7
 have z2:=Fg c2 c3 hD (by clear c3;grind) (by clear c3;grind)
 have z3:=hdz.rat hi
 refine⟨z1,z2,(z2.div z3 (by clear c3;grind)).mono jb,?_⟩
 obtain⟨Q,q1,q2,q3⟩:=hdz
 obtain⟨z,ez,-⟩:=q3 i hi
 obtain⟨w,w0,w1,wD⟩:=VO (K:=2^q) c2 q1 (hD.dvd (aM _ _) (cn c2 q1)) ⟨z,ez⟩ hp z3.le
 refine⟨B'*w,bB c1 (aM _ _),cn c2 w0,?_,wD⟩
 have:=kC c3 (aw w1 (kC jp q2))
 exact aw this (yU jb)
def kG.c_e(h:kG g)(hB0:0<B)(h6:60∣B)(hb:B<=2^b)(hx:∀i,i<g.e.length->Yx B (x i))(hdz:Fe g.e.length q d){i:Nat}(hi:i<=g.e.length):∀v∈BD (mJ g x) d i,afA B (b+1100+2*q) (b+2200+2*q) v:=λv hv=>by
 obtain⟨k,h1,h2,y,h3,rfl⟩:=(yx i).mp hv;unfold mJ at h3;cases ho:nxE (dX (ix g.e k)) (kE g.e k) (x k)with
 |none=>grind
 |some w=>
  rw[ho]at h3
  cases h3
  exact(h.ny hB0 h6 hb hx hdz jb h2 ho).2.2
def kG.ds(h:kG g){j:Nat}(hj:j<g.d.length):(dW g j,dL g j)∈(aZ g).ds:=by rw[<-OZ hj];grind[gJ,yw]
def kG.c_d(h:kG g)(hB0:0<B)(h6:60∣B)(hb:B<=2^b)(hx:∀i,i<g.e.length->Yx B (x i))(hd:∀i,i<g.e.length->0<=d i)(hdz:Fe g.e.length q d){j:Nat}(hj:j<g.d.length)(k:Nat):
  lJ (b+441) (dW g j-aK ((dL g j).take k) (gq (aZ g) x))/\lJ (446+2*q) (aK ((dL g j).take k) (gr (aZ g) x d))/\(0<aK ((dL g j).take k) (gr (aZ g) x d)->afA B (b+1100+2*q) (b+2200+2*q) ((dW g j-aK ((dL g j).take k) (gq (aZ g) x))/aK ((dL g j).take k) (gr (aZ g) x d))):=by
 have hx0:∀i,i<g.e.length->0<=x i:=λi hi=>(hx i hi).2.1
 obtain⟨p1,p2⟩:=h.gE hx0
 have heB:=YO
 obtain⟨w1,w2,w3⟩:=h.ajq (h.ds hj)
 have hl:∀l∈(dL g j).take k,l∈(aZ g).fA:=λl hl=>w3 l (et hl)
 have hk:((dL g j).take k).length<=4:=by grind
 generalize (dL g j).take k=t at hl hk
 have hln:∀l∈t,l.1<g.e.length:=λl hlt=>(h.I7.fA l (hl l hlt)).1
 have hBE:=cn hB0 p1
 have awI:=kC hb p2
 have w1:qp 60 100 (dW g j):=w1
 have nD:eX (B*Xe.gE g x) (dW g j-aK t (gq (aZ g) x)):=by refine(w1.1.dvd (bB h6 (aM _ _)) hBE).sub (eX.sum λl hlt=>?_);have hi:=hln l hlt;exact(aiI jj hB0 h6 (h.ed l.1 hi) (hx l.1 hi).1 (hx l.1 hi).2.1 l.2).dvd (cL _ (VG x hi)) hBE
 have q0:0<=aK t (gq (aZ g) x):=nH λl hlt=>(h.akd hx0 (hl l hlt)).1
 have q1:=rU (f:=gq (aZ g) x) (v:=4800) jj (l:=t) (k:=4) (λl hlt=>(h.akd hx0 (hl l hlt)).2) hk
 have e4:((4:Nat):Rat)=4:=rfl
 have w2:=w1.2
 have zn:=Fg hBE awI nD kd kd
 have hdr:=λi (hi:i<g.e.length)=>hdz.rat hi
 obtain⟨Q,a1,a2,a3⟩:=hdz
 have hEQ:=cn p1 a1
 have apx:=kC p2 a2
 have dD:eX (Xe.gE g x*Q) (aK t (gr (aZ g) x d)):=eX.sum λl hlt=>by have hi:=hln l hlt;obtain⟨z,ez,-⟩:=a3 l.1 hi;exact eX.mul p1 a1 (h.slD hx0 hi l.2) ⟨z,ez⟩
 have hN:(0:Rat)<=((2^q:Nat):Rat):=bz.mpr (bp _)
 have hgr:∀l∈t,0<=gr (aZ g) x d l/\gr (aZ g) x d l<=1000001*((2^q:Nat):Rat):=λl hlt=>by have hi:=hln l hlt;have s1:=rH (h.nn hi) (hx0 _ hi) l.2;have s2:=Vx (h.ed l.1 hi).uq (h.eb l.1 hi) (hx0 _ hi) l.2;have s3:=hd l.1 hi;have s4:=(hdr l.1 hi).le;refine⟨bX s1 s3,?_⟩;have s5:=bj s2 s3;have s6:=dt s4 (show(0:Rat)<=1000001 by decide);show yh (dX (ix g.e l.1)) (x l.1) l.2*d l.1<=_;grind
 have r0:0<=aK t (gr (aZ g) x d):=nH λl hlt=>(hgr l hlt).1
 have r1:=rU (f:=gr (aZ g) x d) (v:=1000001*((2^q:Nat):Rat)) (bX jj hN) (l:=t) (k:=4) (λl hlt=>(hgr l hlt).2) hk
 have hK:((4000004*2^q:Nat):Rat)=((4:Nat):Rat)*(1000001*((2^q:Nat):Rat)):=by rw[fh,e4];have:((4000004:Nat):Rat)=4000004:=rfl;rw[this];grind
 rw[<-hK]at r1
 have hK2:4000004*2^q<=2^(22+q):=by rw[eg];exact bw _ jj
 have zd:=(VI hEQ apx dD hK2 (by have:(0:Rat)<=((4000004*2^q:Nat):Rat):=bz.mpr (bp _);grind) r1)
 have zd:lJ (446+2*q) (aK t (gr (aZ g) x d)):=zd.mono jb
 refine⟨zn.mono jb,zd,λhpos=>⟨(zn.div zd kd).mono jb,?_⟩⟩
 obtain⟨w,v0,v1,vD⟩:=VO hB0 hEQ (nD.dvd (cL _ (aM _ _)) (cn hB0 hEQ)) dD hpos r1
 refine⟨B*w,aM _ _,cn hB0 v0,?_,vD⟩
 have:=kC hb (aw v1 (kC hK2 apx))
 exact aw this (yU jb)
def kG.c_p(h:kG g)(hB0:0<B)(h6:60∣B)(hb:B<=2^b)(hx:∀i,i<g.e.length->Yx B (x i))(hd:∀i,i<g.e.length->0<=d i)(hdz:Fe g.e.length q d){D:Rat×List fM}(hD:D∈(aZ g).ds){k:Nat}:∀v∈qF D.1 (gq (aZ g) x) (gr (aZ g) x d) 0 0 (D.2.take k),afA B (b+1100+2*q) (b+2200+2*q) v:=λv hv=>by
 obtain⟨j,hj,ej⟩:=aR hD;have hj2:j<g.d.length:=by grind[yw]
 have e0:D=(dW g j,dL g j):=by rw[<-ej,<-OZ hj2];grind[fE]
 subst e0;obtain⟨k',h1,h2,h3⟩:=adg _ _ _ v hv;rw[gw]at h2 h3;rw[gw,List.take_take]at h2;rw[List.take_take]at h3;rw[h2];exact(h.c_d hB0 h6 hb hx hd hdz hj2 _).2.2 h3
def kG.nr(h:kG g)(hB0:0<B)(h6:60∣B)(hb:B<=2^b)(hb2:b<=190000000)(hx:∀i,i<g.e.length->Yx B (x i))(hd:∀i,i<g.e.length->0<=d i)(hdz:Fe g.e.length q d)(hq:q<=1000000):
  NrN (B*Xe.gE g x) g x d/\∀v∈jR g.e.length (aZ g) (mJ g x) x d,afA B (b+1100+2*q) (b+2200+2*q) v:=by
 have hx0:∀i,i<g.e.length->0<=x i:=λi hi=>(hx i hi).2.1
 obtain⟨p1,p2⟩:=h.gE hx0
 have heB:=YO
 have hall:∀v∈jR g.e.length (aZ g) (mJ g x) x d,afA B (b+1100+2*q) (b+2200+2*q) v:=λv hv=>by
  rcases ck.mp hv with hv|hv
  .exact h.c_e hB0 h6 hb hx hdz jp v hv
  .obtain⟨D,hD,hv⟩:=cG.mp hv;rw[<-cC (l:=D.2)]at hv;exact h.c_p hB0 h6 hb hx hd hdz hD v hv
 refine⟨⟨h.mg hB0 h6 hb jb hx,λi hi=>⟨h.nn hi,hx0 i hi⟩,λi hi=>(hdz.rat hi).sz jb,λi hi _=>⟨ChS B b (dX (ix g.e i)),h.ch0 hB0 hb hx hi,λm hm=>ChS.ok h hi h6 hb2 hm,λm t hm ht=>hm.next h hi h6 ht⟩,λi hi hp y hy=>?_,λi hi=>?_,λj hj k hk=>?_,λj hj l hl=>?_⟩,hall⟩
 .obtain⟨z1,z2,z3⟩:=h.ny hB0 h6 hb hx hdz hi hp hy
  exact⟨z1.sz jb,z2.sz jb,z3.1.sz jb⟩
 .exact akf (λv hv=>(h.c_e hB0 h6 hb hx hdz hi v hv).1) jb
 .obtain⟨z1,z2,z3⟩:=h.c_d hB0 h6 hb hx hd hdz hj k
  refine⟨akf (r:=b+2200+2*q) (λv hv=>?_) jb,z1.sz jb,z2.sz jb,?_⟩
  .rcases ck.mp hv with hv|hv
   .rcases ck.mp hv with hv|hv
    .exact(h.c_e hB0 h6 hb hx hdz jp v hv).1
    .obtain⟨D,hD,hv⟩:=cG.mp hv
     rw[<-cC (l:=D.2)]at hv
     exact(h.c_p hB0 h6 hb hx hd hdz (et hD) v hv).1
   .exact(h.c_p hB0 h6 hb hx hd hdz (h.ds hj) (k:=k) v hv).1
  .by_cases e:aK ((dL g j).take k) (gr (aZ g) x d)=0
   .grind[Sz.zero]
   .exact(z1.div z2 e).sz jb
 .obtain⟨-,-,w3⟩:=h.ajq (h.ds hj)
  have hle:=w3 l hl
  have hi:=(h.I7.fA l hle).1
  have s1:=rH (h.nn hi) (hx0 _ hi) l.2
  have s2:=Vx (h.ed l.1 hi).uq (h.eb l.1 hi) (hx0 _ hi) l.2
  obtain⟨q0,q1⟩:=h.akd hx0 hle
  have e1:((1000001:Nat):Rat)=1000001:=rfl
  have zs:lJ (eB+20) (yh (dX (ix g.e l.1)) (x l.1) l.2):=VI (K:=1000001) p1 p2 (h.slD hx0 hi l.2) jj kd jb
  refine⟨?_,?_,?_⟩
  .have hBE:=cn hB0 p1
   exact(Fg hBE (kC hb p2) ((aiI jj hB0 h6 (h.ed l.1 hi) (hx l.1 hi).1 (hx l.1 hi).2.1 l.2).dvd (cL _ (VG x hi)) hBE) (by have:0<=uh (dX (ix g.e l.1)) (x l.1) l.2:=q0;grind) (by have:uh (dX (ix g.e l.1)) (x l.1) l.2<=4800:=q1;grind)).sz jb
  .unfold gs
   rw[ab rfl]
   exact zs.sz jb
  .exact(zs.mul (hdz.rat hi)).sz jb
end
def iv(s:Bool)(u:Nat):Int:=if s=true then-(u:Int)else(u:Int)
theorem zH(s:Bool)(u:Nat):(iv s u).natAbs=u:=by cases s<;>simp[iv]
def akg(s:Bool){u:Nat}:iv s u=0↔u=0:=by cases s<;>simp[iv]
def akh(s t:Bool)(u v:Nat):iv (false==(s==t)) (u*v)=iv s u*iv t v:=by cases s<;>cases t<;>simp[iv]<;>grind
def aoc{s t:Bool}(h:s≠t)(u v:Nat):iv s (u+v)=iv s u-iv t v:=by cases s<;>cases t<;>simp_all [iv]<;>omega
def adh(s:Bool){u v:Nat}(h:v<=u):iv s (u-v)=iv s u-iv s v:=by cases s<;>simp[iv]<;>omega
def aod(s:Bool){u v:Nat}(h:¬v<=u):iv (!s) (v-u)=iv s u-iv s v:=by cases s<;>simp[iv]<;>omega
def ati{s t:Bool}{u v:Nat}{q:Int}(h:iv s u=q*iv t v)(hv:v≠0):iv (false==(s==t)) (u/v)=q:=by
 have ha:u=q.natAbs*v:=by have:=bO Int.natAbs h;rwa[zH,fv,zH]at this
 have hq:u/v=q.natAbs:=by rw[ha];exact Nat.mul_div_cancel _ jb
 rw[hq];have h2:iv (false==(s==t)) q.natAbs*(v:Int)=q*(v:Int):=by
  have e:(u:Int)=(q.natAbs:Int)*(v:Int):=by rw[ha,eE]
  cases s<;>cases t<;>simp[iv]at h⊢ <;>grind
 exact Int.eq_of_mul_eq_mul_right jb h2
def kvS(F:Nat->Nat->Rat)(P:List Nat)(f:Nat):Nat->Nat->Rat
 |0,k=>if k=f then 1 else 0
 |r+1,k=>if k=at0 P r then-F r f else kvS F P f r k
def kvF(F:Nat->Nat->Rat)(P:List Nat)(f:Nat):Nat->Rat:=kvS F P f P.length
def abm{F:Nat->Nat->Rat}{P:List Nat}{f k:Nat}:∀r,(∀a,a<r->k≠at0 P a)->kvS F P f r k=if k=f then 1 else 0
 |0,_=>rfl
 |r+1,h=>by unfold kvS;rw[ae (h r jb)];exact abm r λa ha=>h a jb
def aki{F:Nat->Nat->Rat}{P:List Nat}{f:Nat}(hlt:∀a b,b<a->a<P.length->at0 P b<at0 P a){a:Nat}:∀r,r<=P.length->a<r->kvS F P f r (at0 P a)=-F a f
 |0,_,h=>jb
 |r+1,hr,ha=>by
  unfold kvS;by_cases e:a=r
  .subst e;rw[ab rfl]
  .have:=hlt r a jb jb;rw[ae jb];exact aki hlt r jb jb
def awJ{F:Nat->Nat->Rat}{P:List Nat}{f:Nat}(hlt:∀a b,b<a->a<P.length->at0 P b<at0 P a)(hf:f∉P):kvF F P f f=1/\(∀a,a<P.length->kvF F P f (at0 P a)=-F a f)/\∀k,k∉P->k≠f->kvF F P f k=0:=by
 refine⟨?_,λa ha=>aki hlt _ jp ha,λk hk hne=>?_⟩
 .have:=abm (F:=F) (P:=P) (f:=f) (k:=f) P.length λa ha e=>hf (by grind[iM]);rwa[ab rfl]at this
 .have:=abm (F:=F) (P:=P) (f:=f) (k:=k) P.length λa ha e=>hk (by grind[iM]);rwa[ae hne]at this
section
variable {n:Nat} {M:Nat→Nat→Rat} {l:List Nat}
def sub_one(M:Nat->Nat->Rat)(l:List Nat)(a b:Nat):oq M l a b=1*(vX M l a b-if a=b then 1 else 0):=by unfold oq;grind
def akj(hl:IV n M l):∃f,f<l.length/\f∉(ech l.length (oq M l) l.length).2:=
 anR (JO _ _ _ _) (afo hl.nodup hl.lt hl.anU hl.ne hl.col _ 1 λa b _ _=>sub_one M l a b)
def aoe(hM:Ii n M)(hl:IV n M l){f:Nat}(hf:f<l.length)(hfP:f∉(ech l.length (oq M l) l.length).2):
  (∀j,j<n->qw l (kvF (ech l.length (oq M l) l.length).1 (ech l.length (oq M l) l.length).2 f) j=mv n M (qw l (kvF (ech l.length (oq M l) l.length).1 (ech l.length (oq M l) l.length).2 f)) j)/\∀i∈l,0<qw l (kvF (ech l.length (oq M l) l.length).1 (ech l.length (oq M l) l.length).2 f) i:=by
 have hE:=JO l.length l.length (oq M l) l.length
 obtain⟨k1,k2,k3⟩:=awJ (F:=(ech l.length (oq M l) l.length).1) hE.lt hfP
 have hs:=anQ hE hf hfP k1 k2 λk _ h1 h2=>k3 k h1 h2
 exact afn hM hl.nodup hl.lt hl.anU hl.min hf k1 (afp (s:=1) jj (λa b _ _=>sub_one M l a b) hs)
def ayE{m a:Nat}{F:Nat->Nat->Rat}{P:List Nat}{f:Nat}(hP:P.length<=m)(hf:f<m)(h:D8 m m a F)(hl:l.length=m):Fe n a (qw l (kvF F P f)):=by
 obtain⟨Q,h1,h2,h3⟩:=h;have key:∀r,r<=P.length->∀k,∃z:Int,kvS F P f r k=(z:Rat)/(Q:Rat)/\z.natAbs<=2^a:=λr=>by
  induction r with
  |zero=>
   intro _ k
   unfold kvS
   split
   .refine⟨Q,?_,jb⟩
    have:=iK h1
    have e:(((Q:Nat):Int):Rat)=(Q:Rat):=rfl
    grind
   .exact⟨0,by grind,bp _⟩
  |succ r ih=>
   intro hr k
   unfold kvS
   split
   .obtain⟨z,e,hz⟩:=h3 r f jb hf
    exact⟨-z,by grind,jb⟩
   .exact ih jb k
 refine⟨Q,h1,h2,λi _=>?_⟩;unfold qw;split
 .exact key _ jp _
 .exact⟨0,by grind,bp _⟩
def afB(hM:Ii n M)(hn:l.Nodup)(hl:∀i∈l,i<n)(hc:Vy n M l)(hno:∀S:Nat->Prop,(∃i,i<n/\S i)->(∀i,i<n->S i->i∈l)->¬Ins.Shut n M S)
  {B:Nat->Nat->Rat}{s:Nat->Rat}(hs:∀i,i<l.length->s i≠0) (hB:∀i j,i<l.length->j<l.length->B i j=s i*oq M l i j) (z:Nat->Rat) (hz:∀i,i<l.length->aB l.length (λj=>B i j*z j)=0):∀j,j<l.length->z j=0:=by
 refine ajR hM hn hl hc hno λa ha=>?_
 have h:=hz a ha
 have e:aB l.length (λj=>B a j*z j)=s a*aB l.length (λj=>vX M l a j*z j-if j=a then z a else 0):=by rw[<-gQ];grind[Go.Proofs.Ins.aJ,Go.Proofs.Xe.oq]
 rw[e,gK,jy ha]at h
 grind
def akk{B:Nat->Nat->Rat}{s v c:Nat->Rat}(hs:∀i,i<l.length->s i≠0)(hB:∀i j,i<l.length->j<l.length->B i j=s i*oq M l i j)(hBn:∀i,i<l.length->B i l.length=s i* -(c (at0 l i)))(hv:∀i,i<l.length->aB l.length (λj=>B i j*v j)=B i l.length):
  ∀a,a<l.length->v a=aB l.length (λb=>vX M l a b*v b)+c (at0 l a):=by
 intro a ha
 have h:=hv a ha
 have e:aB l.length (λj=>B a j*v j)=s a*aB l.length (λj=>vX M l a j*v j-if j=a then v a else 0):=by rw[<-gQ];grind[Go.Proofs.Ins.aJ,Go.Proofs.Xe.oq]
 rw[e,hBn a ha,gK,jy ha]at h
 grind
def KT(n a:Nat)(W:Nat->Nat->Rat):Prop:=∀i j,i<n->j<=n->∃z:Int,W i j=(z:Rat)/\z.natAbs<=2^a
def KT.step{a k:Nat}{W:Nat->Nat->Rat}{p:Rat}(h:KT n a W)(hk:k<n)(hp:FN p)(p0:p≠0)(hi:∀i j,i<n->j<=n->FN (JR W k p i j)):KT n (2*a+1) (JR W k p):=λi j hin hj=>by
 obtain⟨z,ez⟩:=hi i j hin hj;refine⟨z,ez,?_⟩;have e2:(2:Nat)^(2*a+1)=2^a*2^a+2^a*2^a:=by rw[dI,Nat.two_mul a,eg];omega
 have h1:1<=2^a:=ie;have h2:2^a<=2^a*2^a:=gi _ h1;unfold JR at ez;by_cases e:i=k
 .rw[ab e]at ez;obtain⟨y,ey,hy⟩:=h k j hk hj;rw[ey]at ez;have:=fi.mp ez;omega
 .rw[ae e]at ez;obtain⟨q,rfl⟩:=hp;obtain⟨y1,e1,hy1⟩:=h k k hk jb;obtain⟨y2,e3,hy2⟩:=h i j hin hj;obtain⟨y3,e4,hy3⟩:=h i k hin jb;obtain⟨y4,e5,hy4⟩:=h k j hk hj;rw[e1,e3,e4,e5]at ez;have e6:((y1*y2-y3*y4:Int):Rat)=((z*q:Int):Rat):=by grind
  have e7:=fi.mp e6;have hq:1<=q.natAbs:=by have:q≠0:=λe=>p0 (by simp_all);omega
  have k1:=cH hy1 hy2;have k2:=cH hy3 hy4;have k3:(z*q).natAbs<=(y1*y2).natAbs+(y3*y4).natAbs:=jb;rw[fv,fv,fv]at k3;have k4:z.natAbs<=z.natAbs*q.natAbs:=gi _ hq;omega
def awK{m a:Nat}{W:Nat->Nat->Rat}{p:Rat}(h:KT m a W)(hd:∀i,i<m->W i i=p)(p0:p≠0)(hm:0<m)(hl:l.length=m)(hnd:l.Nodup):Fe n a (qw l λi=>W i m/W i i):=by
 obtain⟨q,eq,hq⟩:=h 0 0 hm jb;rw[hd 0 hm]at eq;have hq0:q≠0:=λe=>p0 (by simp_all);obtain⟨s,hs,es⟩:=VF q;have hss:=abg hs;refine⟨q.natAbs,jb,hq,λi _=>?_⟩;by_cases hi:i∈l
 .obtain⟨k,hk,rfl⟩:=yT hi;rw[ET hnd _ hk];obtain⟨z,ez,hz⟩:=h k m jb jp;refine⟨s*z,?_,?_⟩
  .grind
  grind
 .rw[uJ hi];exact⟨0,by grind,bp _⟩
def Bar.diag{W B:Nat->Nat->Rat}{p:Rat}(h:Bar n n B W p):∀i,i<n->W i i=p:=by obtain⟨X,-,h2,h3,-⟩:=h.ex;grind
end
def iE(g:gB)(i:Nat):Rat:=(ix g.e i).m.q
def meas(g:gB)(x:Nat->Rat)(t:Rat):Nat:=mu g.e.length (aZ g) x+if t=1 then 0 else 1
def ou(g:gB)(x:Nat->Rat)(t:Rat):Prop:=∃B b,60∣B/\0<B/\B<=2^b/\b+400000*meas g x t<=60000000/\(∀i,i<g.e.length->Yx B (x i))/\eX B t
theorem adi{W:Rat}{q:fM->Rat}:∀(t:List fM) (Q:Rat),Bj W q Q t<=t.length
 |[],_=>jp
 |l::t,Q=>by have:=adi (W:=W) (q:=q) t (Q+q l);unfold Bj;rw[ce];split<;>omega
def adk{g:GL}{q:fM->Rat}{k:Nat}:∀{l:List (Rat×List fM)},(∀d∈l,d.2.length<=k)->Qv g q l<=l.length*k
 |[],_=>bp _
 |d::l,h=>by have h1:=adk (g:=g) (q:=q) (l:=l) λe he=>h e (by simp[he]);have h2:=h d kc;grind[adi,Qv,Nat.succ_mul]
def YS{f:Nat->Nat}{k:Nat}:∀n,(∀i,i<n->f i<=k)->Ak n f<=n*k
 |0,_=>bp _
 |n+1,h=>by have h1:=YS n λi hi=>h i jb;grind[Ak]
section
variable {g:gB} {x d:Nat→Rat} {t v:Rat} {q:Nat}
def kG.awL(h:kG g)(x:Nat->Rat):mu g.e.length (aZ g) x<=140:=by have h1:=YS (f:=λi=>opn ((aZ g).e i) (x i)) (k:=16) g.e.length λi hi=>h.apw hi (x i);have h2:=adk (g:=aZ g) (q:=gq (aZ g) x) (k:=4) (l:=(aZ g).ds) λd hd=>(h.ajq hd).2.1;have h3:=h.n;have h4:=h.d3;grind[yw,mu]
def JV(h:kG g):ou g (λ_=>0) 0:=by have:=h.awL λ_=>0;refine⟨60,6,hJ _,jj,jj,?_,λi _=>⟨eX.zero _,bo,show(0:Rat)<=100000 by decide⟩,eX.zero _⟩;grind[meas]
def kG.awM(h:kG g){least:Bool}(hI:Aq h.I7 (iE g) least x t){i:Nat}(hi:i<g.e.length):0<=x i/\x i<=100000:=by refine⟨hI.nn i hi,?_⟩;have h1:=hI.fix i hi;have h2:=h.awG hI.nn i;have h3:=(h.m i hi).2.2;have h4:=bj hI.t1 h3.1;have e:(vW h.I7).G x i=gG g.e.length (aZ g) x i:=rfl;grind[iE]
def ou.nr(h:kG g)(hP:ou g x t)(hd:∀i,i<g.e.length->0<=d i)(hdz:Fe g.e.length q d)(hq:q<=120000):∃D,NrN D g x d:=by obtain⟨B,b,h6,h0,hb,hb2,hx,-⟩:=hP;exact⟨_,(h.nr h0 h6 hb jb hx hd hdz jb).1⟩
def ou.ajL(h:kG g)(hP:ou g x t)(hd:∀i,i<g.e.length->0<=d i)(hdz:Fe g.e.length q d)(hq:q<=120000)(hv:v∈jR g.e.length (aZ g) (mJ g x) x d){least:Bool}{t':Rat}(ht:t'=t\/t'=t+v)(hI:Aq h.I7 (iE g) least (bC x d v) t')(hm:meas g (bC x d v) t'<meas g x t):
  ou g (bC x d v) t'/\Sz v:=by
 obtain⟨B,b,h6,h0,hb,hb2,hx,htD⟩:=hP
 obtain⟨hZ,H,k1,k2,k3,k4⟩:=(h.nr h0 h6 hb jb hx hd hdz jb).2 v hv
 obtain⟨Q,q1,q2,q3⟩:=hdz
 have hBQ:=cn k2 q1
 refine⟨⟨H*Q,b+1100+2*q+q,bB h6 (bB k1 (aM _ _)),hBQ,kC k3 q2,jb,λi hi=>?_,?_⟩,hZ.sz jb⟩
 .obtain⟨z,ez,-⟩:=q3 i hi
  have hf:=h.awM hI hi
  exact⟨((hx i hi).1.dvd (bB k1 (aM _ _)) hBQ).add (eX.mul k2 q1 k4 ⟨z,ez⟩),hf.1,hf.2⟩
 .have e1:=htD.dvd (bB k1 (aM _ Q)) hBQ
  rcases ht with rfl|rfl
  .exact e1
  .exact e1.add (k4.dvd (aM _ _) hBQ)
def ou.last(h:kG g)(hP:ou g x t)(hdz:Fe g.e.length q d)(hq:q<=120000)(ht:t≠1){least:Bool}(hI:Aq h.I7 (iE g) least (bC x d (1-t)) 1)(hm:mu g.e.length (aZ g) (bC x d (1-t))<=mu g.e.length (aZ g) x):
  ou g (bC x d (1-t)) 1:=by
 obtain⟨B,b,h6,h0,hb,hb2,hx,htD⟩:=hP
 obtain⟨Q,q1,q2,q3⟩:=hdz
 have hBQ:=cn h0 q1
 have hone:eX B (1:Rat):=⟨B,by have:=iK h0;have e:(((B:Nat):Int):Rat)=((B:Nat):Rat):=rfl;grind⟩
 have hlt:meas g (bC x d (1-t)) 1<meas g x t:=by grind[meas]
 refine⟨B*Q,b+q,bB h6 (aM _ _),hBQ,kC hb q2,jb,λi hi=>?_,hone.dvd (aM _ _) hBQ⟩
 obtain⟨z,ez,-⟩:=q3 i hi
 have hf:=h.awM hI hi
 exact⟨((hx i hi).1.dvd (aM _ _) hBQ).add (eX.mul h0 q1 (hone.sub htD) ⟨z,ez⟩),hf.1,hf.2⟩
def ou.sz(hP:ou g x t)(h0:0<=t)(h1:t<=1):(∀i,i<g.e.length->Sz (x i))/\Sz t/\Sz (1-t):=by
 obtain⟨B,b,h6,hB,hb,hb2,hx,htD⟩:=hP;have hone:eX B (1:Rat):=⟨B,by have:=iK hB;have e:(((B:Nat):Int):Rat)=((B:Nat):Rat):=rfl;rw[e];grind⟩
 exact⟨λi hi=>(Fg hB hb (hx i hi).1 (by have:=(hx i hi).2.1;grind) (hx i hi).2.2).sz jb,(Fg hB hb htD kd kd).sz jb,(Fg hB hb (hone.sub htD) kd kd).sz jb⟩
def ou.awO(h:kG g)(hP:ou g x t)(hd:∀i,i<g.e.length->0<=d i)(hdz:Fe g.e.length q d)(hq:q<=120000)(h0:0<=t)(h1:t<=1)(hv:v∈jR g.e.length (aZ g) (mJ g x) x d\/v=1-t):Sz v/\∀i,i<g.e.length->Sz (d i)/\Sz (v*d i):=by
 obtain⟨B,b,h6,hB,hb,hb2,hx,htD⟩:=hP;have hone:eX B (1:Rat):=⟨B,by have:=iK hB;have e:(((B:Nat):Int):Rat)=((B:Nat):Rat):=rfl;grind⟩
 have hZ:lJ (b+2200+2*q) v:=by
  rcases hv with hv|rfl
  .exact((h.nr hB h6 hb jb hx hd hdz jb).2 v hv).1
  .exact(Fg hB hb (hone.sub htD) kd kd).mono jb
 exact⟨hZ.sz jb,λi hi=>⟨(hdz.rat hi).sz jb,(hZ.mul (hdz.rat hi)).sz jb⟩⟩
def ou.mg(h:kG g)(hP:ou g x t):∃D,Vr D g x:=by obtain⟨B,b,h6,hB,hb,hb2,hx,-⟩:=hP;exact⟨_,h.mg hB h6 hb jb hx⟩
def ou.map(h:kG g)(hP:ou g x t):∃D,aa3 60 D g x:=by obtain⟨B,b,h6,hB,hb,hb2,hx,-⟩:=hP;exact⟨_,h.map hB h6 hb jb hx⟩
def kG.mz(h:kG g)(hx:∀i,i<g.e.length->0<=x i):(∀j i,j<g.e.length->i<g.e.length->Sz (gM g.e.length (aZ g) x j i))/\(∀i,i<g.e.length->Sz (gM g.e.length (aZ g) x i i-1))/\∀i k,i<g.e.length->k<=g.e.length->Sz (aB k λj=>gM g.e.length (aZ g) x j i):=by
 obtain⟨p1,p2⟩:=h.gE hx;have hone:eX (Xe.gE g x) (1:Rat):=⟨Xe.gE g x,by have:=iK p1;have e:(((Xe.gE g x:Nat):Int):Rat)=((Xe.gE g x:Nat):Rat):=rfl;grind⟩
 refine⟨λj i hj hi=>?_,λi hi=>?_,λi k hi hk=>?_⟩
 .have:=h.m01 hx hj hi;exact(Fg p1 p2 (h.mD hx hi) kd kd).sz jj
 .have:=h.m01 hx hi hi;exact(Fg p1 p2 ((h.mD hx hi).sub hone) kd kd).sz jj
 .have key:∀k,k<=g.e.length->0<=aB k (λj=>gM g.e.length (aZ g) x j i)/\aB k (λj=>gM g.e.length (aZ g) x j i)<=(k:Rat):=λk=>by
   induction k with
   |zero=>intro _;exact⟨bo,bo⟩
   |succ k ih=>
    intro hk
    have a:=ih jb
    have b:=h.m01 hx (j:=k) jb hi
    have e:((k+1:Nat):Rat)=(k:Rat)+1:=gx _ _
    grind[aB]
  have hk8:((k:Nat):Rat)<=((8:Nat):Rat):=bz.mpr (by have:=h.n;omega);have e8:((8:Nat):Rat)=8:=rfl;have:=key k hk;exact(Fg p1 p2 (aa8 λj _=>h.mD hx hi) kd kd).sz jj
end
def ou.mar{g:gB}{x:Nat->Rat}{t:Rat}(h:kG g)(hP:ou g x t):∃D,anP 60 D g x:=by obtain⟨B,b,h6,hB,hb,hb2,hx,-⟩:=hP;have h1:=h.mg hB h6 hb jb hx;exact⟨_,h.map hB h6 hb jb hx,h1.r,h1.s⟩
def SmV(g:gB)(x:Nat->Rat):Prop:=∃B b,60∣B/\0<B/\B<=2^b/\b<=199000000/\∀i,i<g.e.length->Yx B (x i)
def SmV.mar{g:gB}{x:Nat->Rat}(h:kG g)(hP:SmV g x):∃D,anP 60 D g x:=by obtain⟨B,b,h6,hB,hb,hb2,hx⟩:=hP;have h1:=h.mg hB h6 hb hb2 hx;exact⟨_,h.map hB h6 hb hb2 hx,h1.r,h1.s⟩
def ou.mix{g:gB}{x y:Nat->Rat}{t:Rat}{k:Nat}(hP:ou g x 1)(hQ:ou g y 1)(ht:t=(k:Rat)/8)(hk:k<8)(hyx:∀i,i<g.e.length->y i<=x i):SmV g λi=>y i+t*(x i-y i):=by
 obtain⟨B,b,h6,hB,hb,hb2,hx,-⟩:=hP;obtain⟨C,c,j6,hC,hc,hc2,hy,-⟩:=hQ;have hBC:=cn hB hC;have hn8:(0:Rat)<=(k:Rat)/8/\(k:Rat)/8<=1:=by
  have h1:(0:Rat)<=(k:Rat):=by exact_mod_cast bp k
  have h2:(k:Rat)<=8:=by exact_mod_cast gm hk
  grind
 refine⟨B*C*8,b+c+3,bB h6 (bB (aM _ _) (aM _ _)),jb,kC (kC hb hc) jj,jb,λi hi=>?_⟩;have h1:=hx i hi;have h2:=hy i hi;have h3:=hyx i hi;have hd:eX (B*C) (x i-y i):=(h1.1.dvd (aM _ _) hBC).sub (h2.1.dvd (fu _ _) hBC);have ht8:eX 8 t:=⟨k,by rw[ht];have e:(((k:Nat):Int):Rat)=(k:Rat):=rfl;have e8:((8:Nat):Rat)=8:=rfl;rw[e,e8]⟩
 have hm:=eX.mul hBC jj hd ht8;refine⟨?_,?_,?_⟩
 .have e:y i+t*(x i-y i)=y i+(x i-y i)*t:=by rw[fS]
  show eX _ (y i+t*(x i-y i));rw[e];exact(h2.1.dvd (bB (fu _ _) (aM _ _)) jb).add hm
 .have:=bX (ht▸hn8.1) (show 0<=x i-y i by grind);have:=h2.2.1;show 0<=y i+t*(x i-y i);grind
 .have h4:t*(x i-y i)<=1*(x i-y i):=bj (ht▸hn8.2) kd;have:=h1.2.2;show y i+t*(x i-y i)<=100000;grind
section
variable {g:gB} {c x y z:Nat→Rat} {ex:Nat→Int}
def aog(hG:kG g)(hn:Nn g.e.length z)(hf:∀j,j<g.e.length->z j=iE g j+gG g.e.length (aZ g) z j)(h:ExC g.e.length (gM g.e.length (aZ g) z) ex):Grt (n:=g.e.length) (g:=aZ g) (iE g) z:=
 have hI:Aq hG.I7 (iE g) false z 1:=⟨hn,jj,bo,λj hj=>by rw[gO];exact hf j hj,λe=>by cases e⟩
 abd hG.I7 (iE g) hI h.no
def akl{t:Rat}(hG:kG g)(hx:Grt (n:=g.e.length) (g:=aZ g) (iE g) x)(hy:Nn g.e.length y)(hyx:Le g.e.length y x)(ht:0<=t)(ht1:t<1)(hf:∀j,j<g.e.length->y j+t*(x j-y j)=iE g j+gG g.e.length (aZ g) (λi=>y i+t*(x i-y i)) j)
  (h:ExC g.e.length (gM g.e.length (aZ g) λi=>y i+t*(x i-y i)) ex):∀i,i<g.e.length->x i=y i:=λi hi=>by
 have hn:Nn g.e.length λi=>y i+t*(x i-y i):=λi hi=>by have h1:=hy i hi;have h2:=hyx i hi;have:=bX ht (show 0<=x i-y i by grind);show 0<=y i+t*(x i-y i);grind
 have hu:x i=y i+t*(x i-y i):=Grt.uniq _ hx (aog hG hn hf h) i hi
 have h2:=hyx i hi
 refine be λhne=>?_
 have h3:0<x i-y i:=by grind
 have h4:t*(x i-y i)<1*(x i-y i):=dA ht1 h3
 grind
end
noncomputable def atj(g:gB)(i:Nat):Bool:=decide (0<(ix g.e i).m.q)
def akm{σ:St}(hW:WF σ){sb:Nat}{g:gB}(hs:DW (Lt σ.aj) σ.h sb g)(hn:g.e.length<=1000)(hm:∀i,i<g.e.length->(ix g.e i).m.fits 1000000):
  aC EN 95 [.c (.ptr sb 0)] σ λr σ'=>(∃b,r=.c (.sl b 0 g.e.length (.ex g.e.length))/\σ'.h b=some ⟨IW g.e.length (atj g),none⟩/\σ.aj<=b/\b<σ'.aj)/\Fr σ σ':=by
 refine aO (jV.o _ _) jV.h ?_
 unfold jV
 dsimp only
 obtain⟨⟨ev,gv,lv,bv,hsb,hg,⟨R,P,hL1,hL2⟩,hB⟩,hsl⟩:=hs
 have hlk:=hL1.kn
 have hll:=hL1.len
 have Yf:=hg.e.len
 have hek:=hg.e.kn
 have hsl:sb<σ.aj:=hsl
 have hFr:=Fr.refl hW
 simp(disch:=try exact jz) only[go_sem,z3,ak hsb,hll,hlk,Yf,hek]
 refine aF (λq tm σ'=>∃i,q=g.e.length-i/\i<=g.e.length/\Tr.ah tm 3=.c (.sl σ.aj 0 g.e.length (.ex g.e.length))/\Tr.ah tm 16=.c ev/\Tr.ah tm 17=.c (.int .i64 (.ofNat g.e.length))/\Tr.ah tm 18=.c (.int .i64 (.ofNat i))
   /\σ'.h σ.aj=some ⟨ones g.e.length (λk=>.bool (if k<i then atj g k else false)),none⟩/\Fr σ σ'/\σ.aj+1<=σ'.aj) g.e.length ?_ ?_
 .refine⟨0,jb,jb,?_⟩
  simp(disch:=try exact jz) only[go_sem,z3,am]
  exact⟨bO (λl=>some (Bk.mk l none)) (bF λk _=>by rfl),fr,jb⟩
 .rintro q tm σ' ⟨i,rfl,hi,t3,t16,t17,nJ,q3,hf,hnx⟩
  have hle:=hf.le
  have jm:=Fr.refl hf.wf
  simp(disch:=try exact jz) only[go_sem,z3,t3,t16,t17,nJ,aG]
  refine aH (λhlt=>?_) (λhlt=>?_)
  .obtain⟨b5,o5,c5,rfl,C1,A1,bP,-,hC,hA1⟩:=hg.e.at hlt
   have bP:=hf.ld hW bP
   have Vg:=aY.kn hC
   have hAk:=hA1.kn
   have hw:=pG (hm i hlt)
   simp(disch:=try exact jz) only[go_sem,z3,t3,t16,t17,nJ,bP,Vg,hAk,q3,aI q3]
   refine⟨g.e.length-(i+1),jb,i+1,rfl,jb,rfl,bO (λl=>some (Bk.mk l none)) (bF λk hk=>?_),fr,jb⟩
   unfold aN
   by_cases e:k=i
   .rw[ab e,ab jb,e];rfl
   grind
  .have:i=g.e.length:=jb
   subst this
   simp(disch:=try exact jz) only[go_sem,z3,t3]
   refine⟨⟨_,rfl,?_,jb,jb⟩,hf⟩
   rw[q3]
   exact bO (λl=>some (Bk.mk l none)) (bF λk hk=>by grind)
end Go.Proofs.Xe
