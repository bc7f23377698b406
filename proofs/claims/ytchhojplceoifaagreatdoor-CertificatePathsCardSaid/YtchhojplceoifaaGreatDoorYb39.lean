import Derived.Test.YtchhojplceoifaaGreatDoorYb38
set_option linter.all false
set_option maxHeartbeats 8000000
namespace Go.Proofs.Xe
open Go.RowKit Go.Proofs.Ins
def VA{l:gQ}:∀{m g:Rat},PV l->mG l m=some g->m+g<=nP l:=by
 induction l with
 |nil=>intro m g _ h;cases h
 |cons t l ih=>
  intro m g hn h
  have h1:=DC (l:=l) λu hu=>hn u (by simp[hu])
  unfold mG at h
  show m+g<=aW t+nP l
  split at h
  .grind
  .have:=ih (λu hu=>hn u (by simp[hu])) h;grind
def ajS{l:gQ}:∀{m:Rat},PV l->ku l m<=nP l:=by
 induction l with
 |nil=>intro m _;rfl
 |cons t l ih=>
  intro m hn
  have h1:=DC (l:=l) λu hu=>hn u (by simp[hu])
  have h2:=ih (m:=m-aW t) λu hu=>hn u (by simp[hu])
  grind[ku,nP]
def anS{l:gQ}(h:PV l){m:Rat}(h0:0<=m):ku l m<=m:=by have h1:=Jk h be h0;grind[ahW,DC]
def VB{A n:Nat}{U:Rat}:∀{l:gQ},xZ (λq=>eX A q/\0<=q/\q<=U) n l->nP l<=(dQ l:Rat)*U
 |[],_=>by show(0:Rat)<=((0:Nat):Rat)*U;simp
 |t::l,h=>by have h1:=VB (l:=l) λu hu=>h u (by simp[hu]);have h2:=Yj (h t kc);show aW t+nP l<=((t.length+dQ l:Nat):Rat)*U;grind
def aa3{n:Nat}{e:fH}(hN:BN e)(hI:InE n e){x:Rat}(hx:0<=x):aB n (tX e x)<=nP e.rk:=by
 rw[UG hN hI hx];have h1:=ajS (m:=x) hN.rk;have h2:0<=aK e.ps (λp=>kU e x p-ku p.2 (kU e x p)):=nG λp hp=>by have:=anS (hN.ps p hp) (nR hN hx p);grind
 have h3:0<=rsv e x:=nG λp hp=>Uz (hN.ps p hp) _ (nR hN hx p);grind
def acV{W:Rat}{q:fK->Rat}{j:Nat}:∀(t:List fK) (Q:Rat),(∀l∈t,0<=q l)->nX W q Q t j<=aK t q
 |[],_,_=>be
 |l::t,Q,h=>by
  have h1:=acV t (Q+q l) (W:=W) (j:=j) λu hu=>h u (by simp[hu]);have h2:=h l kc;have h3:nH (Q+q l-W)-nH (Q-W)<=q l:=by unfold nH;split<;>split<;>grind
  show(if l.1=j then _ else 0)+nX W q (Q+q l) t j<=q l+aK t q;split<;>grind
def anT(e:fH)(x:Rat):opn e x<=e.rk.length+Oa e x e.ps:=by unfold opn;omega
def acW{e:fH}{x:Rat}{k:Nat}:∀{l:List (List Nat×gQ)},(∀p∈l,p.2.length<=k)->Oa e x l<=l.length*k
 |[],_=>bh _
 |p::l,h=>by have h1:=acW (e:=e) (x:=x) (l:=l) λq hq=>h q (by simp[hq]);grind[Oa,Nat.succ_mul]
def VD{A C K:Nat}{a b:Rat}(hA:0<A)(hC:0<C)(ha:eX (A*C) a)(hb:eX C b)(h0:0<b)(hk:b<=(K:Rat)):∃s,0<s/\s<=K*C/\eX (A*s) (a/b):=by
 obtain⟨e,hs⟩:=UR hC hb h0;generalize nuA C b=s at*;refine⟨s,hs,?_,?_⟩
 .refine O4 ?_;have hp:=O5 hC;have h1:=bp hk (eh hp);rw[e,di (iI hC)]at h1;grind
 .obtain⟨z,rfl⟩:=ha;refine⟨z,?_⟩;grind
def acX{W:Rat}{q r:fK->Rat}:∀(t:List fK) (Q R:Rat),∀v∈qC W q r Q R t,∃k,k<t.length/\v=(W-(Q+aK (t.take (k+1)) q))/(R+aK (t.take (k+1)) r)/\0<R+aK (t.take (k+1)) r
 |[],_,_,v,hv=>by cases hv
 |l::t,Q,R,v,hv=>by
  unfold qC at hv;rcases cg.mp hv with hv|hv
  .split at hv
   .next hh=>
    have e:v=(W-(Q+q l))/(R+r l):=by grind
    have e1:aK ((l::t).take (0+1)) q=q l:=by grind[aK]
    have e2:aK ((l::t).take (0+1)) r=r l:=by grind[aK]
    exact⟨0,by simp,by grind,by grind⟩
   grind
  .obtain⟨k,h1,h2,h3⟩:=acX t _ _ v hv;have e1:∀f:fK->Rat,aK ((l::t).take (k+1+1)) f=f l+aK (t.take (k+1)) f:=λf=>rfl;refine⟨k+1,by grind,?_,?_⟩
   .grind
   grind
def EM(n q:Nat)(d:Nat->Rat):Prop:=∃Q:Nat,0<Q/\Q<=2^q/\∀i,i<n->∃z:Int,d i=(z:Rat)/(Q:Rat)/\z.natAbs<=2^q
def EM.rat{n q:Nat}{d:Nat->Rat}(h:EM n q d){i:Nat}(hi:i<n):lu q (d i):=by obtain⟨Q,h1,h2,h3⟩:=h;obtain⟨z,e,hz⟩:=h3 i hi;exact⟨z,Q,h1,h2,hz,e⟩
def lu.le{q:Nat}{v:Rat}(h:lu q v):v<=((2^q:Nat):Rat):=by obtain⟨z,Q,h1,h2,h3,rfl⟩:=h;have hp:=O5 h1;have h4:((z:Int):Rat)<=(((2^q:Nat):Int):Rat):=gi.mpr jb;have h5:((1:Nat):Rat)<=(Q:Rat):=bw.mpr h1;have e1:((1:Nat):Rat)=1:=rfl;have h6:(0:Rat)<=((2^q:Nat):Rat):=bw.mpr (bh _);have h4:((z:Int):Rat)<=((2^q:Nat):Rat):=h4;generalize ((2^q:Nat):Rat)=N at*;refine gC.mp λhlt=>?_;have h7:=dT hlt hp;rw[di (iI h1)]at h7;have h8:=dj h5 h6;grind
def afk(B b r:Nat)(v:Rat):Prop:=lu r v/\∃H,B∣H/\0<H/\H<=2^b/\eX H v
section
variable {g:gB} {B b q:Nat} {x d:Nat→Rat}
theorem lH.tot(h:lH g){i:Nat}(hi:i<g.e.length):0<=nP (dU (ix g.e i)).rk/\nP (dU (ix g.e i)).rk<=2880:=by refine⟨DC (h.ed i hi).nn.rk,?_⟩;have h1:=VB (h.ed i hi).rk;have h2:((dQ (dU (ix g.e i)).rk:Nat):Rat)<=((48:Nat):Rat):=bw.mpr (h.er i hi).1;grind
def lH.lay(h:lH g){i:Nat}(hi:i<g.e.length):BN (dU (ix g.e i))/\InE (kE g.e i) (dU (ix g.e i)):=Lr ((Oy h.z).e i hi)
def lH.ao8(h:lH g)(hx:∀i,i<g.e.length->0<=x i){i:Nat}(hi:i<g.e.length):aB (kE g.e i) (λc=>gq (aZ g) x (i,c))<=2880:=by obtain⟨h1,h2⟩:=h.lay hi;have e:(λc=>gq (aZ g) x (i,c))=tX (dU (ix g.e i)) (x i):=rfl;rw[e];exact cP (aa3 h1 h2 (hx i hi)) (h.tot hi).2
def lH.ajT(h:lH g)(hx:∀i,i<g.e.length->0<=x i){l:fK}(hl:l∈(aZ g).eY):0<=gq (aZ g) x l/\gq (aZ g) x l<=2880:=by have hk:=h.LZ;have hk:=hk.eY l hl;have h1:l.1<g.e.length:=hk.1;have h2:l.2<kE g.e l.1:=hk.2;clear hk;refine⟨Jm (h.nn h1) (hx _ h1) _,?_⟩;have h3:=Dp (f:=λc=>gq (aZ g) x (l.1,c)) (k:=l.2) (n:=kE g.e l.1) h2 λc _=>Jm (h.nn h1) (hx _ h1) c;exact cP h3 (h.ao8 hx h1)
def lH.ai9(h:lH g){d:Rat×List fK}(hd:d∈(aZ g).ds):qj 60 60 d.1/\d.2.length<=4/\∀l∈d.2,l∈(aZ g).eY:=by
 have hd':=hd;obtain⟨D,hD,rfl⟩:=cU.mp hd';obtain⟨j,hj,ej⟩:=aL hD;have e0:D=ix g.d j:=by grind[fD]
 subst e0;obtain⟨h1,-,h2⟩:=h.d j hj;exact⟨h2,by grind,λl hl=>cF.mpr ⟨_,hd,hl⟩⟩
def lH.awg(h:lH g)(hx:∀i,i<g.e.length->0<=x i)(j:Nat):gG g.e.length (aZ g) x j<=90000:=by
 have h1:aB g.e.length (λi=>aB ((aZ g).k i) λc=>if uN (aZ g) j i c then gq (aZ g) x (i,c)else 0)<=(g.e.length:Rat)*2880:=by
  have key:∀n,n<=g.e.length->aB n (λi=>aB ((aZ g).k i) λc=>if uN (aZ g) j i c then gq (aZ g) x (i,c)else 0)<=(n:Rat)*2880:=λn=>by
   induction n with
   |zero=>intro _;show(0:Rat)<=((0:Nat):Rat)*2880;simp
   |succ n ih=>
    intro hn
    have a:=ih jb
    have b:=h.ao8 hx (i:=n) jb
    have c:aB ((aZ g).k n) (λc=>if uN (aZ g) j n c then gq (aZ g) x (n,c)else 0)<=aB (kE g.e n) (λc=>gq (aZ g) x (n,c)):=oW λc _=>by have:0<=gq (aZ g) x (n,c):=Jm (h.nn (by omega:n<g.e.length)) (hx _ jb) c;grind
    have e:((n+1:Nat):Rat)=(n:Rat)+1:=gn _ _
    grind[aB]
  grind
 have h2:aK (aZ g).ds (dG (aZ g) x j)<=((3:Nat):Rat)*11580:=rP jj (λd hd=>by obtain⟨a1,a2,a3⟩:=h.ai9 hd;have b1:=acV (W:=d.1) (q:=gq (aZ g) x) (j:=j) d.2 0 λl hl=>(h.ajT hx (a3 l hl)).1;have b2:=rP (f:=gq (aZ g) x) (v:=2880) jj (l:=d.2) (k:=4) (λl hl=>(h.ajT hx (a3 l hl)).2) a2;grind[abY,dG]) (by show(g.d.map _).length<=3;rw[dc];exact h.d3)
 have h3:((g.e.length:Nat):Rat)<=((8:Nat):Rat):=bw.mpr h.n;grind[gG]
def lH.ao9(h:lH g){i:Nat}(hi:i<g.e.length)(y:Rat):opn (dU (ix g.e i)) y<=16:=by obtain⟨-,h1,h2,h3⟩:=h.er i hi;have a:=anT (dU (ix g.e i)) y;have b:=acW (e:=dU (ix g.e i)) (x:=y) λp hp=>(h3 p hp).2;omega
def awh{n:Nat}{e:fH}(h:ED 60 60 n e)(hb:EB n e)(hB:0<B)(h6:60∣B){y s:Rat}(hy:eX B y)(h0:0<=y)(hs:Ie e y=some s):∃u v:Rat,s=u/v/\0<u/\eX (B*BP 60 e y) u/\0<v/\eX (BP 60 e y) v/\v<=1000/\y+s<=nP e.rk:=by
 have hE:=Ip jj h h0;have hp:=cn hB hE;have hp1:=cn hB (rM jj h.rk.D h0);unfold Ie at hs;split at hs
 .next g hg=>
  cases hs;have ht:=VA h.nn.rk hg;have hl:=(wJ e y e.ps g).1;rcases AY e y e.ps g with e1|⟨p,hpp,d,h1,h2,h3⟩
  .rw[e1];exact⟨g,1,by grind,yM hg,(Ym hB h6 h.rk.D hy hg).dvd (aR _ _) hp,jj,⟨BP 60 e y,by have:=iI hE;have e2:(((BP 60 e y:Nat):Int):Rat)=((BP 60 e y:Nat):Rat):=rfl;grind⟩,jj,ht⟩
  .refine⟨d,_,h3,yM h1,(Ym hp1 (bL h6 (aR _ _)) (h.ps p hpp).D (XJ jj hB h6 h hy h0 p) h1).dvd ?_ hp,h2,(acw jj h h0 p).dvd (aR _ _) hE,O6 h.uq hb h0 hpp,by grind⟩;exact cK _ (aR _ _)
 grind
def ChS(B b:Nat)(e:fH)(y:Rat):Prop:=∃B' k,B∣B'/\0<B'/\B'<=2^(b+61*k)/\k+opn e y<=16/\eX B' y/\0<=y/\y<=100000
def ChS.next(h:lH g){i:Nat}(hi:i<g.e.length)(h6:60∣B){y s:Rat}(hy:ChS B b (dU (ix g.e i)) y)(hs:Ie (dU (ix g.e i)) y=some s):ChS B b (dU (ix g.e i)) (y+s):=by obtain⟨B',k,h1,h2,h3,h4,h5,h7,h8⟩:=hy;obtain⟨u,v,rfl,u0,uD,v0,vD,v1,ht⟩:=awh (h.ed i hi) (h.eb i hi) h2 (bL h6 h1) h5 h7 hs;obtain⟨p1,p2⟩:=h.cur hi h7;obtain⟨w,w0,w1,wD⟩:=VD (K:=1000) h2 p1 uD vD v0 v1;have hop:=AZ (h.nn hi) h7 hs;have hd:=div_pos u0 v0;have ht2:=(h.tot hi).2;have hw:w<=2^61:=av w1 (av (cw _ p2) jj);refine⟨B'*w,k+1,bL h1 (aR _ _),cn h2 w0,?_,jb,(h5.dvd (aR _ _) (cn h2 w0)).add wD,by grind,by grind⟩;have:=oK h3 hw;omega
def F7{b:Nat}{D:Nat}{v:Rat}(hD:0<D)(hb:D<=2^b)(h:eX D v)(h0: -100000<=v)(h1:v<=100000):lu (b+17) v:=by have e:((100000:Nat):Rat)=100000:=rfl;exact Vx (K:=100000) hD hb h jj jb jb
def ChS.ok(h:lH g){i:Nat}(hi:i<g.e.length)(h6:60∣B)(hb:b<=190000000){y:Rat}(hy:ChS B b (dU (ix g.e i)) y):∃D,BQ D/\EOk D (kE g.e i) (dU (ix g.e i))/\MOk D (dU (ix g.e i)) y/\ROk D (dU (ix g.e i)) y/\SOk (dU (ix g.e i)) y:=by
 obtain⟨B',k,h1,h2,h3,h4,h5,h7,h8⟩:=hy;obtain⟨p1,p2⟩:=h.cur hi h7;have h6':=bL h6 h1;have hpos:=cn h2 p1;have hle:=oK h3 p2;have hD:BQ (B'*BP 60 (dU (ix g.e i)) y):=aa2 hpos hle jb;have hv:y<=vQ:=by have a:=Rj (k:=100000) jj;grind
 have hE:=h.ed i hi;have hB:=h.eb i hi;have hN:=h.nn hi;have ht:=(h.tot hi).2;obtain⟨-,-,-,hps⟩:=h.er i hi;have hp1:=cn h2 (rM jj hE.rk.D h7);have hdl:B'*wK 60 (dU (ix g.e i)).rk y∣B'*BP 60 (dU (ix g.e i)) y:=cK _ (aR _ _);refine⟨_,hD,aix hD (bL h6' (aR _ _)) hE.uq hB,aiy jj h2 h6' hD (gR _) hE.uq hB h5 h7 hv,aiz jj h2 h6' hD (gR _) hE.uq hB h5 h7 hv,λs hs=>?_,λp hp s hs=>?_⟩
 .have a:=VA hN.rk hs;have c:=yM hs;exact(F7 h2 h3 (Ym h2 h6' hE.rk.D h5 hs) kd kd).sz jb
 .have a:=VA (hN.ps p hp) hs;have c:=yM hs;have d0:=nR hN h7 p;have t1:=VB (hE.ps p hp);have t2:((dQ p.2:Nat):Rat)<=((28:Nat):Rat):=bw.mpr (hps p hp).1;have e28:((28:Nat):Rat)=28:=rfl;have gD:=(Ym hp1 (bL h6' (aR _ _)) (hE.ps p hp).D (XJ jj h2 h6' hE h5 h7 p) hs).dvd hdl hpos;have z1:=F7 hpos hle gD kd kd;have r0:=Jl hN h7 p;have r1:=O6 hE.uq hB h7 hp;refine⟨z1.sz jb,?_⟩;by_cases e:su (dU (ix g.e i)) y p=0
  .grind[Sz.zero]
  .exact(z1.div (F7 p1 p2 ((acw jj hE h7 p).dvd (aR _ _) p1) kd kd) e).sz jb
def ChS.aj(h:lH g){i:Nat}(hi:i<g.e.length)(h6:60∣B){n:Nat}{z y:Rat}{o:Option Rat}(hN:VH (dU (ix g.e i)) n z y o)(hy:ChS B b (dU (ix g.e i)) y):∀w,o=some w->ChS B b (dU (ix g.e i)) w:=by
 induction hN with
 |no h=>simp
 |stop hs _=>intro w hw;cases hw;exact hy.next h hi h6 hs
 |go hs _ _ ih=>exact ih (hy.next h hi h6 hs)
def ajU(h:lH g){i:Nat}(hi:i<g.e.length)(hx:0<=x i):VH (dU (ix g.e i)) (kE g.e i) (x i) (x i) (nxE (dU (ix g.e i)) (kE g.e i) (x i))/\FX (dU (ix g.e i)) (kE g.e i) (x i) (mJ g x i):=by obtain⟨o,ho⟩:=ah2 (dU (ix g.e i)) (kE g.e i) (h.nn hi) (x i) _ (x i) hx jp;have e:=ajQ ho;refine⟨by grind,?_⟩;unfold mJ;rw[e];exact(ab3 (h.nn hi) ho hx λ_ _=>rfl).d3
end
def ajV{r:Nat}{l:List Rat}(h:∀v∈l,lu r v)(hr:r<=200000000):Sz (gq0 (Aj l)):=by
 rcases Vy l with⟨-,e⟩|⟨m,e,hm,-⟩
 .rw[e];exact Sz.zero
 .rw[e];exact(h m hm).sz hr
section
variable {g:gB} {B b q:Nat} {x d:Nat→Rat}
def lH.ch0(h:lH g)(hB0:0<B)(hb:B<=2^b)(hx:∀i,i<g.e.length->SmB B (x i)){i:Nat}(hi:i<g.e.length):ChS B b (dU (ix g.e i)) (x i):=
 ⟨B,0,gR _,hB0,jb,by have:=h.ao9 hi (x i);omega,(hx i hi).1,(hx i hi).2.1,(hx i hi).2.2⟩
def lH.ny(h:lH g)(hB0:0<B)(h6:60∣B)(hb:B<=2^b)(hx:∀i,i<g.e.length->SmB B (x i))(hdz:EM g.e.length q d){i:Nat}(hi:i<g.e.length)(hp:0<d i){y:Rat}(hy:nxE (dU (ix g.e i)) (kE g.e i) (x i)=some y):
  lu (b+993) y/\lu (b+993) (y-x i)/\afk B (b+1000+2*q) (b+2000+2*q) ((y-x i)/d i):=by
 obtain⟨h1,-⟩:=ajU h hi (hx i hi).2.1 (x:=x)
 rw[hy]at h1
 have hyx:=((ab3 (h.nn hi) h1 (hx i hi).2.1 λ_ _=>rfl).yes y rfl).1
 obtain⟨B',k,c1,c2,c3,c4,c5,c6,c7⟩:=ChS.aj h hi h6 h1 (h.ch0 hB0 hb hx hi) y rfl
 obtain⟨xD,x0,x1⟩:=hx i hi
 have c3:B'<=2^(b+976):=av c3 (yR jb)
 have hD:=c5.sub (xD.dvd c1 c2)
 have z1:=F7 c2 c3 c5 (by clear c3;grind) c7
 have z2:=F7 c2 c3 hD (by clear c3;grind) (by clear c3;grind)
 have z3:=hdz.rat hi
 refine⟨z1,z2,(z2.div z3 (by clear c3;grind)).mono jb,?_⟩
 obtain⟨Q,q1,q2,q3⟩:=hdz
 obtain⟨z,ez,-⟩:=q3 i hi
 obtain⟨w,w0,w1,wD⟩:=VD (K:=2^q) c2 q1 (hD.dvd (aR _ _) (cn c2 q1)) ⟨z,ez⟩ hp z3.le
 refine⟨B'*w,bL c1 (aR _ _),cn c2 w0,?_,wD⟩
 have:=oK c3 (av w1 (oK jp q2))
 exact av this (yR jb)
def lH.c_e(h:lH g)(hB0:0<B)(h6:60∣B)(hb:B<=2^b)(hx:∀i,i<g.e.length->SmB B (x i))(hdz:EM g.e.length q d){i:Nat}(hi:i<=g.e.length):∀v∈Bj (mJ g x) d i,afk B (b+1000+2*q) (b+2000+2*q) v:=λv hv=>by
 obtain⟨k,h1,h2,y,h3,rfl⟩:=(yh i).mp hv;unfold mJ at h3;cases ho:nxE (dU (ix g.e k)) (kE g.e k) (x k)with
 |none=>grind
 |some w=>
  rw[ho]at h3
  cases h3
  exact(h.ny hB0 h6 hb hx hdz jb h2 ho).2.2
def lH.ds(h:lH g){j:Nat}(hj:j<g.d.length):(dW g j,dL g j)∈(aZ g).ds:=by rw[<-OJ hj];grind[gy,yg]
def lH.c_d(h:lH g)(hB0:0<B)(h6:60∣B)(hb:B<=2^b)(hx:∀i,i<g.e.length->SmB B (x i))(hd:∀i,i<g.e.length->0<=d i)(hdz:EM g.e.length q d){j:Nat}(hj:j<g.d.length)(k:Nat):
  lu (b+425) (dW g j-aK ((dL g j).take k) (gq (aZ g) x))/\lu (430+2*q) (aK ((dL g j).take k) (gr (aZ g) x d))/\(0<aK ((dL g j).take k) (gr (aZ g) x d)->afk B (b+1000+2*q) (b+2000+2*q) ((dW g j-aK ((dL g j).take k) (gq (aZ g) x))/aK ((dL g j).take k) (gr (aZ g) x d))):=by
 have hx0:∀i,i<g.e.length->0<=x i:=λi hi=>(hx i hi).2.1
 obtain⟨p1,p2⟩:=h.gE hx0
 have heB:=YB
 obtain⟨w1,w2,w3⟩:=h.ai9 (h.ds hj)
 have hl:∀l∈(dL g j).take k,l∈(aZ g).eY:=λl hl=>w3 l (eo hl)
 have hk:((dL g j).take k).length<=4:=by grind
 generalize (dL g j).take k=t at hl hk
 have hln:∀l∈t,l.1<g.e.length:=λl hlt=>(h.LZ.eY l (hl l hlt)).1
 have hBE:=cn hB0 p1
 have awi:=oK hb p2
 have w1:qj 60 60 (dW g j):=w1
 have nD:eX (B*Xe.gE g x) (dW g j-aK t (gq (aZ g) x)):=by refine(w1.1.dvd (bL h6 (aR _ _)) hBE).sub (eX.sum λl hlt=>?_);have hi:=hln l hlt;exact(ais jj hB0 h6 (h.ed l.1 hi) (hx l.1 hi).1 (hx l.1 hi).2.1 l.2).dvd (cK _ (Vu x hi)) hBE
 have q0:0<=aK t (gq (aZ g) x):=nG λl hlt=>(h.ajT hx0 (hl l hlt)).1
 have q1:=rP (f:=gq (aZ g) x) (v:=2880) jj (l:=t) (k:=4) (λl hlt=>(h.ajT hx0 (hl l hlt)).2) hk
 have e4:((4:Nat):Rat)=4:=rfl
 have w2:=w1.2
 have zn:=F7 hBE awi nD kd kd
 have hdr:=λi (hi:i<g.e.length)=>hdz.rat hi
 obtain⟨Q,a1,a2,a3⟩:=hdz
 have hEQ:=cn p1 a1
 have apa:=oK p2 a2
 have dD:eX (Xe.gE g x*Q) (aK t (gr (aZ g) x d)):=eX.sum λl hlt=>by have hi:=hln l hlt;obtain⟨z,ez,-⟩:=a3 l.1 hi;exact eX.mul p1 a1 (h.slD hx0 hi l.2) ⟨z,ez⟩
 have hN:(0:Rat)<=((2^q:Nat):Rat):=bw.mpr (bh _)
 have hgr:∀l∈t,0<=gr (aZ g) x d l/\gr (aZ g) x d l<=1000001*((2^q:Nat):Rat):=λl hlt=>by have hi:=hln l hlt;have s1:=rE (h.nn hi) (hx0 _ hi) l.2;have s2:=Vm (h.ed l.1 hi).uq (h.eb l.1 hi) (hx0 _ hi) l.2;have s3:=hd l.1 hi;have s4:=(hdr l.1 hi).le;refine⟨cj s1 s3,?_⟩;have s5:=bp s2 s3;have s6:=dj s4 (show(0:Rat)<=1000001 by decide);show xX (dU (ix g.e l.1)) (x l.1) l.2*d l.1<=_;grind
 have r0:0<=aK t (gr (aZ g) x d):=nG λl hlt=>(hgr l hlt).1
 have r1:=rP (f:=gr (aZ g) x d) (v:=1000001*((2^q:Nat):Rat)) (cj jj hN) (l:=t) (k:=4) (λl hlt=>(hgr l hlt).2) hk
 have hK:((4000004*2^q:Nat):Rat)=((4:Nat):Rat)*(1000001*((2^q:Nat):Rat)):=by rw[fg,e4];have:((4000004:Nat):Rat)=4000004:=rfl;rw[this];grind
 rw[<-hK]at r1
 have hK2:4000004*2^q<=2^(22+q):=by rw[ec];exact br _ jj
 have zd:=(Vx hEQ apa dD hK2 (by have:(0:Rat)<=((4000004*2^q:Nat):Rat):=bw.mpr (bh _);grind) r1)
 have zd:lu (430+2*q) (aK t (gr (aZ g) x d)):=zd.mono jb
 refine⟨zn.mono jb,zd,λhpos=>⟨(zn.div zd kd).mono jb,?_⟩⟩
 obtain⟨w,v0,v1,vD⟩:=VD hB0 hEQ (nD.dvd (cK _ (aR _ _)) (cn hB0 hEQ)) dD hpos r1
 refine⟨B*w,aR _ _,cn hB0 v0,?_,vD⟩
 have:=oK hb (av v1 (oK hK2 apa))
 exact av this (yR jb)
def lH.c_p(h:lH g)(hB0:0<B)(h6:60∣B)(hb:B<=2^b)(hx:∀i,i<g.e.length->SmB B (x i))(hd:∀i,i<g.e.length->0<=d i)(hdz:EM g.e.length q d){D:Rat×List fK}(hD:D∈(aZ g).ds){k:Nat}:∀v∈qC D.1 (gq (aZ g) x) (gr (aZ g) x d) 0 0 (D.2.take k),afk B (b+1000+2*q) (b+2000+2*q) v:=λv hv=>by
 obtain⟨j,hj,ej⟩:=aL hD;have hj2:j<g.d.length:=by grind[yg]
 have e0:D=(dW g j,dL g j):=by rw[<-ej,<-OJ hj2];grind[fD]
 subst e0;obtain⟨k',h1,h2,h3⟩:=acX _ _ _ v hv;rw[gm]at h2 h3;rw[gm,List.take_take]at h2;rw[List.take_take]at h3;rw[h2];exact(h.c_d hB0 h6 hb hx hd hdz hj2 _).2.2 h3
def lH.nr(h:lH g)(hB0:0<B)(h6:60∣B)(hb:B<=2^b)(hb2:b<=190000000)(hx:∀i,i<g.e.length->SmB B (x i))(hd:∀i,i<g.e.length->0<=d i)(hdz:EM g.e.length q d)(hq:q<=1000000):
  NrN (B*Xe.gE g x) g x d/\∀v∈jQ g.e.length (aZ g) (mJ g x) x d,afk B (b+1000+2*q) (b+2000+2*q) v:=by
 have hx0:∀i,i<g.e.length->0<=x i:=λi hi=>(hx i hi).2.1
 obtain⟨p1,p2⟩:=h.gE hx0
 have heB:=YB
 have hall:∀v∈jQ g.e.length (aZ g) (mJ g x) x d,afk B (b+1000+2*q) (b+2000+2*q) v:=λv hv=>by
  rcases cg.mp hv with hv|hv
  .exact h.c_e hB0 h6 hb hx hdz jp v hv
  .obtain⟨D,hD,hv⟩:=cF.mp hv;rw[<-cB (l:=D.2)]at hv;exact h.c_p hB0 h6 hb hx hd hdz hD v hv
 refine⟨⟨h.mg hB0 h6 hb jb hx,λi hi=>⟨h.nn hi,hx0 i hi⟩,λi hi=>(hdz.rat hi).sz jb,λi hi _=>⟨ChS B b (dU (ix g.e i)),h.ch0 hB0 hb hx hi,λm hm=>ChS.ok h hi h6 hb2 hm,λm t hm ht=>hm.next h hi h6 ht⟩,λi hi hp y hy=>?_,λi hi=>?_,λj hj k hk=>?_,λj hj l hl=>?_⟩,hall⟩
 .obtain⟨z1,z2,z3⟩:=h.ny hB0 h6 hb hx hdz hi hp hy
  exact⟨z1.sz jb,z2.sz jb,z3.1.sz jb⟩
 .exact ajV (λv hv=>(h.c_e hB0 h6 hb hx hdz hi v hv).1) jb
 .obtain⟨z1,z2,z3⟩:=h.c_d hB0 h6 hb hx hd hdz hj k
  refine⟨ajV (r:=b+2000+2*q) (λv hv=>?_) jb,z1.sz jb,z2.sz jb,?_⟩
  .rcases cg.mp hv with hv|hv
   .rcases cg.mp hv with hv|hv
    .exact(h.c_e hB0 h6 hb hx hdz jp v hv).1
    .obtain⟨D,hD,hv⟩:=cF.mp hv
     rw[<-cB (l:=D.2)]at hv
     exact(h.c_p hB0 h6 hb hx hd hdz (eo hD) v hv).1
   .exact(h.c_p hB0 h6 hb hx hd hdz (h.ds hj) (k:=k) v hv).1
  .by_cases e:aK ((dL g j).take k) (gr (aZ g) x d)=0
   .grind[Sz.zero]
   .exact(z1.div z2 e).sz jb
 .obtain⟨-,-,w3⟩:=h.ai9 (h.ds hj)
  have hle:=w3 l hl
  have hi:=(h.LZ.eY l hle).1
  have s1:=rE (h.nn hi) (hx0 _ hi) l.2
  have s2:=Vm (h.ed l.1 hi).uq (h.eb l.1 hi) (hx0 _ hi) l.2
  obtain⟨q0,q1⟩:=h.ajT hx0 hle
  have e1:((1000001:Nat):Rat)=1000001:=rfl
  have zs:lu (eB+20) (xX (dU (ix g.e l.1)) (x l.1) l.2):=Vx (K:=1000001) p1 p2 (h.slD hx0 hi l.2) jj kd jb
  refine⟨?_,?_,?_⟩
  .have hBE:=cn hB0 p1
   exact(F7 hBE (oK hb p2) ((ais jj hB0 h6 (h.ed l.1 hi) (hx l.1 hi).1 (hx l.1 hi).2.1 l.2).dvd (cK _ (Vu x hi)) hBE) (by have:0<=tX (dU (ix g.e l.1)) (x l.1) l.2:=q0;grind) (by have:tX (dU (ix g.e l.1)) (x l.1) l.2<=2880:=q1;grind)).sz jb
  .unfold gs
   rw[ab rfl]
   exact zs.sz jb
  .exact(zs.mul (hdz.rat hi)).sz jb
end
def iv(s:Bool)(u:Nat):Int:=if s=true then-(u:Int)else(u:Int)
theorem zy(s:Bool)(u:Nat):(iv s u).natAbs=u:=by cases s<;>simp[iv]
def ajW(s:Bool){u:Nat}:iv s u=0↔u=0:=by cases s<;>simp[iv]
def ajX(s t:Bool)(u v:Nat):iv (false==(s==t)) (u*v)=iv s u*iv t v:=by cases s<;>cases t<;>simp[iv]<;>grind
def anU{s t:Bool}(h:s≠t)(u v:Nat):iv s (u+v)=iv s u-iv t v:=by cases s<;>cases t<;>simp_all [iv]<;>omega
def acY(s:Bool){u v:Nat}(h:v<=u):iv s (u-v)=iv s u-iv s v:=by cases s<;>simp[iv]<;>omega
def anV(s:Bool){u v:Nat}(h:¬v<=u):iv (!s) (v-u)=iv s u-iv s v:=by cases s<;>simp[iv]<;>omega
def asU{s t:Bool}{u v:Nat}{q:Int}(h:iv s u=q*iv t v)(hv:v≠0):iv (false==(s==t)) (u/v)=q:=by
 have ha:u=q.natAbs*v:=by have:=bB Int.natAbs h;rwa[zy,ft,zy]at this
 have hq:u/v=q.natAbs:=by rw[ha];exact Nat.mul_div_cancel _ jb
 rw[hq];have h2:iv (false==(s==t)) q.natAbs*(v:Int)=q*(v:Int):=by
  have e:(u:Int)=(q.natAbs:Int)*(v:Int):=by rw[ha,eC]
  cases s<;>cases t<;>simp[iv]at h⊢ <;>grind
 exact Int.eq_of_mul_eq_mul_right jb h2
def kvS(F:Nat->Nat->Rat)(P:List Nat)(f:Nat):Nat->Nat->Rat
 |0,k=>if k=f then 1 else 0
 |r+1,k=>if k=at0 P r then-F r f else kvS F P f r k
def kvF(F:Nat->Nat->Rat)(P:List Nat)(f:Nat):Nat->Rat:=kvS F P f P.length
def aa4{F:Nat->Nat->Rat}{P:List Nat}{f k:Nat}:∀r,(∀a,a<r->k≠at0 P a)->kvS F P f r k=if k=f then 1 else 0
 |0,_=>rfl
 |r+1,h=>by unfold kvS;rw[ae (h r jb)];exact aa4 r λa ha=>h a jb
def ajY{F:Nat->Nat->Rat}{P:List Nat}{f:Nat}(hlt:∀a b,b<a->a<P.length->at0 P b<at0 P a){a:Nat}:∀r,r<=P.length->a<r->kvS F P f r (at0 P a)=-F a f
 |0,_,h=>jb
 |r+1,hr,ha=>by
  unfold kvS;by_cases e:a=r
  .subst e;rw[ab rfl]
  .have:=hlt r a jb jb;rw[ae jb];exact ajY hlt r jb jb
def awj{F:Nat->Nat->Rat}{P:List Nat}{f:Nat}(hlt:∀a b,b<a->a<P.length->at0 P b<at0 P a)(hf:f∉P):kvF F P f f=1/\(∀a,a<P.length->kvF F P f (at0 P a)=-F a f)/\∀k,k∉P->k≠f->kvF F P f k=0:=by
 refine⟨?_,λa ha=>ajY hlt _ jp ha,λk hk hne=>?_⟩
 .have:=aa4 (F:=F) (P:=P) (f:=f) (k:=f) P.length λa ha e=>hf (by grind[iK]);rwa[ab rfl]at this
 .have:=aa4 (F:=F) (P:=P) (f:=f) (k:=k) P.length λa ha e=>hk (by grind[iK]);rwa[ae hne]at this
section
variable {n:Nat} {M:Nat→Nat→Rat} {l:List Nat}
def sub_one(M:Nat->Nat->Rat)(l:List Nat)(a b:Nat):nZ M l a b=1*(vS M l a b-if a=b then 1 else 0):=by unfold nZ;grind
def ajZ(hl:IG n M l):∃f,f<l.length/\f∉(ech l.length (nZ M l) l.length).2:=
 anz (JD _ _ _ _) (ae8 hl.nodup hl.lt hl.anC hl.ne hl.col _ 1 λa b _ _=>sub_one M l a b)
def anW(hM:H9 n M)(hl:IG n M l){f:Nat}(hf:f<l.length)(hfP:f∉(ech l.length (nZ M l) l.length).2):
  (∀j,j<n->ql l (kvF (ech l.length (nZ M l) l.length).1 (ech l.length (nZ M l) l.length).2 f) j=mv n M (ql l (kvF (ech l.length (nZ M l) l.length).1 (ech l.length (nZ M l) l.length).2 f)) j)/\∀i∈l,0<ql l (kvF (ech l.length (nZ M l) l.length).1 (ech l.length (nZ M l) l.length).2 f) i:=by
 have hE:=JD l.length l.length (nZ M l) l.length
 obtain⟨k1,k2,k3⟩:=awj (F:=(ech l.length (nZ M l) l.length).1) hE.lt hfP
 have hs:=anx hE hf hfP k1 k2 λk _ h1 h2=>k3 k h1 h2
 exact ae7 hM hl.nodup hl.lt hl.anC hl.min hf k1 (ae9 (s:=1) jj (λa b _ _=>sub_one M l a b) hs)
def ayf{m a:Nat}{F:Nat->Nat->Rat}{P:List Nat}{f:Nat}(hP:P.length<=m)(hf:f<m)(h:DR m m a F)(hl:l.length=m):EM n a (ql l (kvF F P f)):=by
 obtain⟨Q,h1,h2,h3⟩:=h;have key:∀r,r<=P.length->∀k,∃z:Int,kvS F P f r k=(z:Rat)/(Q:Rat)/\z.natAbs<=2^a:=λr=>by
  induction r with
  |zero=>
   intro _ k
   unfold kvS
   split
   .refine⟨Q,?_,jb⟩
    have:=iI h1
    have e:(((Q:Nat):Int):Rat)=(Q:Rat):=rfl
    grind
   .exact⟨0,by grind,bh _⟩
  |succ r ih=>
   intro hr k
   unfold kvS
   split
   .obtain⟨z,e,hz⟩:=h3 r f jb hf
    exact⟨-z,by grind,jb⟩
   .exact ih jb k
 refine⟨Q,h1,h2,λi _=>?_⟩;unfold ql;split
 .exact key _ jp _
 .exact⟨0,by grind,bh _⟩
def afl(hM:H9 n M)(hn:l.Nodup)(hl:∀i∈l,i<n)(hc:Vo n M l)(hno:∀S:Nat->Prop,(∃i,i<n/\S i)->(∀i,i<n->S i->i∈l)->¬Ins.Shut n M S)
  {B:Nat->Nat->Rat}{s:Nat->Rat}(hs:∀i,i<l.length->s i≠0) (hB:∀i j,i<l.length->j<l.length->B i j=s i*nZ M l i j) (z:Nat->Rat) (hz:∀i,i<l.length->aB l.length (λj=>B i j*z j)=0):∀j,j<l.length->z j=0:=by
 refine ajz hM hn hl hc hno λa ha=>?_
 have h:=hz a ha
 have e:aB l.length (λj=>B a j*z j)=s a*aB l.length (λj=>vS M l a j*z j-if j=a then z a else 0):=by rw[<-gJ];grind[Go.Proofs.Ins.aJ,Go.Proofs.Xe.nZ]
 rw[e,gI,jw ha]at h
 grind
def aj0{B:Nat->Nat->Rat}{s v c:Nat->Rat}(hs:∀i,i<l.length->s i≠0)(hB:∀i j,i<l.length->j<l.length->B i j=s i*nZ M l i j)(hBn:∀i,i<l.length->B i l.length=s i* -(c (at0 l i)))(hv:∀i,i<l.length->aB l.length (λj=>B i j*v j)=B i l.length):
  ∀a,a<l.length->v a=aB l.length (λb=>vS M l a b*v b)+c (at0 l a):=by
 intro a ha
 have h:=hv a ha
 have e:aB l.length (λj=>B a j*v j)=s a*aB l.length (λj=>vS M l a j*v j-if j=a then v a else 0):=by rw[<-gJ];grind[Go.Proofs.Ins.aJ,Go.Proofs.Xe.nZ]
 rw[e,hBn a ha,gI,jw ha]at h
 grind
def KF(n a:Nat)(W:Nat->Nat->Rat):Prop:=∀i j,i<n->j<=n->∃z:Int,W i j=(z:Rat)/\z.natAbs<=2^a
def KF.step{a k:Nat}{W:Nat->Nat->Rat}{p:Rat}(h:KF n a W)(hk:k<n)(hp:Fh p)(p0:p≠0)(hi:∀i j,i<n->j<=n->Fh (JF W k p i j)):KF n (2*a+1) (JF W k p):=λi j hin hj=>by
 obtain⟨z,ez⟩:=hi i j hin hj;refine⟨z,ez,?_⟩;have e2:(2:Nat)^(2*a+1)=2^a*2^a+2^a*2^a:=by rw[dx,Nat.two_mul a,ec];omega
 have h1:1<=2^a:=hJ;have h2:2^a<=2^a*2^a:=gd _ h1;unfold JF at ez;by_cases e:i=k
 .rw[ab e]at ez;obtain⟨y,ey,hy⟩:=h k j hk hj;rw[ey]at ez;have:=fh.mp ez;omega
 .rw[ae e]at ez;obtain⟨q,rfl⟩:=hp;obtain⟨y1,e1,hy1⟩:=h k k hk jb;obtain⟨y2,e3,hy2⟩:=h i j hin hj;obtain⟨y3,e4,hy3⟩:=h i k hin jb;obtain⟨y4,e5,hy4⟩:=h k j hk hj;rw[e1,e3,e4,e5]at ez;have e6:((y1*y2-y3*y4:Int):Rat)=((z*q:Int):Rat):=by grind
  have e7:=fh.mp e6;have hq:1<=q.natAbs:=by have:q≠0:=λe=>p0 (by simp_all);omega
  have k1:=cH hy1 hy2;have k2:=cH hy3 hy4;have k3:(z*q).natAbs<=(y1*y2).natAbs+(y3*y4).natAbs:=jb;rw[ft,ft,ft]at k3;have k4:z.natAbs<=z.natAbs*q.natAbs:=gd _ hq;omega
def awk{m a:Nat}{W:Nat->Nat->Rat}{p:Rat}(h:KF m a W)(hd:∀i,i<m->W i i=p)(p0:p≠0)(hm:0<m)(hl:l.length=m)(hnd:l.Nodup):EM n a (ql l λi=>W i m/W i i):=by
 obtain⟨q,eq,hq⟩:=h 0 0 hm jb;rw[hd 0 hm]at eq;have hq0:q≠0:=λe=>p0 (by simp_all);obtain⟨s,hs,es⟩:=Vt q;have hss:=aaZ hs;refine⟨q.natAbs,jb,hq,λi _=>?_⟩;by_cases hi:i∈l
 .obtain⟨k,hk,rfl⟩:=yQ hi;rw[Ez hnd _ hk];obtain⟨z,ez,hz⟩:=h k m jb jp;refine⟨s*z,?_,?_⟩
  .grind
  grind
 .rw[uy hi];exact⟨0,by grind,bh _⟩
def Bar.diag{W B:Nat->Nat->Rat}{p:Rat}(h:Bar n n B W p):∀i,i<n->W i i=p:=by obtain⟨X,-,h2,h3,-⟩:=h.ex;grind
end
def jg(g:gB)(i:Nat):Rat:=(ix g.e i).m.q
def meas(g:gB)(x:Nat->Rat)(t:Rat):Nat:=mu g.e.length (aZ g) x+if t=1 then 0 else 1
def uU(g:gB)(x:Nat->Rat)(t:Rat):Prop:=∃B b,60∣B/\0<B/\B<=2^b/\b+400000*meas g x t<=60000000/\(∀i,i<g.e.length->SmB B (x i))/\eX B t
theorem acZ{W:Rat}{q:fK->Rat}:∀(t:List fK) (Q:Rat),A8 W q Q t<=t.length
 |[],_=>jp
 |l::t,Q=>by have:=acZ (W:=W) (q:=q) t (Q+q l);unfold A8;rw[bO];split<;>omega
def ac0{g:GL}{q:fK->Rat}{k:Nat}:∀{l:List (Rat×List fK)},(∀d∈l,d.2.length<=k)->Qh g q l<=l.length*k
 |[],_=>bh _
 |d::l,h=>by have h1:=ac0 (g:=g) (q:=q) (l:=l) λe he=>h e (by simp[he]);have h2:=h d kc;grind[acZ,Qh,Nat.succ_mul]
def YE{f:Nat->Nat}{k:Nat}:∀n,(∀i,i<n->f i<=k)->Af n f<=n*k
 |0,_=>bh _
 |n+1,h=>by have h1:=YE n λi hi=>h i jb;grind[Af]
section
variable {g:gB} {x d:Nat→Rat} {t v:Rat} {q:Nat}
def lH.awl(h:lH g)(x:Nat->Rat):mu g.e.length (aZ g) x<=140:=by have h1:=YE (f:=λi=>opn ((aZ g).e i) (x i)) (k:=16) g.e.length λi hi=>h.ao9 hi (x i);have h2:=ac0 (g:=aZ g) (q:=gq (aZ g) x) (k:=4) (l:=(aZ g).ds) λd hd=>(h.ai9 hd).2.1;have h3:=h.n;have h4:=h.d3;grind[yg,mu]
def SA(h:lH g):uU g (λ_=>0) 0:=by have:=h.awl λ_=>0;refine⟨60,6,gR _,jj,jj,?_,λi _=>⟨eX.zero _,be,show(0:Rat)<=100000 by decide⟩,eX.zero _⟩;grind[meas]
def lH.awm(h:lH g){least:Bool}(hI:DL h.LZ (jg g) least x t){i:Nat}(hi:i<g.e.length):0<=x i/\x i<=100000:=by refine⟨hI.nn i hi,?_⟩;have h1:=hI.fix i hi;have h2:=h.awg hI.nn i;have h3:=(h.m i hi).2.2;have h4:=bp hI.t1 h3.1;have e:(vP h.LZ).G x i=gG g.e.length (aZ g) x i:=rfl;grind[jg]
def uU.nr(h:lH g)(hP:uU g x t)(hd:∀i,i<g.e.length->0<=d i)(hdz:EM g.e.length q d)(hq:q<=120000):∃D,NrN D g x d:=by obtain⟨B,b,h6,h0,hb,hb2,hx,-⟩:=hP;exact⟨_,(h.nr h0 h6 hb jb hx hd hdz jb).1⟩
def uU.ajt(h:lH g)(hP:uU g x t)(hd:∀i,i<g.e.length->0<=d i)(hdz:EM g.e.length q d)(hq:q<=120000)(hv:v∈jQ g.e.length (aZ g) (mJ g x) x d){least:Bool}{t':Rat}(ht:t'=t\/t'=t+v)(hI:DL h.LZ (jg g) least (bf x d v) t')(hm:meas g (bf x d v) t'<meas g x t):
  uU g (bf x d v) t'/\Sz v:=by
 obtain⟨B,b,h6,h0,hb,hb2,hx,htD⟩:=hP
 obtain⟨hZ,H,k1,k2,k3,k4⟩:=(h.nr h0 h6 hb jb hx hd hdz jb).2 v hv
 obtain⟨Q,q1,q2,q3⟩:=hdz
 have hBQ:=cn k2 q1
 refine⟨⟨H*Q,b+1000+2*q+q,bL h6 (bL k1 (aR _ _)),hBQ,oK k3 q2,jb,λi hi=>?_,?_⟩,hZ.sz jb⟩
 .obtain⟨z,ez,-⟩:=q3 i hi
  have hf:=h.awm hI hi
  exact⟨((hx i hi).1.dvd (bL k1 (aR _ _)) hBQ).add (eX.mul k2 q1 k4 ⟨z,ez⟩),hf.1,hf.2⟩
 .have e1:=htD.dvd (bL k1 (aR _ Q)) hBQ
  rcases ht with rfl|rfl
  .exact e1
  .exact e1.add (k4.dvd (aR _ _) hBQ)
def uU.last(h:lH g)(hP:uU g x t)(hdz:EM g.e.length q d)(hq:q<=120000)(ht:t≠1){least:Bool}(hI:DL h.LZ (jg g) least (bf x d (1-t)) 1)(hm:mu g.e.length (aZ g) (bf x d (1-t))<=mu g.e.length (aZ g) x):
  uU g (bf x d (1-t)) 1:=by
 obtain⟨B,b,h6,h0,hb,hb2,hx,htD⟩:=hP
 obtain⟨Q,q1,q2,q3⟩:=hdz
 have hBQ:=cn h0 q1
 have hone:eX B (1:Rat):=⟨B,by have:=iI h0;have e:(((B:Nat):Int):Rat)=((B:Nat):Rat):=rfl;grind⟩
 have hlt:meas g (bf x d (1-t)) 1<meas g x t:=by grind[meas]
 refine⟨B*Q,b+q,bL h6 (aR _ _),hBQ,oK hb q2,jb,λi hi=>?_,hone.dvd (aR _ _) hBQ⟩
 obtain⟨z,ez,-⟩:=q3 i hi
 have hf:=h.awm hI hi
 exact⟨((hx i hi).1.dvd (aR _ _) hBQ).add (eX.mul h0 q1 (hone.sub htD) ⟨z,ez⟩),hf.1,hf.2⟩
def uU.sz(hP:uU g x t)(h0:0<=t)(h1:t<=1):(∀i,i<g.e.length->Sz (x i))/\Sz t/\Sz (1-t):=by
 obtain⟨B,b,h6,hB,hb,hb2,hx,htD⟩:=hP;have hone:eX B (1:Rat):=⟨B,by have:=iI hB;have e:(((B:Nat):Int):Rat)=((B:Nat):Rat):=rfl;rw[e];grind⟩
 exact⟨λi hi=>(F7 hB hb (hx i hi).1 (by have:=(hx i hi).2.1;grind) (hx i hi).2.2).sz jb,(F7 hB hb htD kd kd).sz jb,(F7 hB hb (hone.sub htD) kd kd).sz jb⟩
def uU.awn(h:lH g)(hP:uU g x t)(hd:∀i,i<g.e.length->0<=d i)(hdz:EM g.e.length q d)(hq:q<=120000)(h0:0<=t)(h1:t<=1)(hv:v∈jQ g.e.length (aZ g) (mJ g x) x d\/v=1-t):Sz v/\∀i,i<g.e.length->Sz (d i)/\Sz (v*d i):=by
 obtain⟨B,b,h6,hB,hb,hb2,hx,htD⟩:=hP;have hone:eX B (1:Rat):=⟨B,by have:=iI hB;have e:(((B:Nat):Int):Rat)=((B:Nat):Rat):=rfl;grind⟩
 have hZ:lu (b+2000+2*q) v:=by
  rcases hv with hv|rfl
  .exact((h.nr hB h6 hb jb hx hd hdz jb).2 v hv).1
  .exact(F7 hB hb (hone.sub htD) kd kd).mono jb
 exact⟨hZ.sz jb,λi hi=>⟨(hdz.rat hi).sz jb,(hZ.mul (hdz.rat hi)).sz jb⟩⟩
def uU.mg(h:lH g)(hP:uU g x t):∃D,Vf D g x:=by obtain⟨B,b,h6,hB,hb,hb2,hx,-⟩:=hP;exact⟨_,h.mg hB h6 hb jb hx⟩
def uU.map(h:lH g)(hP:uU g x t):∃D,aaQ 60 D g x:=by obtain⟨B,b,h6,hB,hb,hb2,hx,-⟩:=hP;exact⟨_,h.map hB h6 hb jb hx⟩
def lH.mz(h:lH g)(hx:∀i,i<g.e.length->0<=x i):(∀j i,j<g.e.length->i<g.e.length->Sz (gM g.e.length (aZ g) x j i))/\(∀i,i<g.e.length->Sz (gM g.e.length (aZ g) x i i-1))/\∀i k,i<g.e.length->k<=g.e.length->Sz (aB k λj=>gM g.e.length (aZ g) x j i):=by
 obtain⟨p1,p2⟩:=h.gE hx;have hone:eX (Xe.gE g x) (1:Rat):=⟨Xe.gE g x,by have:=iI p1;have e:(((Xe.gE g x:Nat):Int):Rat)=((Xe.gE g x:Nat):Rat):=rfl;grind⟩
 refine⟨λj i hj hi=>?_,λi hi=>?_,λi k hi hk=>?_⟩
 .have:=h.m01 hx hj hi;exact(F7 p1 p2 (h.mD hx hi) kd kd).sz jj
 .have:=h.m01 hx hi hi;exact(F7 p1 p2 ((h.mD hx hi).sub hone) kd kd).sz jj
 .have key:∀k,k<=g.e.length->0<=aB k (λj=>gM g.e.length (aZ g) x j i)/\aB k (λj=>gM g.e.length (aZ g) x j i)<=(k:Rat):=λk=>by
   induction k with
   |zero=>intro _;exact⟨be,be⟩
   |succ k ih=>
    intro hk
    have a:=ih jb
    have b:=h.m01 hx (j:=k) jb hi
    have e:((k+1:Nat):Rat)=(k:Rat)+1:=gn _ _
    grind[aB]
  have hk8:((k:Nat):Rat)<=((8:Nat):Rat):=bw.mpr (by have:=h.n;omega);have e8:((8:Nat):Rat)=8:=rfl;have:=key k hk;exact(F7 p1 p2 (aaU λj _=>h.mD hx hi) kd kd).sz jj
end
def uU.mar{g:gB}{x:Nat->Rat}{t:Rat}(h:lH g)(hP:uU g x t):∃D,anw 60 D g x:=by obtain⟨B,b,h6,hB,hb,hb2,hx,-⟩:=hP;have h1:=h.mg hB h6 hb jb hx;exact⟨_,h.map hB h6 hb jb hx,h1.r,h1.s⟩
def SmV(g:gB)(x:Nat->Rat):Prop:=∃B b,60∣B/\0<B/\B<=2^b/\b<=199000000/\∀i,i<g.e.length->SmB B (x i)
def SmV.mar{g:gB}{x:Nat->Rat}(h:lH g)(hP:SmV g x):∃D,anw 60 D g x:=by obtain⟨B,b,h6,hB,hb,hb2,hx⟩:=hP;have h1:=h.mg hB h6 hb hb2 hx;exact⟨_,h.map hB h6 hb hb2 hx,h1.r,h1.s⟩
section
variable {g:gB} {c x y z:Nat→Rat} {ex:Nat→Int}
end
noncomputable def asV(g:gB)(i:Nat):Bool:=decide (0<(ix g.e i).m.q)
set_option maxRecDepth 10000 in
def aj1{σ:St}(hW:WF σ){sb:Nat}{g:gB}(hs:DI (Lt σ.aj) σ.h sb g)(hn:g.e.length<=1000)(hm:∀i,i<g.e.length->(ix g.e i).m.fits 1000000):
  aC EN 95 [.c (.ptr sb 0)] σ λr σ'=>(∃b,r=.c (.sl b 0 g.e.length (.ex g.e.length))/\σ'.h b=some ⟨IJ g.e.length (asV g),none⟩/\σ.aj<=b/\b<σ'.aj)/\Fr σ σ':=by
 refine aO (jU.o _ _) jU.h ?_
 unfold jU
 dsimp only
 obtain⟨⟨ev,gv,lv,bv,hsb,hg,⟨R,P,hL1,hL2⟩,hB⟩,hsl⟩:=hs
 have hlk:=hL1.kn
 have hll:=hL1.len
 have X5:=hg.e.len
 have hek:=hg.e.kn
 have hsl:sb<σ.aj:=hsl
 have hFr:=Fr.refl hW
 simp(disch:=try exact jz) only[go_sem,z3,ak hsb,hll,hlk,X5,hek]
 refine aF (λq tm σ'=>∃i,q=g.e.length-i/\i<=g.e.length/\Tr.ah tm 3=.c (.sl σ.aj 0 g.e.length (.ex g.e.length))/\Tr.ah tm 16=.c ev/\Tr.ah tm 17=.c (.int .i64 (.ofNat g.e.length))/\Tr.ah tm 18=.c (.int .i64 (.ofNat i))
   /\σ'.h σ.aj=some ⟨ones g.e.length (λk=>.bool (if k<i then asV g k else false)),none⟩/\Fr σ σ'/\σ.aj+1<=σ'.aj) g.e.length ?_ ?_
 .refine⟨0,jb,jb,?_⟩
  simp(disch:=try exact jz) only[go_sem,z3,am]
  exact⟨bB (λl=>some (Bk.mk l none)) (bH λk _=>by rfl),fr,jb⟩
 .rintro q tm σ' ⟨i,rfl,hi,t3,t16,t17,oL,q3,hf,hnx⟩
  have hle:=hf.le
  have jv:=Fr.refl hf.wf
  simp(disch:=try exact jz) only[go_sem,z3,t3,t16,t17,oL,aG]
  refine aH (λhlt=>?_) (λhlt=>?_)
  .obtain⟨b5,o5,c5,rfl,C1,A1,bZ,-,hC,hA1⟩:=hg.e.at hlt
   have bZ:=hf.ld hW bZ
   have U4:=aY.kn hC
   have hAk:=hA1.kn
   have hw:=oZ (hm i hlt)
   simp(disch:=try exact jz) only[go_sem,z3,t3,t16,t17,oL,bZ,U4,hAk,q3,aI q3]
   refine⟨g.e.length-(i+1),jb,i+1,rfl,jb,rfl,bB (λl=>some (Bk.mk l none)) (bH λk hk=>?_),fr,jb⟩
   unfold aN
   by_cases e:k=i
   .rw[ab e,ab jb,e];rfl
   grind
  .have:i=g.e.length:=jb
   subst this
   simp(disch:=try exact jz) only[go_sem,z3,t3]
   refine⟨⟨_,rfl,?_,jb,jb⟩,hf⟩
   rw[q3]
   exact bB (λl=>some (Bk.mk l none)) (bH λk hk=>by grind)
end Go.Proofs.Xe
