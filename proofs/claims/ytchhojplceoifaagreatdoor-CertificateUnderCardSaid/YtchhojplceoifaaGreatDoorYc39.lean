import Derived.Test.YtchhojplceoifaaGreatDoorYc38
set_option linter.all false
set_option maxHeartbeats 8000000
namespace Go.Proofs.Xe
open Go.RowKit Go.Proofs.Ins
def VL{l:gQ}:∀{m g:Rat},P7 l->mG l m=some g->m+g<=nT l:=by
 induction l with
 |nil=>intro m g _ h;cases h
 |cons t l ih=>
  intro m g hn h
  have h1:=DN (l:=l) λu hu=>hn u (by simp[hu])
  unfold mG at h
  show m+g<=aW t+nT l
  split at h
  .grind
  .have:=ih (λu hu=>hn u (by simp[hu])) h;grind
def aj1{l:gQ}:∀{m:Rat},P7 l->kC l m<=nT l:=by
 induction l with
 |nil=>intro m _;rfl
 |cons t l ih=>
  intro m hn
  have h1:=DN (l:=l) λu hu=>hn u (by simp[hu])
  have h2:=ih (m:=m-aW t) λu hu=>hn u (by simp[hu])
  grind[kC,nT]
def an3{l:gQ}(h:P7 l){m:Rat}(h0:0<=m):kC l m<=m:=by have h1:=Jr h bh h0;grind[ah2,DN]
def VN{A n:Nat}{U:Rat}:∀{l:gQ},yg (λq=>eX A q/\0<=q/\q<=U) n l->nT l<=(dQ l:Rat)*U
 |[],_=>by show(0:Rat)<=((0:Nat):Rat)*U;simp
 |t::l,h=>by have h1:=VN (l:=l) λu hu=>h u (by simp[hu]);have h2:=Yr (h t kc);show aW t+nT l<=((t.length+dQ l:Nat):Rat)*U;grind
def abg{n:Nat}{e:fJ}(hN:BU e)(hI:InE n e){x:Rat}(hx:0<=x):aB n (ug e x)<=nT e.rk:=by
 rw[UR hN hI hx];have h1:=aj1 (m:=x) hN.rk;have h2:0<=aK e.ps (λp=>kY e x p-kC p.2 (kY e x p)):=nH λp hp=>by have:=an3 (hN.ps p hp) (nU hN hx p);grind
 have h3:0<=rsv e x:=nH λp hp=>UK (hN.ps p hp) _ (nU hN hx p);grind
def ac4{W:Rat}{q:fM->Rat}{j:Nat}:∀(t:List fM) (Q:Rat),(∀l∈t,0<=q l)->nZ W q Q t j<=aK t q
 |[],_,_=>bh
 |l::t,Q,h=>by
  have h1:=ac4 t (Q+q l) (W:=W) (j:=j) λu hu=>h u (by simp[hu]);have h2:=h l kc;have h3:nI (Q+q l-W)-nI (Q-W)<=q l:=by unfold nI;split<;>split<;>grind
  show(if l.1=j then _ else 0)+nZ W q (Q+q l) t j<=q l+aK t q;split<;>grind
def an4(e:fJ)(x:Rat):opn e x<=e.rk.length+Og e x e.ps:=by unfold opn;omega
def ac5{e:fJ}{x:Rat}{k:Nat}:∀{l:List (List Nat×gQ)},(∀p∈l,p.2.length<=k)->Og e x l<=l.length*k
 |[],_=>bj _
 |p::l,h=>by have h1:=ac5 (e:=e) (x:=x) (l:=l) λq hq=>h q (by simp[hq]);grind[Og,Nat.succ_mul]
def VO{A C K:Nat}{a b:Rat}(hA:0<A)(hC:0<C)(ha:eX (A*C) a)(hb:eX C b)(h0:0<b)(hk:b<=(K:Rat)):∃s,0<s/\s<=K*C/\eX (A*s) (a/b):=by
 obtain⟨e,hs⟩:=U6 hC hb h0;generalize nuA C b=s at*;refine⟨s,hs,?_,?_⟩
 .refine O9 ?_;have hp:=Pg hC;have h1:=br hk (et hp);rw[e,dj (iI hC)]at h1;grind
 .obtain⟨z,rfl⟩:=ha;refine⟨z,?_⟩;grind
def ac6{W:Rat}{q r:fM->Rat}:∀(t:List fM) (Q R:Rat),∀v∈qF W q r Q R t,∃k,k<t.length/\v=(W-(Q+aK (t.take (k+1)) q))/(R+aK (t.take (k+1)) r)/\0<R+aK (t.take (k+1)) r
 |[],_,_,v,hv=>by cases hv
 |l::t,Q,R,v,hv=>by
  unfold qF at hv;rcases cj.mp hv with hv|hv
  .split at hv
   .next hh=>
    have e:v=(W-(Q+q l))/(R+r l):=by grind
    have e1:aK ((l::t).take (0+1)) q=q l:=by grind[aK]
    have e2:aK ((l::t).take (0+1)) r=r l:=by grind[aK]
    exact⟨0,by simp,by grind,by grind⟩
   grind
  .obtain⟨k,h1,h2,h3⟩:=ac6 t _ _ v hv;have e1:∀f:fM->Rat,aK ((l::t).take (k+1+1)) f=f l+aK (t.take (k+1)) f:=λf=>rfl;refine⟨k+1,by grind,?_,?_⟩
   .grind
   grind
def Fa(n q:Nat)(d:Nat->Rat):Prop:=∃Q:Nat,0<Q/\Q<=2^q/\∀i,i<n->∃z:Int,d i=(z:Rat)/(Q:Rat)/\z.natAbs<=2^q
def Fa.rat{n q:Nat}{d:Nat->Rat}(h:Fa n q d){i:Nat}(hi:i<n):lH q (d i):=by obtain⟨Q,h1,h2,h3⟩:=h;obtain⟨z,e,hz⟩:=h3 i hi;exact⟨z,Q,h1,h2,hz,e⟩
def lH.le{q:Nat}{v:Rat}(h:lH q v):v<=((2^q:Nat):Rat):=by obtain⟨z,Q,h1,h2,h3,rfl⟩:=h;have hp:=Pg h1;have h4:((z:Int):Rat)<=(((2^q:Nat):Int):Rat):=gi.mpr jb;have h5:((1:Nat):Rat)<=(Q:Rat):=bz.mpr h1;have e1:((1:Nat):Rat)=1:=rfl;have h6:(0:Rat)<=((2^q:Nat):Rat):=bz.mpr (bj _);have h4:((z:Int):Rat)<=((2^q:Nat):Rat):=h4;generalize ((2^q:Nat):Rat)=N at*;refine gH.mp λhlt=>?_;have h7:=ec hlt hp;rw[dj (iI h1)]at h7;have h8:=dp h5 h6;grind
def afr(B b r:Nat)(v:Rat):Prop:=lH r v/\∃H,B∣H/\0<H/\H<=2^b/\eX H v
section
variable {g:gB} {B b q:Nat} {x d:Nat→Rat}
theorem kD.tot(h:kD g){i:Nat}(hi:i<g.e.length):0<=nT (dU (ix g.e i)).rk/\nT (dU (ix g.e i)).rk<=2880:=by refine⟨DN (h.ed i hi).nn.rk,?_⟩;have h1:=VN (h.ed i hi).rk;have h2:((dQ (dU (ix g.e i)).rk:Nat):Rat)<=((48:Nat):Rat):=bz.mpr (h.er i hi).1;grind
def kD.lay(h:kD g){i:Nat}(hi:i<g.e.length):BU (dU (ix g.e i))/\InE (kE g.e i) (dU (ix g.e i)):=Lu ((OC h.z).e i hi)
def kD.apo(h:kD g)(hx:∀i,i<g.e.length->0<=x i){i:Nat}(hi:i<g.e.length):aB (kE g.e i) (λc=>gq (aY g) x (i,c))<=2880:=by obtain⟨h1,h2⟩:=h.lay hi;have e:(λc=>gq (aY g) x (i,c))=ug (dU (ix g.e i)) (x i):=rfl;rw[e];exact cQ (abg h1 h2 (hx i hi)) (h.tot hi).2
def kD.aj2(h:kD g)(hx:∀i,i<g.e.length->0<=x i){l:fM}(hl:l∈(aY g).fA):0<=gq (aY g) x l/\gq (aY g) x l<=2880:=by have hk:=h.L8;have hk:=hk.fA l hl;have h1:l.1<g.e.length:=hk.1;have h2:l.2<kE g.e l.1:=hk.2;clear hk;refine⟨Jt (h.nn h1) (hx _ h1) _,?_⟩;have h3:=Dz (f:=λc=>gq (aY g) x (l.1,c)) (k:=l.2) (n:=kE g.e l.1) h2 λc _=>Jt (h.nn h1) (hx _ h1) c;exact cQ h3 (h.apo hx h1)
def kD.ajh(h:kD g){d:Rat×List fM}(hd:d∈(aY g).ds):ni 60 60 d.1/\d.2.length<=4/\∀l∈d.2,l∈(aY g).fA:=by
 have hd':=hd;obtain⟨D,hD,rfl⟩:=cV.mp hd';obtain⟨j,hj,ej⟩:=aM hD;have e0:D=ix g.d j:=by grind[fE]
 subst e0;obtain⟨h1,-,h2⟩:=h.d j hj;exact⟨h2,by grind,λl hl=>cF.mpr ⟨_,hd,hl⟩⟩
def kD.awv(h:kD g)(hx:∀i,i<g.e.length->0<=x i)(j:Nat):gG g.e.length (aY g) x j<=90000:=by
 have h1:aB g.e.length (λi=>aB ((aY g).k i) λc=>if uO (aY g) j i c then gq (aY g) x (i,c)else 0)<=(g.e.length:Rat)*2880:=by
  have key:∀n,n<=g.e.length->aB n (λi=>aB ((aY g).k i) λc=>if uO (aY g) j i c then gq (aY g) x (i,c)else 0)<=(n:Rat)*2880:=λn=>by
   induction n with
   |zero=>intro _;show(0:Rat)<=((0:Nat):Rat)*2880;simp
   |succ n ih=>
    intro hn
    have a:=ih jb
    have b:=h.apo hx (i:=n) jb
    have c:aB ((aY g).k n) (λc=>if uO (aY g) j n c then gq (aY g) x (n,c)else 0)<=aB (kE g.e n) (λc=>gq (aY g) x (n,c)):=pF λc _=>by have:0<=gq (aY g) x (n,c):=Jt (h.nn (by omega:n<g.e.length)) (hx _ jb) c;grind
    have e:((n+1:Nat):Rat)=(n:Rat)+1:=gp _ _
    grind[aB]
  grind
 have h2:aK (aY g).ds (dG (aY g) x j)<=((3:Nat):Rat)*11580:=rU jj (λd hd=>by obtain⟨a1,a2,a3⟩:=h.ajh hd;have b1:=ac4 (W:=d.1) (q:=gq (aY g) x) (j:=j) d.2 0 λl hl=>(h.aj2 hx (a3 l hl)).1;have b2:=rU (f:=gq (aY g) x) (v:=2880) jj (l:=d.2) (k:=4) (λl hl=>(h.aj2 hx (a3 l hl)).2) a2;grind[ab9,dG]) (by show(g.d.map _).length<=3;rw[de];exact h.d3)
 have h3:((g.e.length:Nat):Rat)<=((8:Nat):Rat):=bz.mpr h.n;grind[gG]
def kD.apq(h:kD g){i:Nat}(hi:i<g.e.length)(y:Rat):opn (dU (ix g.e i)) y<=16:=by obtain⟨-,h1,h2,h3⟩:=h.er i hi;have a:=an4 (dU (ix g.e i)) y;have b:=ac5 (e:=dU (ix g.e i)) (x:=y) λp hp=>(h3 p hp).2;omega
def aww{n:Nat}{e:fJ}(h:ED 60 60 n e)(hb:EB n e)(hB:0<B)(h6:60∣B){y s:Rat}(hy:eX B y)(h0:0<=y)(hs:Il e y=some s):∃u v:Rat,s=u/v/\0<u/\eX (B*BZ 60 e y) u/\0<v/\eX (BZ 60 e y) v/\v<=1000/\y+s<=nT e.rk:=by
 have hE:=Iz jj h h0;have hp:=cn hB hE;have hp1:=cn hB (rP jj h.rk.D h0);unfold Il at hs;split at hs
 .next g hg=>
  cases hs;have ht:=VL h.nn.rk hg;have hl:=(wK e y e.ps g).1;rcases Bd e y e.ps g with e1|⟨p,hpp,d,h1,h2,h3⟩
  .rw[e1];exact⟨g,1,by grind,yO hg,(Yv hB h6 h.rk.D hy hg).dvd (aR _ _) hp,jj,⟨BZ 60 e y,by have:=iI hE;have e2:(((BZ 60 e y:Nat):Int):Rat)=((BZ 60 e y:Nat):Rat):=rfl;grind⟩,jj,ht⟩
  .refine⟨d,_,h3,yO h1,(Yv hp1 (bO h6 (aR _ _)) (h.ps p hpp).D (XU jj hB h6 h hy h0 p) h1).dvd ?_ hp,h2,(acH jj h h0 p).dvd (aR _ _) hE,Pj h.uq hb h0 hpp,by grind⟩;exact cL _ (aR _ _)
 grind
def ChS(B b:Nat)(e:fJ)(y:Rat):Prop:=∃B' k,B∣B'/\0<B'/\B'<=2^(b+61*k)/\k+opn e y<=16/\eX B' y/\0<=y/\y<=100000
def ChS.next(h:kD g){i:Nat}(hi:i<g.e.length)(h6:60∣B){y s:Rat}(hy:ChS B b (dU (ix g.e i)) y)(hs:Il (dU (ix g.e i)) y=some s):ChS B b (dU (ix g.e i)) (y+s):=by obtain⟨B',k,h1,h2,h3,h4,h5,h7,h8⟩:=hy;obtain⟨u,v,rfl,u0,uD,v0,vD,v1,ht⟩:=aww (h.ed i hi) (h.eb i hi) h2 (bO h6 h1) h5 h7 hs;obtain⟨p1,p2⟩:=h.cur hi h7;obtain⟨w,w0,w1,wD⟩:=VO (K:=1000) h2 p1 uD vD v0 v1;have hop:=Bf (h.nn hi) h7 hs;have hd:=div_pos u0 v0;have ht2:=(h.tot hi).2;have hw:w<=2^61:=aw w1 (aw (cA _ p2) jj);refine⟨B'*w,k+1,bO h1 (aR _ _),cn h2 w0,?_,jb,(h5.dvd (aR _ _) (cn h2 w0)).add wD,by grind,by grind⟩;have:=oO h3 hw;omega
def Gp{b:Nat}{D:Nat}{v:Rat}(hD:0<D)(hb:D<=2^b)(h:eX D v)(h0: -100000<=v)(h1:v<=100000):lH (b+17) v:=by have e:((100000:Nat):Rat)=100000:=rfl;exact VI (K:=100000) hD hb h jj jb jb
def ChS.ok(h:kD g){i:Nat}(hi:i<g.e.length)(h6:60∣B)(hb:b<=190000000){y:Rat}(hy:ChS B b (dU (ix g.e i)) y):∃D,Cb D/\EOk D (kE g.e i) (dU (ix g.e i))/\MOk D (dU (ix g.e i)) y/\ROk D (dU (ix g.e i)) y/\SOk (dU (ix g.e i)) y:=by
 obtain⟨B',k,h1,h2,h3,h4,h5,h7,h8⟩:=hy;obtain⟨p1,p2⟩:=h.cur hi h7;have h6':=bO h6 h1;have hpos:=cn h2 p1;have hle:=oO h3 p2;have hD:Cb (B'*BZ 60 (dU (ix g.e i)) y):=abf hpos hle jb;have hv:y<=vQ:=by have a:=Rx (k:=100000) jj;grind
 have hE:=h.ed i hi;have hB:=h.eb i hi;have hN:=h.nn hi;have ht:=(h.tot hi).2;obtain⟨-,-,-,hps⟩:=h.er i hi;have hp1:=cn h2 (rP jj hE.rk.D h7);have hdl:B'*wL 60 (dU (ix g.e i)).rk y∣B'*BZ 60 (dU (ix g.e i)) y:=cL _ (aR _ _);refine⟨_,hD,aiE hD (bO h6' (aR _ _)) hE.uq hB,aiF jj h2 h6' hD (gS _) hE.uq hB h5 h7 hv,aiG jj h2 h6' hD (gS _) hE.uq hB h5 h7 hv,λs hs=>?_,λp hp s hs=>?_⟩
 .have a:=VL hN.rk hs;have c:=yO hs;exact(Gp h2 h3 (Yv h2 h6' hE.rk.D h5 hs) kd kd).sz jb
 .have a:=VL (hN.ps p hp) hs;have c:=yO hs;have d0:=nU hN h7 p;have t1:=VN (hE.ps p hp);have t2:((dQ p.2:Nat):Rat)<=((28:Nat):Rat):=bz.mpr (hps p hp).1;have e28:((28:Nat):Rat)=28:=rfl;have gD:=(Yv hp1 (bO h6' (aR _ _)) (hE.ps p hp).D (XU jj h2 h6' hE h5 h7 p) hs).dvd hdl hpos;have z1:=Gp hpos hle gD kd kd;have r0:=Js hN h7 p;have r1:=Pj hE.uq hB h7 hp;refine⟨z1.sz jb,?_⟩;by_cases e:sF (dU (ix g.e i)) y p=0
  .grind[Sz.zero]
  .exact(z1.div (Gp p1 p2 ((acH jj hE h7 p).dvd (aR _ _) p1) kd kd) e).sz jb
def ChS.aj(h:kD g){i:Nat}(hi:i<g.e.length)(h6:60∣B){n:Nat}{z y:Rat}{o:Option Rat}(hN:VT (dU (ix g.e i)) n z y o)(hy:ChS B b (dU (ix g.e i)) y):∀w,o=some w->ChS B b (dU (ix g.e i)) w:=by
 induction hN with
 |no h=>simp
 |stop hs _=>intro w hw;cases hw;exact hy.next h hi h6 hs
 |go hs _ _ ih=>exact ih (hy.next h hi h6 hs)
def aj3(h:kD g){i:Nat}(hi:i<g.e.length)(hx:0<=x i):VT (dU (ix g.e i)) (kE g.e i) (x i) (x i) (nxE (dU (ix g.e i)) (kE g.e i) (x i))/\Gh (dU (ix g.e i)) (kE g.e i) (x i) (mJ g x i):=by obtain⟨o,ho⟩:=ah8 (dU (ix g.e i)) (kE g.e i) (h.nn hi) (x i) _ (x i) hx jp;have e:=ajZ ho;refine⟨by grind,?_⟩;unfold mJ;rw[e];exact(acg (h.nn hi) ho hx λ_ _=>rfl).d3
end
def aj6{r:Nat}{l:List Rat}(h:∀v∈l,lH r v)(hr:r<=200000000):Sz (gq0 (Ar l)):=by
 rcases VJ l with⟨-,e⟩|⟨m,e,hm,-⟩
 .rw[e];exact Sz.zero
 .rw[e];exact(h m hm).sz hr
section
variable {g:gB} {B b q:Nat} {x d:Nat→Rat}
def kD.ch0(h:kD g)(hB0:0<B)(hb:B<=2^b)(hx:∀i,i<g.e.length->SmB B (x i)){i:Nat}(hi:i<g.e.length):ChS B b (dU (ix g.e i)) (x i):=
 ⟨B,0,gS _,hB0,jb,by have:=h.apq hi (x i);omega,(hx i hi).1,(hx i hi).2.1,(hx i hi).2.2⟩
def kD.ny(h:kD g)(hB0:0<B)(h6:60∣B)(hb:B<=2^b)(hx:∀i,i<g.e.length->SmB B (x i))(hdz:Fa g.e.length q d){i:Nat}(hi:i<g.e.length)(hp:0<d i){y:Rat}(hy:nxE (dU (ix g.e i)) (kE g.e i) (x i)=some y):
  lH (b+993) y/\lH (b+993) (y-x i)/\afr B (b+1000+2*q) (b+2000+2*q) ((y-x i)/d i):=by
 obtain⟨h1,-⟩:=aj3 h hi (hx i hi).2.1 (x:=x)
 rw[hy]at h1
 have hyx:=((acg (h.nn hi) h1 (hx i hi).2.1 λ_ _=>rfl).yes y rfl).1
 obtain⟨B',k,c1,c2,c3,c4,c5,c6,c7⟩:=ChS.aj h hi h6 h1 (h.ch0 hB0 hb hx hi) y rfl
 obtain⟨xD,x0,x1⟩:=hx i hi
 have c3:B'<=2^(b+976):=aw c3 (yU jb)
 have hD:=c5.sub (xD.dvd c1 c2)
 have z1:=Gp c2 c3 c5 (by clear c3;grind) c7
 have z2:=Gp c2 c3 hD (by clear c3;grind) (by clear c3;grind)
 have z3:=hdz.rat hi
 refine⟨z1,z2,(z2.div z3 (by clear c3;grind)).mono jb,?_⟩
 obtain⟨Q,q1,q2,q3⟩:=hdz
 obtain⟨z,ez,-⟩:=q3 i hi
 obtain⟨w,w0,w1,wD⟩:=VO (K:=2^q) c2 q1 (hD.dvd (aR _ _) (cn c2 q1)) ⟨z,ez⟩ hp z3.le
 refine⟨B'*w,bO c1 (aR _ _),cn c2 w0,?_,wD⟩
 have:=oO c3 (aw w1 (oO jp q2))
 exact aw this (yU jb)
def kD.c_e(h:kD g)(hB0:0<B)(h6:60∣B)(hb:B<=2^b)(hx:∀i,i<g.e.length->SmB B (x i))(hdz:Fa g.e.length q d){i:Nat}(hi:i<=g.e.length):∀v∈Bz (mJ g x) d i,afr B (b+1000+2*q) (b+2000+2*q) v:=λv hv=>by
 obtain⟨k,h1,h2,y,h3,rfl⟩:=(yu i).mp hv;unfold mJ at h3;cases ho:nxE (dU (ix g.e k)) (kE g.e k) (x k)with
 |none=>grind
 |some w=>
  rw[ho]at h3
  cases h3
  exact(h.ny hB0 h6 hb hx hdz jb h2 ho).2.2
def kD.ds(h:kD g){j:Nat}(hj:j<g.d.length):(dW g j,dL g j)∈(aY g).ds:=by rw[<-OQ hj];grind[gy,yt]
def kD.c_d(h:kD g)(hB0:0<B)(h6:60∣B)(hb:B<=2^b)(hx:∀i,i<g.e.length->SmB B (x i))(hd:∀i,i<g.e.length->0<=d i)(hdz:Fa g.e.length q d){j:Nat}(hj:j<g.d.length)(k:Nat):
  lH (b+425) (dW g j-aK ((dL g j).take k) (gq (aY g) x))/\lH (430+2*q) (aK ((dL g j).take k) (gr (aY g) x d))/\(0<aK ((dL g j).take k) (gr (aY g) x d)->afr B (b+1000+2*q) (b+2000+2*q) ((dW g j-aK ((dL g j).take k) (gq (aY g) x))/aK ((dL g j).take k) (gr (aY g) x d))):=by
 have hx0:∀i,i<g.e.length->0<=x i:=λi hi=>(hx i hi).2.1
 obtain⟨p1,p2⟩:=h.gE hx0
 have heB:=YJ
 obtain⟨w1,w2,w3⟩:=h.ajh (h.ds hj)
 have hl:∀l∈(dL g j).take k,l∈(aY g).fA:=λl hl=>w3 l (eA hl)
 have hk:((dL g j).take k).length<=4:=by grind
 generalize (dL g j).take k=t at hl hk
 have hln:∀l∈t,l.1<g.e.length:=λl hlt=>(h.L8.fA l (hl l hlt)).1
 have hBE:=cn hB0 p1
 have awx:=oO hb p2
 have w1:ni 60 60 (dW g j):=w1
 have nD:eX (B*Xe.gE g x) (dW g j-aK t (gq (aY g) x)):=by refine(w1.1.dvd (bO h6 (aR _ _)) hBE).sub (eX.sum λl hlt=>?_);have hi:=hln l hlt;exact(aiz jj hB0 h6 (h.ed l.1 hi) (hx l.1 hi).1 (hx l.1 hi).2.1 l.2).dvd (cL _ (VG x hi)) hBE
 have q0:0<=aK t (gq (aY g) x):=nH λl hlt=>(h.aj2 hx0 (hl l hlt)).1
 have q1:=rU (f:=gq (aY g) x) (v:=2880) jj (l:=t) (k:=4) (λl hlt=>(h.aj2 hx0 (hl l hlt)).2) hk
 have e4:((4:Nat):Rat)=4:=rfl
 have w2:=w1.2
 have zn:=Gp hBE awx nD kd kd
 have hdr:=λi (hi:i<g.e.length)=>hdz.rat hi
 obtain⟨Q,a1,a2,a3⟩:=hdz
 have hEQ:=cn p1 a1
 have apr:=oO p2 a2
 have dD:eX (Xe.gE g x*Q) (aK t (gr (aY g) x d)):=eX.sum λl hlt=>by have hi:=hln l hlt;obtain⟨z,ez,-⟩:=a3 l.1 hi;exact eX.mul p1 a1 (h.slD hx0 hi l.2) ⟨z,ez⟩
 have hN:(0:Rat)<=((2^q:Nat):Rat):=bz.mpr (bj _)
 have hgr:∀l∈t,0<=gr (aY g) x d l/\gr (aY g) x d l<=1000001*((2^q:Nat):Rat):=λl hlt=>by have hi:=hln l hlt;have s1:=rH (h.nn hi) (hx0 _ hi) l.2;have s2:=Vx (h.ed l.1 hi).uq (h.eb l.1 hi) (hx0 _ hi) l.2;have s3:=hd l.1 hi;have s4:=(hdr l.1 hi).le;refine⟨ck s1 s3,?_⟩;have s5:=br s2 s3;have s6:=dp s4 (show(0:Rat)<=1000001 by decide);show x9 (dU (ix g.e l.1)) (x l.1) l.2*d l.1<=_;grind
 have r0:0<=aK t (gr (aY g) x d):=nH λl hlt=>(hgr l hlt).1
 have r1:=rU (f:=gr (aY g) x d) (v:=1000001*((2^q:Nat):Rat)) (ck jj hN) (l:=t) (k:=4) (λl hlt=>(hgr l hlt).2) hk
 have hK:((4000004*2^q:Nat):Rat)=((4:Nat):Rat)*(1000001*((2^q:Nat):Rat)):=by rw[fh,e4];have:((4000004:Nat):Rat)=4000004:=rfl;rw[this];grind
 rw[<-hK]at r1
 have hK2:4000004*2^q<=2^(22+q):=by rw[eg];exact bw _ jj
 have zd:=(VI hEQ apr dD hK2 (by have:(0:Rat)<=((4000004*2^q:Nat):Rat):=bz.mpr (bj _);grind) r1)
 have zd:lH (430+2*q) (aK t (gr (aY g) x d)):=zd.mono jb
 refine⟨zn.mono jb,zd,λhpos=>⟨(zn.div zd kd).mono jb,?_⟩⟩
 obtain⟨w,v0,v1,vD⟩:=VO hB0 hEQ (nD.dvd (cL _ (aR _ _)) (cn hB0 hEQ)) dD hpos r1
 refine⟨B*w,aR _ _,cn hB0 v0,?_,vD⟩
 have:=oO hb (aw v1 (oO hK2 apr))
 exact aw this (yU jb)
def kD.c_p(h:kD g)(hB0:0<B)(h6:60∣B)(hb:B<=2^b)(hx:∀i,i<g.e.length->SmB B (x i))(hd:∀i,i<g.e.length->0<=d i)(hdz:Fa g.e.length q d){D:Rat×List fM}(hD:D∈(aY g).ds){k:Nat}:∀v∈qF D.1 (gq (aY g) x) (gr (aY g) x d) 0 0 (D.2.take k),afr B (b+1000+2*q) (b+2000+2*q) v:=λv hv=>by
 obtain⟨j,hj,ej⟩:=aM hD;have hj2:j<g.d.length:=by grind[yt]
 have e0:D=(dW g j,dL g j):=by rw[<-ej,<-OQ hj2];grind[fE]
 subst e0;obtain⟨k',h1,h2,h3⟩:=ac6 _ _ _ v hv;rw[gn]at h2 h3;rw[gn,List.take_take]at h2;rw[List.take_take]at h3;rw[h2];exact(h.c_d hB0 h6 hb hx hd hdz hj2 _).2.2 h3
def kD.nr(h:kD g)(hB0:0<B)(h6:60∣B)(hb:B<=2^b)(hb2:b<=190000000)(hx:∀i,i<g.e.length->SmB B (x i))(hd:∀i,i<g.e.length->0<=d i)(hdz:Fa g.e.length q d)(hq:q<=1000000):
  NrN (B*Xe.gE g x) g x d/\∀v∈jQ g.e.length (aY g) (mJ g x) x d,afr B (b+1000+2*q) (b+2000+2*q) v:=by
 have hx0:∀i,i<g.e.length->0<=x i:=λi hi=>(hx i hi).2.1
 obtain⟨p1,p2⟩:=h.gE hx0
 have heB:=YJ
 have hall:∀v∈jQ g.e.length (aY g) (mJ g x) x d,afr B (b+1000+2*q) (b+2000+2*q) v:=λv hv=>by
  rcases cj.mp hv with hv|hv
  .exact h.c_e hB0 h6 hb hx hdz jp v hv
  .obtain⟨D,hD,hv⟩:=cF.mp hv;rw[<-cC (l:=D.2)]at hv;exact h.c_p hB0 h6 hb hx hd hdz hD v hv
 refine⟨⟨h.mg hB0 h6 hb jb hx,λi hi=>⟨h.nn hi,hx0 i hi⟩,λi hi=>(hdz.rat hi).sz jb,λi hi _=>⟨ChS B b (dU (ix g.e i)),h.ch0 hB0 hb hx hi,λm hm=>ChS.ok h hi h6 hb2 hm,λm t hm ht=>hm.next h hi h6 ht⟩,λi hi hp y hy=>?_,λi hi=>?_,λj hj k hk=>?_,λj hj l hl=>?_⟩,hall⟩
 .obtain⟨z1,z2,z3⟩:=h.ny hB0 h6 hb hx hdz hi hp hy
  exact⟨z1.sz jb,z2.sz jb,z3.1.sz jb⟩
 .exact aj6 (λv hv=>(h.c_e hB0 h6 hb hx hdz hi v hv).1) jb
 .obtain⟨z1,z2,z3⟩:=h.c_d hB0 h6 hb hx hd hdz hj k
  refine⟨aj6 (r:=b+2000+2*q) (λv hv=>?_) jb,z1.sz jb,z2.sz jb,?_⟩
  .rcases cj.mp hv with hv|hv
   .rcases cj.mp hv with hv|hv
    .exact(h.c_e hB0 h6 hb hx hdz jp v hv).1
    .obtain⟨D,hD,hv⟩:=cF.mp hv
     rw[<-cC (l:=D.2)]at hv
     exact(h.c_p hB0 h6 hb hx hd hdz (eA hD) v hv).1
   .exact(h.c_p hB0 h6 hb hx hd hdz (h.ds hj) (k:=k) v hv).1
  .by_cases e:aK ((dL g j).take k) (gr (aY g) x d)=0
   .grind[Sz.zero]
   .exact(z1.div z2 e).sz jb
 .obtain⟨-,-,w3⟩:=h.ajh (h.ds hj)
  have hle:=w3 l hl
  have hi:=(h.L8.fA l hle).1
  have s1:=rH (h.nn hi) (hx0 _ hi) l.2
  have s2:=Vx (h.ed l.1 hi).uq (h.eb l.1 hi) (hx0 _ hi) l.2
  obtain⟨q0,q1⟩:=h.aj2 hx0 hle
  have e1:((1000001:Nat):Rat)=1000001:=rfl
  have zs:lH (eB+20) (x9 (dU (ix g.e l.1)) (x l.1) l.2):=VI (K:=1000001) p1 p2 (h.slD hx0 hi l.2) jj kd jb
  refine⟨?_,?_,?_⟩
  .have hBE:=cn hB0 p1
   exact(Gp hBE (oO hb p2) ((aiz jj hB0 h6 (h.ed l.1 hi) (hx l.1 hi).1 (hx l.1 hi).2.1 l.2).dvd (cL _ (VG x hi)) hBE) (by have:0<=ug (dU (ix g.e l.1)) (x l.1) l.2:=q0;grind) (by have:ug (dU (ix g.e l.1)) (x l.1) l.2<=2880:=q1;grind)).sz jb
  .unfold gs
   rw[ab rfl]
   exact zs.sz jb
  .exact(zs.mul (hdz.rat hi)).sz jb
end
def iv(s:Bool)(u:Nat):Int:=if s=true then-(u:Int)else(u:Int)
theorem zG(s:Bool)(u:Nat):(iv s u).natAbs=u:=by cases s<;>simp[iv]
def aj7(s:Bool){u:Nat}:iv s u=0↔u=0:=by cases s<;>simp[iv]
def aj8(s t:Bool)(u v:Nat):iv (false==(s==t)) (u*v)=iv s u*iv t v:=by cases s<;>cases t<;>simp[iv]<;>grind
def an5{s t:Bool}(h:s≠t)(u v:Nat):iv s (u+v)=iv s u-iv t v:=by cases s<;>cases t<;>simp_all [iv]<;>omega
def ac7(s:Bool){u v:Nat}(h:v<=u):iv s (u-v)=iv s u-iv s v:=by cases s<;>simp[iv]<;>omega
def an6(s:Bool){u v:Nat}(h:¬v<=u):iv (!s) (v-u)=iv s u-iv s v:=by cases s<;>simp[iv]<;>omega
def as9{s t:Bool}{u v:Nat}{q:Int}(h:iv s u=q*iv t v)(hv:v≠0):iv (false==(s==t)) (u/v)=q:=by
 have ha:u=q.natAbs*v:=by have:=bL Int.natAbs h;rwa[zG,ft,zG]at this
 have hq:u/v=q.natAbs:=by rw[ha];exact Nat.mul_div_cancel _ jb
 rw[hq];have h2:iv (false==(s==t)) q.natAbs*(v:Int)=q*(v:Int):=by
  have e:(u:Int)=(q.natAbs:Int)*(v:Int):=by rw[ha,eI]
  cases s<;>cases t<;>simp[iv]at h⊢ <;>grind
 exact Int.eq_of_mul_eq_mul_right jb h2
def kvS(F:Nat->Nat->Rat)(P:List Nat)(f:Nat):Nat->Nat->Rat
 |0,k=>if k=f then 1 else 0
 |r+1,k=>if k=at0 P r then-F r f else kvS F P f r k
def kvF(F:Nat->Nat->Rat)(P:List Nat)(f:Nat):Nat->Rat:=kvS F P f P.length
def abh{F:Nat->Nat->Rat}{P:List Nat}{f k:Nat}:∀r,(∀a,a<r->k≠at0 P a)->kvS F P f r k=if k=f then 1 else 0
 |0,_=>rfl
 |r+1,h=>by unfold kvS;rw[ae (h r jb)];exact abh r λa ha=>h a jb
def aj9{F:Nat->Nat->Rat}{P:List Nat}{f:Nat}(hlt:∀a b,b<a->a<P.length->at0 P b<at0 P a){a:Nat}:∀r,r<=P.length->a<r->kvS F P f r (at0 P a)=-F a f
 |0,_,h=>jb
 |r+1,hr,ha=>by
  unfold kvS;by_cases e:a=r
  .subst e;rw[ab rfl]
  .have:=hlt r a jb jb;rw[ae jb];exact aj9 hlt r jb jb
def awy{F:Nat->Nat->Rat}{P:List Nat}{f:Nat}(hlt:∀a b,b<a->a<P.length->at0 P b<at0 P a)(hf:f∉P):kvF F P f f=1/\(∀a,a<P.length->kvF F P f (at0 P a)=-F a f)/\∀k,k∉P->k≠f->kvF F P f k=0:=by
 refine⟨?_,λa ha=>aj9 hlt _ jp ha,λk hk hne=>?_⟩
 .have:=abh (F:=F) (P:=P) (f:=f) (k:=f) P.length λa ha e=>hf (by grind[iK]);rwa[ab rfl]at this
 .have:=abh (F:=F) (P:=P) (f:=f) (k:=k) P.length λa ha e=>hk (by grind[iK]);rwa[ae hne]at this
section
variable {n:Nat} {M:Nat→Nat→Rat} {l:List Nat}
def sub_one(M:Nat->Nat->Rat)(l:List Nat)(a b:Nat):oq M l a b=1*(vU M l a b-if a=b then 1 else 0):=by unfold oq;grind
def akb(hl:IV n M l):∃f,f<l.length/\f∉(ech l.length (oq M l) l.length).2:=
 anK (JK _ _ _ _) (aff hl.nodup hl.lt hl.anN hl.ne hl.col _ 1 λa b _ _=>sub_one M l a b)
def an7(hM:Ih n M)(hl:IV n M l){f:Nat}(hf:f<l.length)(hfP:f∉(ech l.length (oq M l) l.length).2):
  (∀j,j<n->qp l (kvF (ech l.length (oq M l) l.length).1 (ech l.length (oq M l) l.length).2 f) j=mv n M (qp l (kvF (ech l.length (oq M l) l.length).1 (ech l.length (oq M l) l.length).2 f)) j)/\∀i∈l,0<qp l (kvF (ech l.length (oq M l) l.length).1 (ech l.length (oq M l) l.length).2 f) i:=by
 have hE:=JK l.length l.length (oq M l) l.length
 obtain⟨k1,k2,k3⟩:=awy (F:=(ech l.length (oq M l) l.length).1) hE.lt hfP
 have hs:=anJ hE hf hfP k1 k2 λk _ h1 h2=>k3 k h1 h2
 exact afe hM hl.nodup hl.lt hl.anN hl.min hf k1 (afg (s:=1) jj (λa b _ _=>sub_one M l a b) hs)
def ayv{m a:Nat}{F:Nat->Nat->Rat}{P:List Nat}{f:Nat}(hP:P.length<=m)(hf:f<m)(h:DZ m m a F)(hl:l.length=m):Fa n a (qp l (kvF F P f)):=by
 obtain⟨Q,h1,h2,h3⟩:=h;have key:∀r,r<=P.length->∀k,∃z:Int,kvS F P f r k=(z:Rat)/(Q:Rat)/\z.natAbs<=2^a:=λr=>by
  induction r with
  |zero=>
   intro _ k
   unfold kvS
   split
   .refine⟨Q,?_,jb⟩
    have:=iI h1
    have e:(((Q:Nat):Int):Rat)=(Q:Rat):=rfl
    grind
   .exact⟨0,by grind,bj _⟩
  |succ r ih=>
   intro hr k
   unfold kvS
   split
   .obtain⟨z,e,hz⟩:=h3 r f jb hf
    exact⟨-z,by grind,jb⟩
   .exact ih jb k
 refine⟨Q,h1,h2,λi _=>?_⟩;unfold qp;split
 .exact key _ jp _
 .exact⟨0,by grind,bj _⟩
def afs(hM:Ih n M)(hn:l.Nodup)(hl:∀i∈l,i<n)(hc:Vy n M l)(hno:∀S:Nat->Prop,(∃i,i<n/\S i)->(∀i,i<n->S i->i∈l)->¬Ins.Shut n M S)
  {B:Nat->Nat->Rat}{s:Nat->Rat}(hs:∀i,i<l.length->s i≠0) (hB:∀i j,i<l.length->j<l.length->B i j=s i*oq M l i j) (z:Nat->Rat) (hz:∀i,i<l.length->aB l.length (λj=>B i j*z j)=0):∀j,j<l.length->z j=0:=by
 refine ajI hM hn hl hc hno λa ha=>?_
 have h:=hz a ha
 have e:aB l.length (λj=>B a j*z j)=s a*aB l.length (λj=>vU M l a j*z j-if j=a then z a else 0):=by rw[<-gJ];grind[Go.Proofs.Ins.aJ,Go.Proofs.Xe.oq]
 rw[e,gI,jw ha]at h
 grind
def akc{B:Nat->Nat->Rat}{s v c:Nat->Rat}(hs:∀i,i<l.length->s i≠0)(hB:∀i j,i<l.length->j<l.length->B i j=s i*oq M l i j)(hBn:∀i,i<l.length->B i l.length=s i* -(c (at0 l i)))(hv:∀i,i<l.length->aB l.length (λj=>B i j*v j)=B i l.length):
  ∀a,a<l.length->v a=aB l.length (λb=>vU M l a b*v b)+c (at0 l a):=by
 intro a ha
 have h:=hv a ha
 have e:aB l.length (λj=>B a j*v j)=s a*aB l.length (λj=>vU M l a j*v j-if j=a then v a else 0):=by rw[<-gJ];grind[Go.Proofs.Ins.aJ,Go.Proofs.Xe.oq]
 rw[e,hBn a ha,gI,jw ha]at h
 grind
def KH(n a:Nat)(W:Nat->Nat->Rat):Prop:=∀i j,i<n->j<=n->∃z:Int,W i j=(z:Rat)/\z.natAbs<=2^a
def KH.step{a k:Nat}{W:Nat->Nat->Rat}{p:Rat}(h:KH n a W)(hk:k<n)(hp:FH p)(p0:p≠0)(hi:∀i j,i<n->j<=n->FH (JM W k p i j)):KH n (2*a+1) (JM W k p):=λi j hin hj=>by
 obtain⟨z,ez⟩:=hi i j hin hj;refine⟨z,ez,?_⟩;have e2:(2:Nat)^(2*a+1)=2^a*2^a+2^a*2^a:=by rw[dA,Nat.two_mul a,eg];omega
 have h1:1<=2^a:=ia;have h2:2^a<=2^a*2^a:=gd _ h1;unfold JM at ez;by_cases e:i=k
 .rw[ab e]at ez;obtain⟨y,ey,hy⟩:=h k j hk hj;rw[ey]at ez;have:=fi.mp ez;omega
 .rw[ae e]at ez;obtain⟨q,rfl⟩:=hp;obtain⟨y1,e1,hy1⟩:=h k k hk jb;obtain⟨y2,e3,hy2⟩:=h i j hin hj;obtain⟨y3,e4,hy3⟩:=h i k hin jb;obtain⟨y4,e5,hy4⟩:=h k j hk hj;rw[e1,e3,e4,e5]at ez;have e6:((y1*y2-y3*y4:Int):Rat)=((z*q:Int):Rat):=by grind
  have e7:=fi.mp e6;have hq:1<=q.natAbs:=by have:q≠0:=λe=>p0 (by simp_all);omega
  have k1:=cH hy1 hy2;have k2:=cH hy3 hy4;have k3:(z*q).natAbs<=(y1*y2).natAbs+(y3*y4).natAbs:=jb;rw[ft,ft,ft]at k3;have k4:z.natAbs<=z.natAbs*q.natAbs:=gd _ hq;omega
def awz{m a:Nat}{W:Nat->Nat->Rat}{p:Rat}(h:KH m a W)(hd:∀i,i<m->W i i=p)(p0:p≠0)(hm:0<m)(hl:l.length=m)(hnd:l.Nodup):Fa n a (qp l λi=>W i m/W i i):=by
 obtain⟨q,eq,hq⟩:=h 0 0 hm jb;rw[hd 0 hm]at eq;have hq0:q≠0:=λe=>p0 (by simp_all);obtain⟨s,hs,es⟩:=VF q;have hss:=abb hs;refine⟨q.natAbs,jb,hq,λi _=>?_⟩;by_cases hi:i∈l
 .obtain⟨k,hk,rfl⟩:=yT hi;rw[EO hnd _ hk];obtain⟨z,ez,hz⟩:=h k m jb jp;refine⟨s*z,?_,?_⟩
  .grind
  grind
 .rw[uF hi];exact⟨0,by grind,bj _⟩
def Bar.diag{W B:Nat->Nat->Rat}{p:Rat}(h:Bar n n B W p):∀i,i<n->W i i=p:=by obtain⟨X,-,h2,h3,-⟩:=h.ex;grind
end
def iW(g:gB)(i:Nat):Rat:=(ix g.e i).m.q
def meas(g:gB)(x:Nat->Rat)(t:Rat):Nat:=mu g.e.length (aY g) x+if t=1 then 0 else 1
def sN(g:gB)(x:Nat->Rat)(t:Rat):Prop:=∃B b,60∣B/\0<B/\B<=2^b/\b+400000*meas g x t<=60000000/\(∀i,i<g.e.length->SmB B (x i))/\eX B t
theorem ac8{W:Rat}{q:fM->Rat}:∀(t:List fM) (Q:Rat),Bg W q Q t<=t.length
 |[],_=>jp
 |l::t,Q=>by have:=ac8 (W:=W) (q:=q) t (Q+q l);unfold Bg;rw[bX];split<;>omega
def ac9{g:GL}{q:fM->Rat}{k:Nat}:∀{l:List (Rat×List fM)},(∀d∈l,d.2.length<=k)->Qo g q l<=l.length*k
 |[],_=>bj _
 |d::l,h=>by have h1:=ac9 (g:=g) (q:=q) (l:=l) λe he=>h e (by simp[he]);have h2:=h d kc;grind[ac8,Qo,Nat.succ_mul]
def YM{f:Nat->Nat}{k:Nat}:∀n,(∀i,i<n->f i<=k)->Aj n f<=n*k
 |0,_=>bj _
 |n+1,h=>by have h1:=YM n λi hi=>h i jb;grind[Aj]
section
variable {g:gB} {x d:Nat→Rat} {t v:Rat} {q:Nat}
def kD.awC(h:kD g)(x:Nat->Rat):mu g.e.length (aY g) x<=140:=by have h1:=YM (f:=λi=>opn ((aY g).e i) (x i)) (k:=16) g.e.length λi hi=>h.apq hi (x i);have h2:=ac9 (g:=aY g) (q:=gq (aY g) x) (k:=4) (l:=(aY g).ds) λd hd=>(h.ajh hd).2.1;have h3:=h.n;have h4:=h.d3;grind[yt,mu]
def SL(h:kD g):sN g (λ_=>0) 0:=by have:=h.awC λ_=>0;refine⟨60,6,gS _,jj,jj,?_,λi _=>⟨eX.zero _,bh,show(0:Rat)<=100000 by decide⟩,eX.zero _⟩;grind[meas]
def kD.awD(h:kD g){least:Bool}(hI:DW h.L8 (iW g) least x t){i:Nat}(hi:i<g.e.length):0<=x i/\x i<=100000:=by refine⟨hI.nn i hi,?_⟩;have h1:=hI.fix i hi;have h2:=h.awv hI.nn i;have h3:=(h.m i hi).2.2;have h4:=br hI.t1 h3.1;have e:(vT h.L8).G x i=gG g.e.length (aY g) x i:=rfl;grind[iW]
def sN.nr(h:kD g)(hP:sN g x t)(hd:∀i,i<g.e.length->0<=d i)(hdz:Fa g.e.length q d)(hq:q<=120000):∃D,NrN D g x d:=by obtain⟨B,b,h6,h0,hb,hb2,hx,-⟩:=hP;exact⟨_,(h.nr h0 h6 hb jb hx hd hdz jb).1⟩
def sN.ajC(h:kD g)(hP:sN g x t)(hd:∀i,i<g.e.length->0<=d i)(hdz:Fa g.e.length q d)(hq:q<=120000)(hv:v∈jQ g.e.length (aY g) (mJ g x) x d){least:Bool}{t':Rat}(ht:t'=t\/t'=t+v)(hI:DW h.L8 (iW g) least (bf x d v) t')(hm:meas g (bf x d v) t'<meas g x t):
  sN g (bf x d v) t'/\Sz v:=by
 obtain⟨B,b,h6,h0,hb,hb2,hx,htD⟩:=hP
 obtain⟨hZ,H,k1,k2,k3,k4⟩:=(h.nr h0 h6 hb jb hx hd hdz jb).2 v hv
 obtain⟨Q,q1,q2,q3⟩:=hdz
 have hBQ:=cn k2 q1
 refine⟨⟨H*Q,b+1000+2*q+q,bO h6 (bO k1 (aR _ _)),hBQ,oO k3 q2,jb,λi hi=>?_,?_⟩,hZ.sz jb⟩
 .obtain⟨z,ez,-⟩:=q3 i hi
  have hf:=h.awD hI hi
  exact⟨((hx i hi).1.dvd (bO k1 (aR _ _)) hBQ).add (eX.mul k2 q1 k4 ⟨z,ez⟩),hf.1,hf.2⟩
 .have e1:=htD.dvd (bO k1 (aR _ Q)) hBQ
  rcases ht with rfl|rfl
  .exact e1
  .exact e1.add (k4.dvd (aR _ _) hBQ)
def sN.last(h:kD g)(hP:sN g x t)(hdz:Fa g.e.length q d)(hq:q<=120000)(ht:t≠1){least:Bool}(hI:DW h.L8 (iW g) least (bf x d (1-t)) 1)(hm:mu g.e.length (aY g) (bf x d (1-t))<=mu g.e.length (aY g) x):
  sN g (bf x d (1-t)) 1:=by
 obtain⟨B,b,h6,h0,hb,hb2,hx,htD⟩:=hP
 obtain⟨Q,q1,q2,q3⟩:=hdz
 have hBQ:=cn h0 q1
 have hone:eX B (1:Rat):=⟨B,by have:=iI h0;have e:(((B:Nat):Int):Rat)=((B:Nat):Rat):=rfl;grind⟩
 have hlt:meas g (bf x d (1-t)) 1<meas g x t:=by grind[meas]
 refine⟨B*Q,b+q,bO h6 (aR _ _),hBQ,oO hb q2,jb,λi hi=>?_,hone.dvd (aR _ _) hBQ⟩
 obtain⟨z,ez,-⟩:=q3 i hi
 have hf:=h.awD hI hi
 exact⟨((hx i hi).1.dvd (aR _ _) hBQ).add (eX.mul h0 q1 (hone.sub htD) ⟨z,ez⟩),hf.1,hf.2⟩
def sN.sz(hP:sN g x t)(h0:0<=t)(h1:t<=1):(∀i,i<g.e.length->Sz (x i))/\Sz t/\Sz (1-t):=by
 obtain⟨B,b,h6,hB,hb,hb2,hx,htD⟩:=hP;have hone:eX B (1:Rat):=⟨B,by have:=iI hB;have e:(((B:Nat):Int):Rat)=((B:Nat):Rat):=rfl;rw[e];grind⟩
 exact⟨λi hi=>(Gp hB hb (hx i hi).1 (by have:=(hx i hi).2.1;grind) (hx i hi).2.2).sz jb,(Gp hB hb htD kd kd).sz jb,(Gp hB hb (hone.sub htD) kd kd).sz jb⟩
def sN.awE(h:kD g)(hP:sN g x t)(hd:∀i,i<g.e.length->0<=d i)(hdz:Fa g.e.length q d)(hq:q<=120000)(h0:0<=t)(h1:t<=1)(hv:v∈jQ g.e.length (aY g) (mJ g x) x d\/v=1-t):Sz v/\∀i,i<g.e.length->Sz (d i)/\Sz (v*d i):=by
 obtain⟨B,b,h6,hB,hb,hb2,hx,htD⟩:=hP;have hone:eX B (1:Rat):=⟨B,by have:=iI hB;have e:(((B:Nat):Int):Rat)=((B:Nat):Rat):=rfl;grind⟩
 have hZ:lH (b+2000+2*q) v:=by
  rcases hv with hv|rfl
  .exact((h.nr hB h6 hb jb hx hd hdz jb).2 v hv).1
  .exact(Gp hB hb (hone.sub htD) kd kd).mono jb
 exact⟨hZ.sz jb,λi hi=>⟨(hdz.rat hi).sz jb,(hZ.mul (hdz.rat hi)).sz jb⟩⟩
def sN.mg(h:kD g)(hP:sN g x t):∃D,Vq D g x:=by obtain⟨B,b,h6,hB,hb,hb2,hx,-⟩:=hP;exact⟨_,h.mg hB h6 hb jb hx⟩
def sN.map(h:kD g)(hP:sN g x t):∃D,aa1 60 D g x:=by obtain⟨B,b,h6,hB,hb,hb2,hx,-⟩:=hP;exact⟨_,h.map hB h6 hb jb hx⟩
def kD.mz(h:kD g)(hx:∀i,i<g.e.length->0<=x i):(∀j i,j<g.e.length->i<g.e.length->Sz (gM g.e.length (aY g) x j i))/\(∀i,i<g.e.length->Sz (gM g.e.length (aY g) x i i-1))/\∀i k,i<g.e.length->k<=g.e.length->Sz (aB k λj=>gM g.e.length (aY g) x j i):=by
 obtain⟨p1,p2⟩:=h.gE hx;have hone:eX (Xe.gE g x) (1:Rat):=⟨Xe.gE g x,by have:=iI p1;have e:(((Xe.gE g x:Nat):Int):Rat)=((Xe.gE g x:Nat):Rat):=rfl;grind⟩
 refine⟨λj i hj hi=>?_,λi hi=>?_,λi k hi hk=>?_⟩
 .have:=h.m01 hx hj hi;exact(Gp p1 p2 (h.mD hx hi) kd kd).sz jj
 .have:=h.m01 hx hi hi;exact(Gp p1 p2 ((h.mD hx hi).sub hone) kd kd).sz jj
 .have key:∀k,k<=g.e.length->0<=aB k (λj=>gM g.e.length (aY g) x j i)/\aB k (λj=>gM g.e.length (aY g) x j i)<=(k:Rat):=λk=>by
   induction k with
   |zero=>intro _;exact⟨bh,bh⟩
   |succ k ih=>
    intro hk
    have a:=ih jb
    have b:=h.m01 hx (j:=k) jb hi
    have e:((k+1:Nat):Rat)=(k:Rat)+1:=gp _ _
    grind[aB]
  have hk8:((k:Nat):Rat)<=((8:Nat):Rat):=bz.mpr (by have:=h.n;omega);have e8:((8:Nat):Rat)=8:=rfl;have:=key k hk;exact(Gp p1 p2 (aa5 λj _=>h.mD hx hi) kd kd).sz jj
end
def sN.mar{g:gB}{x:Nat->Rat}{t:Rat}(h:kD g)(hP:sN g x t):∃D,anI 60 D g x:=by obtain⟨B,b,h6,hB,hb,hb2,hx,-⟩:=hP;have h1:=h.mg hB h6 hb jb hx;exact⟨_,h.map hB h6 hb jb hx,h1.r,h1.s⟩
def SmV(g:gB)(x:Nat->Rat):Prop:=∃B b,60∣B/\0<B/\B<=2^b/\b<=199000000/\∀i,i<g.e.length->SmB B (x i)
def SmV.mar{g:gB}{x:Nat->Rat}(h:kD g)(hP:SmV g x):∃D,anI 60 D g x:=by obtain⟨B,b,h6,hB,hb,hb2,hx⟩:=hP;have h1:=h.mg hB h6 hb hb2 hx;exact⟨_,h.map hB h6 hb hb2 hx,h1.r,h1.s⟩
def sN.smV{g:gB}{x:Nat->Rat}{t:Rat}(hP:sN g x t):SmV g x:=by obtain⟨B,b,h6,hB,hb,hb2,hx,-⟩:=hP;exact⟨B,b,h6,hB,hb,jb,hx⟩
section
variable {g:gB} {c x y z:Nat→Rat} {ex:Nat→Int}
end
noncomputable def ata(g:gB)(i:Nat):Bool:=decide (0<(ix g.e i).m.q)
set_option maxRecDepth 10000 in
def akd{σ:St}(hW:WF σ){sb:Nat}{g:gB}(hs:DU (Lt σ.aj) σ.h sb g)(hn:g.e.length<=1000)(hm:∀i,i<g.e.length->(ix g.e i).m.fits 1000000):
  aC EN 95 [.c (.ptr sb 0)] σ λr σ'=>(∃b,r=.c (.sl b 0 g.e.length (.ex g.e.length))/\σ'.h b=some ⟨IW g.e.length (ata g),none⟩/\σ.aj<=b/\b<σ'.aj)/\Fr σ σ':=by
 refine aO (jV.o _ _) jV.h ?_
 unfold jV
 dsimp only
 obtain⟨⟨ev,gv,lv,bv,hsb,hg,⟨R,P,hL1,hL2⟩,hB⟩,hsl⟩:=hs
 have hlk:=hL1.kn
 have hll:=hL1.len
 have Ye:=hg.e.len
 have hek:=hg.e.kn
 have hsl:sb<σ.aj:=hsl
 have hFr:=Fr.refl hW
 simp(disch:=try exact jz) only[go_sem,z3,ak hsb,hll,hlk,Ye,hek]
 refine aF (λq tm σ'=>∃i,q=g.e.length-i/\i<=g.e.length/\Tr.ah tm 3=.c (.sl σ.aj 0 g.e.length (.ex g.e.length))/\Tr.ah tm 16=.c ev/\Tr.ah tm 17=.c (.int .i64 (.ofNat g.e.length))/\Tr.ah tm 18=.c (.int .i64 (.ofNat i))
   /\σ'.h σ.aj=some ⟨ones g.e.length (λk=>.bool (if k<i then ata g k else false)),none⟩/\Fr σ σ'/\σ.aj+1<=σ'.aj) g.e.length ?_ ?_
 .refine⟨0,jb,jb,?_⟩
  simp(disch:=try exact jz) only[go_sem,z3,am]
  exact⟨bL (λl=>some (Bk.mk l none)) (bF λk _=>by rfl),fr,jb⟩
 .rintro q tm σ' ⟨i,rfl,hi,t3,t16,t17,oP,q3,hf,hnx⟩
  have hle:=hf.le
  have jv:=Fr.refl hf.wf
  simp(disch:=try exact jz) only[go_sem,z3,t3,t16,t17,oP,aG]
  refine aH (λhlt=>?_) (λhlt=>?_)
  .obtain⟨b5,o5,c5,rfl,C1,A1,bZ,-,hC,hA1⟩:=hg.e.at hlt
   have bZ:=hf.ld hW bZ
   have Ve:=aZ.kn hC
   have hAk:=hA1.kn
   have hw:=pI (hm i hlt)
   simp(disch:=try exact jz) only[go_sem,z3,t3,t16,t17,oP,bZ,Ve,hAk,q3,aI q3]
   refine⟨g.e.length-(i+1),jb,i+1,rfl,jb,rfl,bL (λl=>some (Bk.mk l none)) (bF λk hk=>?_),fr,jb⟩
   unfold aN
   by_cases e:k=i
   .rw[ab e,ab jb,e];rfl
   grind
  .have:i=g.e.length:=jb
   subst this
   simp(disch:=try exact jz) only[go_sem,z3,t3]
   refine⟨⟨_,rfl,?_,jb,jb⟩,hf⟩
   rw[q3]
   exact bL (λl=>some (Bk.mk l none)) (bF λk hk=>by grind)
end Go.Proofs.Xe
