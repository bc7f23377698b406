import Derived.Test.YthkggcakedkboaaGreatDoorZ41
set_option linter.all false
set_option maxRecDepth 100000
set_option maxHeartbeats 8000000
namespace Go.Proofs.Xe
open Go.RowKit Go.Proofs.Ins
def akd{r:Nat}{l:List Rat}(h:∀v∈l,lN r v)(hr:r<=200000000):Sz (gq0 (Am l)):=by
 rcases Vl l with⟨-,e⟩|⟨m,e,hm,-⟩
 .rw[e];exact Sz.zero
 .rw[e];exact(h m hm).sz hr
section
variable {g:gQ} {B b q:Nat} {x d:Nat→Rat}
def jO.ch0(h:jO g)(hB0:0<B)(hb:B<=2^b)(hx:∀i,i<g.e.length->SmB B (x i)){i:Nat}(hi:i<g.e.length):ChS B b (dh (ix g.e i)) (x i):=
 ⟨B,0,im _,hB0,jb,by have:=h.apa hi (x i);omega,(hx i hi).1,(hx i hi).2.1,(hx i hi).2.2⟩
def jO.ny(h:jO g)(hB0:0<B)(h6:60∣B)(hb:B<=2^b)(hx:∀i,i<g.e.length->SmB B (x i))(hdz:EW g.e.length q d){i:Nat}(hi:i<g.e.length)(hp:0<d i){y:Rat}(hy:nxE (dh (ix g.e i)) (kE g.e i) (x i)=some y):
  lN (b+993) y/\lN (b+993) (y-x i)/\afB B (b+1000+2*q) (b+2000+2*q) ((y-x i)/d i):=by
 obtain⟨h1,-⟩:=akc h hi (hx i hi).2.1 (x:=x)
 rw[hy]at h1
 have hyx:=((ab9 (h.nn hi) h1 (hx i hi).2.1 λ_ _=>rfl).yes y rfl).1
 obtain⟨B',k,c1,c2,c3,c4,c5,c6,c7⟩:=ChS.aj h hi h6 h1 (h.ch0 hB0 hb hx hi) y rfl
 obtain⟨xD,x0,x1⟩:=hx i hi
 have c3:B'<=2^(b+976):=aw c3 (yQ jb)
 have hD:=c5.sub (xD.dvd c1 c2)
 have z1:=DT c2 c3 c5 (by clear c3;grind) c7
 have z2:=DT c2 c3 hD (by clear c3;grind) (by clear c3;grind)
 have z3:=hdz.rat hi
 refine⟨z1,z2,(z2.div z3 (by clear c3;grind)).mono jb,?_⟩
 obtain⟨Q,q1,q2,q3⟩:=hdz
 obtain⟨z,ez,-⟩:=q3 i hi
 obtain⟨w,w0,w1,wD⟩:=Vx (K:=2^q) c2 q1 (hD.dvd (be _ _) (ck c2 q1)) ⟨z,ez⟩ hp z3.le
 refine⟨B'*w,bX c1 (be _ _),ck c2 w0,?_,wD⟩
 have:=nY c3 (aw w1 (nY jp q2))
 exact aw this (yQ jb)
def jO.c_e(h:jO g)(hB0:0<B)(h6:60∣B)(hb:B<=2^b)(hx:∀i,i<g.e.length->SmB B (x i))(hdz:EW g.e.length q d){i:Nat}(hi:i<=g.e.length):∀v∈Bh (mW g x) d i,afB B (b+1000+2*q) (b+2000+2*q) v:=λv hv=>by
 obtain⟨k,h1,h2,y,h3,rfl⟩:=(x9 i).mp hv;unfold mW at h3;cases ho:nxE (dh (ix g.e k)) (kE g.e k) (x k)with
 |none=>grind
 |some w=>
  rw[ho]at h3
  cases h3
  exact(h.ny hB0 h6 hb hx hdz jb h2 ho).2.2
def jO.ds(h:jO g){j:Nat}(hj:j<g.d.length):(dW g j,dL g j)∈(bf g).ds:=by rw[<-OQ hj];grind[gy,xZ]
def jO.c_d(h:jO g)(hB0:0<B)(h6:60∣B)(hb:B<=2^b)(hx:∀i,i<g.e.length->SmB B (x i))(hd:∀i,i<g.e.length->0<=d i)(hdz:EW g.e.length q d){j:Nat}(hj:j<g.d.length)(k:Nat):
  lN (b+425) (dW g j-aI ((dL g j).take k) (gq (bf g) x))/\lN (430+2*q) (aI ((dL g j).take k) (gr (bf g) x d))/\(0<aI ((dL g j).take k) (gr (bf g) x d)->afB B (b+1000+2*q) (b+2000+2*q) ((dW g j-aI ((dL g j).take k) (gq (bf g) x))/aI ((dL g j).take k) (gr (bf g) x d))):=by
 have hx0:∀i,i<g.e.length->0<=x i:=λi hi=>(hx i hi).2.1
 obtain⟨p1,p2⟩:=h.gE hx0
 have heB:=SC
 obtain⟨w1,w2,w3⟩:=h.aje (h.ds hj)
 have hl:∀l∈(dL g j).take k,l∈(bf g).dY:=λl hl=>w3 l (eo hl)
 have hk:((dL g j).take k).length<=4:=by grind
 generalize (dL g j).take k=t at hl hk
 have hln:∀l∈t,l.1<g.e.length:=λl hlt=>(h.EU.dY l (hl l hlt)).1
 have hBE:=ck hB0 p1
 have aww:=nY hb p2
 have w1:nX 60 60 (dW g j):=w1
 have nD:dR (B*Xe.gE g x) (dW g j-aI t (gq (bf g) x)):=by refine(w1.1.dvd (bX h6 (be _ _)) hBE).sub (dR.sum λl hlt=>?_);have hi:=hln l hlt;exact(aiy jj hB0 h6 (h.ed l.1 hi) (hx l.1 hi).1 (hx l.1 hi).2.1 l.2).dvd (cH _ (Vr x hi)) hBE
 have q0:0<=aI t (gq (bf g) x):=jC λl hlt=>(h.akb hx0 (hl l hlt)).1
 have q1:=rW (f:=gq (bf g) x) (v:=2880) jj (l:=t) (k:=4) (λl hlt=>(h.akb hx0 (hl l hlt)).2) hk
 have e4:((4:Nat):Rat)=4:=rfl
 have w2:=w1.2
 have zn:=DT hBE aww nD kd kd
 have hdr:=λi (hi:i<g.e.length)=>hdz.rat hi
 obtain⟨Q,a1,a2,a3⟩:=hdz
 have hEQ:=ck p1 a1
 have apb:=nY p2 a2
 have dD:dR (Xe.gE g x*Q) (aI t (gr (bf g) x d)):=dR.sum λl hlt=>by have hi:=hln l hlt;obtain⟨z,ez,-⟩:=a3 l.1 hi;exact dR.mul p1 a1 (h.slD hx0 hi l.2) ⟨z,ez⟩
 have hN:(0:Rat)<=((2^q:Nat):Rat):=bj.mpr (br _)
 have hgr:∀l∈t,0<=gr (bf g) x d l/\gr (bf g) x d l<=1000001*((2^q:Nat):Rat):=λl hlt=>by have hi:=hln l hlt;have s1:=rJ (h.nn hi) (hx0 _ hi) l.2;have s2:=Vh (h.ed l.1 hi).uq (h.eb l.1 hi) (hx0 _ hi) l.2;have s3:=hd l.1 hi;have s4:=(hdr l.1 hi).le;refine⟨cj s1 s3,?_⟩;have s5:=bp s2 s3;have s6:=cT s4 (show(0:Rat)<=1000001 by decide);show xW (dh (ix g.e l.1)) (x l.1) l.2*d l.1<=_;grind
 have r0:0<=aI t (gr (bf g) x d):=jC λl hlt=>(hgr l hlt).1
 have r1:=rW (f:=gr (bf g) x d) (v:=1000001*((2^q:Nat):Rat)) (cj jj hN) (l:=t) (k:=4) (λl hlt=>(hgr l hlt).2) hk
 have hK:((4000004*2^q:Nat):Rat)=((4:Nat):Rat)*(1000001*((2^q:Nat):Rat)):=by rw[fe,e4];have:((4000004:Nat):Rat)=4000004:=rfl;rw[this];grind
 rw[<-hK]at r1
 have hK2:4000004*2^q<=2^(22+q):=by rw[eg];exact bw _ jj
 have zd:=(Vt hEQ apb dD hK2 (by have:(0:Rat)<=((4000004*2^q:Nat):Rat):=bj.mpr (br _);grind) r1)
 have zd:lN (430+2*q) (aI t (gr (bf g) x d)):=zd.mono jb
 refine⟨zn.mono jb,zd,λhpos=>⟨(zn.div zd kd).mono jb,?_⟩⟩
 obtain⟨w,v0,v1,vD⟩:=Vx hB0 hEQ (nD.dvd (cH _ (be _ _)) (ck hB0 hEQ)) dD hpos r1
 refine⟨B*w,be _ _,ck hB0 v0,?_,vD⟩
 have:=nY hb (aw v1 (nY hK2 apb))
 exact aw this (yQ jb)
def jO.c_p(h:jO g)(hB0:0<B)(h6:60∣B)(hb:B<=2^b)(hx:∀i,i<g.e.length->SmB B (x i))(hd:∀i,i<g.e.length->0<=d i)(hdz:EW g.e.length q d){D:Rat×List fC}(hD:D∈(bf g).ds){k:Nat}:∀v∈qB D.1 (gq (bf g) x) (gr (bf g) x d) 0 0 (D.2.take k),afB B (b+1000+2*q) (b+2000+2*q) v:=λv hv=>by
 obtain⟨j,hj,ej⟩:=aM hD;have hj2:j<g.d.length:=by grind[xZ]
 have e0:D=(dW g j,dL g j):=by rw[<-ej,<-OQ hj2];grind[dX]
 subst e0;obtain⟨k',h1,h2,h3⟩:=ac9 _ _ _ v hv;rw[gm]at h2 h3;rw[gm,List.take_take]at h2;rw[List.take_take]at h3;rw[h2];exact(h.c_d hB0 h6 hb hx hd hdz hj2 _).2.2 h3
def jO.nr(h:jO g)(hB0:0<B)(h6:60∣B)(hb:B<=2^b)(hb2:b<=190000000)(hx:∀i,i<g.e.length->SmB B (x i))(hd:∀i,i<g.e.length->0<=d i)(hdz:EW g.e.length q d)(hq:q<=1000000):
  NrN (B*Xe.gE g x) g x d/\∀v∈jX g.e.length (bf g) (mW g x) x d,afB B (b+1000+2*q) (b+2000+2*q) v:=by
 have hx0:∀i,i<g.e.length->0<=x i:=λi hi=>(hx i hi).2.1
 obtain⟨p1,p2⟩:=h.gE hx0
 have heB:=SC
 have hall:∀v∈jX g.e.length (bf g) (mW g x) x d,afB B (b+1000+2*q) (b+2000+2*q) v:=λv hv=>by
  rcases bL.mp hv with hv|hv
  .exact h.c_e hB0 h6 hb hx hdz jp v hv
  .obtain⟨D,hD,hv⟩:=cE.mp hv;rw[<-cn (l:=D.2)]at hv;exact h.c_p hB0 h6 hb hx hd hdz hD v hv
 refine⟨⟨h.mg hB0 h6 hb jb hx,λi hi=>⟨h.nn hi,hx0 i hi⟩,λi hi=>(hdz.rat hi).sz jb,λi hi _=>⟨ChS B b (dh (ix g.e i)),h.ch0 hB0 hb hx hi,λm hm=>ChS.ok h hi h6 hb2 hm,λm t hm ht=>hm.next h hi h6 ht⟩,λi hi hp y hy=>?_,λi hi=>?_,λj hj k hk=>?_,λj hj l hl=>?_⟩,hall⟩
 .obtain⟨z1,z2,z3⟩:=h.ny hB0 h6 hb hx hdz hi hp hy
  exact⟨z1.sz jb,z2.sz jb,z3.1.sz jb⟩
 .exact akd (λv hv=>(h.c_e hB0 h6 hb hx hdz hi v hv).1) jb
 .obtain⟨z1,z2,z3⟩:=h.c_d hB0 h6 hb hx hd hdz hj k
  refine⟨akd (r:=b+2000+2*q) (λv hv=>?_) jb,z1.sz jb,z2.sz jb,?_⟩
  .rcases bL.mp hv with hv|hv
   .rcases bL.mp hv with hv|hv
    .exact(h.c_e hB0 h6 hb hx hdz jp v hv).1
    .obtain⟨D,hD,hv⟩:=cE.mp hv
     rw[<-cn (l:=D.2)]at hv
     exact(h.c_p hB0 h6 hb hx hd hdz (eo hD) v hv).1
   .exact(h.c_p hB0 h6 hb hx hd hdz (h.ds hj) (k:=k) v hv).1
  .by_cases e:aI ((dL g j).take k) (gr (bf g) x d)=0
   .grind[Sz.zero]
   .exact(z1.div z2 e).sz jb
 .obtain⟨-,-,w3⟩:=h.aje (h.ds hj)
  have hle:=w3 l hl
  have hi:=(h.EU.dY l hle).1
  have s1:=rJ (h.nn hi) (hx0 _ hi) l.2
  have s2:=Vh (h.ed l.1 hi).uq (h.eb l.1 hi) (hx0 _ hi) l.2
  obtain⟨q0,q1⟩:=h.akb hx0 hle
  have e1:((1000001:Nat):Rat)=1000001:=rfl
  have zs:lN (eB+20) (xW (dh (ix g.e l.1)) (x l.1) l.2):=Vt (K:=1000001) p1 p2 (h.slD hx0 hi l.2) jj kd jb
  refine⟨?_,?_,?_⟩
  .have hBE:=ck hB0 p1
   exact(DT hBE (nY hb p2) ((aiy jj hB0 h6 (h.ed l.1 hi) (hx l.1 hi).1 (hx l.1 hi).2.1 l.2).dvd (cH _ (Vr x hi)) hBE) (by have:0<=rF (dh (ix g.e l.1)) (x l.1) l.2:=q0;grind) (by have:rF (dh (ix g.e l.1)) (x l.1) l.2<=2880:=q1;grind)).sz jb
  .unfold gs
   rw[ab rfl]
   exact zs.sz jb
  .exact(zs.mul (hdz.rat hi)).sz jb
end
def kvS(F:Nat->Nat->Rat)(P:List Nat)(f:Nat):Nat->Nat->Rat
 |0,k=>if k=f then 1 else 0
 |r+1,k=>if k=at0 P r then-F r f else kvS F P f r k
def kvF(F:Nat->Nat->Rat)(P:List Nat)(f:Nat):Nat->Rat:=kvS F P f P.length
def abb{F:Nat->Nat->Rat}{P:List Nat}{f k:Nat}:∀r,(∀a,a<r->k≠at0 P a)->kvS F P f r k=if k=f then 1 else 0
 |0,_=>rfl
 |r+1,h=>by unfold kvS;rw[ae (h r jb)];exact abb r λa ha=>h a jb
def ake{F:Nat->Nat->Rat}{P:List Nat}{f:Nat}(hlt:∀a b,b<a->a<P.length->at0 P b<at0 P a){a:Nat}:∀r,r<=P.length->a<r->kvS F P f r (at0 P a)=-F a f
 |0,_,h=>jb
 |r+1,hr,ha=>by
  unfold kvS;by_cases e:a=r
  .subst e;rw[ab rfl]
  .have:=hlt r a jb jb;rw[ae jb];exact ake hlt r jb jb
def awx{F:Nat->Nat->Rat}{P:List Nat}{f:Nat}(hlt:∀a b,b<a->a<P.length->at0 P b<at0 P a)(hf:f∉P):kvF F P f f=1/\(∀a,a<P.length->kvF F P f (at0 P a)=-F a f)/\∀k,k∉P->k≠f->kvF F P f k=0:=by
 refine⟨?_,λa ha=>ake hlt _ jp ha,λk hk hne=>?_⟩
 .have:=abb (F:=F) (P:=P) (f:=f) (k:=f) P.length λa ha e=>hf (by grind[jc]);rwa[ab rfl]at this
 .have:=abb (F:=F) (P:=P) (f:=f) (k:=k) P.length λa ha e=>hk (by grind[jc]);rwa[ae hne]at this
section
variable {n:Nat} {M:Nat→Nat→Rat} {l:List Nat}
def sub_one(M:Nat->Nat->Rat)(l:List Nat)(a b:Nat):oz M l a b=1*(vT M l a b-if a=b then 1 else 0):=by unfold oz;grind
def akf(hl:IV n M l):∃f,f<l.length/\f∉(ech l.length (oz M l) l.length).2:=
 anE (JK _ _ _ _) (afj hl.nodup hl.lt hl.anH hl.ne hl.col _ 1 λa b _ _=>sub_one M l a b)
def an5(hM:Kz n M)(hl:IV n M l){f:Nat}(hf:f<l.length)(hfP:f∉(ech l.length (oz M l) l.length).2):
  (∀j,j<n->qj l (kvF (ech l.length (oz M l) l.length).1 (ech l.length (oz M l) l.length).2 f) j=mv n M (qj l (kvF (ech l.length (oz M l) l.length).1 (ech l.length (oz M l) l.length).2 f)) j)/\∀i∈l,0<qj l (kvF (ech l.length (oz M l) l.length).1 (ech l.length (oz M l) l.length).2 f) i:=by
 have hE:=JK l.length l.length (oz M l) l.length
 obtain⟨k1,k2,k3⟩:=awx (F:=(ech l.length (oz M l) l.length).1) hE.lt hfP
 have hs:=anD hE hf hfP k1 k2 λk _ h1 h2=>k3 k h1 h2
 exact afi hM hl.nodup hl.lt hl.anH hl.min hf k1 (afk (s:=1) jj (λa b _ _=>sub_one M l a b) hs)
def ayo{m a:Nat}{F:Nat->Nat->Rat}{P:List Nat}{f:Nat}(hP:P.length<=m)(hf:f<m)(h:DR m m a F)(hl:l.length=m):EW n a (qj l (kvF F P f)):=by
 obtain⟨Q,h1,h2,h3⟩:=h;have key:∀r,r<=P.length->∀k,∃z:Int,kvS F P f r k=(z:Rat)/(Q:Rat)/\z.natAbs<=2^a:=λr=>by
  induction r with
  |zero=>
   intro _ k
   unfold kvS
   split
   .refine⟨Q,?_,jb⟩
    have:=iI h1
    have e:(((Q:Nat):Int):Rat)=(Q:Rat):=rfl
    grind
   .exact⟨0,by grind,br _⟩
  |succ r ih=>
   intro hr k
   unfold kvS
   split
   .obtain⟨z,e,hz⟩:=h3 r f jb hf
    exact⟨-z,by grind,jb⟩
   .exact ih jb k
 refine⟨Q,h1,h2,λi _=>?_⟩;unfold qj;split
 .exact key _ jp _
 .exact⟨0,by grind,br _⟩
def afC(hM:Kz n M)(hn:l.Nodup)(hl:∀i∈l,i<n)(hc:Vj n M l)(hno:∀S:Nat->Prop,(∃i,i<n/\S i)->(∀i,i<n->S i->i∈l)->¬Ins.Shut n M S)
  {B:Nat->Nat->Rat}{s:Nat->Rat}(hs:∀i,i<l.length->s i≠0) (hB:∀i j,i<l.length->j<l.length->B i j=s i*oz M l i j) (z:Nat->Rat) (hz:∀i,i<l.length->aB l.length (λj=>B i j*z j)=0):∀j,j<l.length->z j=0:=by
 refine ajF hM hn hl hc hno λa ha=>?_
 have h:=hz a ha
 have e:aB l.length (λj=>B a j*z j)=s a*aB l.length (λj=>vT M l a j*z j-if j=a then z a else 0):=by rw[<-gJ];grind[Go.Proofs.Ins.aK,Go.Proofs.Xe.oz]
 rw[e,fH,jA ha]at h
 grind
def akg{B:Nat->Nat->Rat}{s v c:Nat->Rat}(hs:∀i,i<l.length->s i≠0)(hB:∀i j,i<l.length->j<l.length->B i j=s i*oz M l i j)(hBn:∀i,i<l.length->B i l.length=s i* -(c (at0 l i)))(hv:∀i,i<l.length->aB l.length (λj=>B i j*v j)=B i l.length):
  ∀a,a<l.length->v a=aB l.length (λb=>vT M l a b*v b)+c (at0 l a):=by
 intro a ha
 have h:=hv a ha
 have e:aB l.length (λj=>B a j*v j)=s a*aB l.length (λj=>vT M l a j*v j-if j=a then v a else 0):=by rw[<-gJ];grind[Go.Proofs.Ins.aK,Go.Proofs.Xe.oz]
 rw[e,hBn a ha,fH,jA ha]at h
 grind
def KI(n a:Nat)(W:Nat->Nat->Rat):Prop:=∀i j,i<n->j<=n->∃z:Int,W i j=(z:Rat)/\z.natAbs<=2^a
def KI.step{a k:Nat}{W:Nat->Nat->Rat}{p:Rat}(h:KI n a W)(hk:k<n)(hp:FD p)(p0:p≠0)(hi:∀i j,i<n->j<=n->FD (JO W k p i j)):KI n (2*a+1) (JO W k p):=λi j hin hj=>by
 obtain⟨z,ez⟩:=hi i j hin hj;refine⟨z,ez,?_⟩;have e2:(2:Nat)^(2*a+1)=2^a*2^a+2^a*2^a:=by rw[du,Nat.two_mul a,eg];omega
 have h1:1<=2^a:=gT;have h2:2^a<=2^a*2^a:=gd _ h1;unfold JO at ez;by_cases e:i=k
 .rw[ab e]at ez;obtain⟨y,ey,hy⟩:=h k j hk hj;rw[ey]at ez;have:=fg.mp ez;omega
 .rw[ae e]at ez;obtain⟨q,rfl⟩:=hp;obtain⟨y1,e1,hy1⟩:=h k k hk jb;obtain⟨y2,e3,hy2⟩:=h i j hin hj;obtain⟨y3,e4,hy3⟩:=h i k hin jb;obtain⟨y4,e5,hy4⟩:=h k j hk hj;rw[e1,e3,e4,e5]at ez;have e6:((y1*y2-y3*y4:Int):Rat)=((z*q:Int):Rat):=by grind
  have e7:=fg.mp e6;have hq:1<=q.natAbs:=by have:q≠0:=λe=>p0 (by simp_all);omega
  have k1:=cF hy1 hy2;have k2:=cF hy3 hy4;have k3:(z*q).natAbs<=(y1*y2).natAbs+(y3*y4).natAbs:=jb;rw[fu,fu,fu]at k3;have k4:z.natAbs<=z.natAbs*q.natAbs:=gd _ hq;omega
def awy{m a:Nat}{W:Nat->Nat->Rat}{p:Rat}(h:KI m a W)(hd:∀i,i<m->W i i=p)(p0:p≠0)(hm:0<m)(hl:l.length=m)(hnd:l.Nodup):EW n a (qj l λi=>W i m/W i i):=by
 obtain⟨q,eq,hq⟩:=h 0 0 hm jb;rw[hd 0 hm]at eq;have hq0:q≠0:=λe=>p0 (by simp_all);obtain⟨s,hs,es⟩:=Vq q;have hss:=aa2 hs;refine⟨q.natAbs,jb,hq,λi _=>?_⟩;by_cases hi:i∈l
 .obtain⟨k,hk,rfl⟩:=EF hi;rw[EH hnd _ hk];obtain⟨z,ez,hz⟩:=h k m jb jp;refine⟨s*z,?_,?_⟩
  .grind
  grind
 .rw[uy hi];exact⟨0,by grind,br _⟩
def Bar.diag{W B:Nat->Nat->Rat}{p:Rat}(h:Bar n n B W p):∀i,i<n->W i i=p:=by obtain⟨X,-,h2,h3,-⟩:=h.ex;grind
end
def awz(s t:Bool){u v:Nat}(hv:0<v):Ins.fr (false==(s==t)) u v=((iv s u:Int):Rat)/((iv t v:Int):Rat):=by
 have h:=Nz (iv s u) (v:Int) jb;rw[zG,hJ]at h;by_cases hu:u=0
 .simp_all[iv,abm,Rat.div_def]
 .have e1:decide ((v:Int)<0)=false:=az jb;rw[e1]at h;have e2:decide (iv s u<0)=s:=by grind[iv]
  rw[e2]at h;cases t with
  |false=>
   have:(false==(s==false))=(!(s==false)):=by simp
   rw[this,h];rfl
  |true=>
   have e3:(false==(s==true))=(!((!s)==false)):=by simp
   have h2:=Nz (iv (!s) u) (v:Int) jb
   rw[zG,hJ,e1]at h2
   have e4:decide (iv (!s) u<0)= !s:=by grind[iv]
   rw[e4]at h2
   rw[e3,h2]
   have e5:iv (!s) u=-iv s u:=by grind[iv]
   have e6:iv true v=-(v:Int):=rfl
   have hv0:((v:Int):Rat)≠0:=λe=>by simp_all
   rw[e5,e6,Rat.intCast_neg,Rat.intCast_neg]
   grind
def Bar.as2{n k:Nat}{B W W':Nat->Nat->Rat}{p:Rat}(h:Bar n k B W p)(hk:k<=n)(hw:∀i j,i<n->j<=n->W i j=W' i j):Bar n k B W' p:=by obtain⟨h1,h2,h3,X,x1,x2,x3,x4⟩:=h;exact⟨h1,h2,h3,X,x1,x2,λl j hl hj=>by grind,λi j a b c=>by grind⟩
def as3{σ:St}(hW:WF σ){mb n m lo hi:Nat}{S:Nat->Nat->Bool}{U:Nat->Nat->Nat}{bs:Nat->Nat}(hM:zH σ.h mb n m S U bs lo hi)(hn:n<=16)(hm:m<=17){k:Nat}(hk:k<n)(hkm:k<m){c:Cap}{kb:Nat}(hkb:σ.h kb=some ⟨[.int .i64 (.ofNat k)],none⟩)(hex:∃i,k<=i/\i<n/\U i k≠0):
  aC EN 148 [.c (.sl mb (k*1) (n-k) c),.fn 149 [.ptr kb 0]] σ λr σ'=>(∃a,r=.c (.int .i64 (.ofNat a))/\k+a<n/\U (k+a) k≠0)/\Fr σ σ':=by
 refine aP (dJ.o _ _) dJ.h ?_
 unfold dJ
 dsimp only
 have hcl:=λ(args:List V) (σ:St) (K:V->St->Prop)=>jD (E:=EN) (K:=K) (tJ.o args σ) tJ.h
 unfold tJ at hcl
 dsimp only at hcl
 simp(disch:=try exact jz) only[go_sem,z3]
 refine aF (λq tm σ'=>∃j,q=n-k-j/\j<=n-k/\Tr.ah tm 0=.c (.sl mb (k*1) (n-k) c)/\Tr.ah tm 1=.fn 149 [.ptr kb 0]/\Tr.ah tm 7=.c (.int .i64 (.ofNat (n-k)))/\Tr.ah tm 8=.c (.int .i64 (.ofNat j))/\(∀a,a<j->U (k+a) k=0)/\Fr σ σ') (n-k) ?_ ?_
 .refine⟨0,jb,jb,?_⟩
  simp(disch:=try exact jz) only[go_sem,z3,am]
  grind[Fr.refl]
 .rintro q tm σ' ⟨j,rfl,hj,t0,t1,t7,t8,hd,hf⟩
  have jM:=Fr.refl hf.wf
  simp(disch:=try exact jz) only[go_sem,z3,t0,t1,t7,t8,aG]
  refine aH (λhlt=>?_) (λhlt=>?_)
  .have hkj:k+j<n:=jb
   have q0:=hf.get hW hM.o
   have qr:=hf.get hW (hM.r _ hkj).1
   have hkb':=hf.get hW hkb
   have e0:ld σ'.h mb (k*1+j*1) 1 false=some (.c (.sl (bs (k+j)) 0 m (.ex m))):=by rw[ak q0,show k*1+j*1=(k+j)*1 by omega];show zL (ones n _) _ 1 false=_;rw[abI n _ (k+j) hkj];rfl
   by_cases h0:U (k+j) k=0
   .have e1:decide (bn (U (k+j) k)=⟨#[]⟩)=true:=bh (by rw[h0];rfl)
    simp(disch:=try exact jz) only[go_sem,z3,t0,t1,t7,t8,e0,hcl,ak hkb',ak qr,e1]
    refine⟨n-k-(j+1),jb,j+1,rfl,jb,rfl,λa ha=>?_,fr⟩
    grind
   .have e1:=aj0 (show 0<U (k+j) k by omega)
    simp(disch:=try exact jz) only[go_sem,z3,t0,t1,t7,t8,e0,hcl,ak hkb',ak qr,e1]
    exact⟨⟨j,rfl,hkj,h0⟩,fr⟩
  .exfalso
   obtain⟨i,h1,h2,h3⟩:=hex
   exact h3 (by have:=hd (i-k) jb;grind)
def abd{σ:St}(hW:WF σ){iv:B}{l:List Nat}(hl:Yu σ.h iv l)(hl1:l.length<=1000)(k:Nat):
  aC EN 144 [.c iv,.c (.int .i64 (.ofNat k))] σ λr σ'=>r=.c (.bool (decide (k∈l)))/\Fr σ σ':=by
 refine aP (jw.o _ _) jw.h ?_
 unfold jw
 dsimp only
 have hlen:=hl.len
 have hix:=λ(args:List V) (σ:St) (K:V->St->Prop)=>jD (E:=EN) (K:=K) (lH.o args σ) lH.h
 unfold lH at hix
 dsimp only at hix
 simp(disch:=try exact jz) only[go_sem,z3,hix,hlen]
 refine aF (λq tm σ'=>∃j,q=l.length-j/\j<=l.length/\Tr.ah tm 0=.c iv/\Tr.ah tm 1=.c (.int .i64 (.ofNat k))/\Tr.ah tm 7=.c (.int .i64 (.ofNat l.length))/\Tr.ah tm 8=.c (.int .i64 (.ofNat j))/\(∀a,a<j->at0 l a≠k)/\Fr σ σ') l.length ?_ ?_
 .refine⟨0,jb,jb,?_⟩
  simp(disch:=try exact jz) only[go_sem,z3,am]
  grind[Fr.refl]
 .rintro q tm σ' ⟨j,rfl,hj,t0,t1,t7,t8,hd,hf⟩
  have jM:=Fr.refl hf.wf
  simp(disch:=try exact jz) only[go_sem,z3,t0,t1,t7,t8,aG]
  refine aH (λhlt=>?_) (λhlt=>?_)
  .obtain⟨bb,o,c,rfl,hld⟩:=hl.one jb
   have hld:=hf.ld hW (hld j hlt)
   by_cases e:k=at0 l j
   .have hin:k∈l:=by grind[jc]
    have e1:decide (k=at0 l j)=true:=bh e
    simp(disch:=try exact jz) only[go_sem,z3,t0,t1,t7,t8,hld,e1,show decide (Int.ofNat 0<=Int.ofNat j)=true from bh kc]
    grind
   .have e1:decide (k=at0 l j)=false:=az e
    simp(disch:=try exact jz) only[go_sem,z3,t0,t1,t7,t8,hld,e1]
    refine⟨l.length-(j+1),jb,j+1,rfl,jb,rfl,λa ha=>?_,hf⟩
    grind
  .have:j=l.length:=jb
   subst this
   have hin:k∉l:=λh=>by grind[EF]
   simp(disch:=try exact jz) only[go_sem,z3,t0,Yy]
   grind
def akh{σ:St}(hW:WF σ){p:Nat->Prop}{v:B}{n m:Nat}{A:Nat->Nat->Rat}(hA:dS p σ.h v n (λ_=>m) A)(hn:0<n)(hn2:n<=16)(hm:0<m)(hm2:m<=16){a:Nat}(hz:DR n m a A)(ha:KH a m<=50000000):
  aC EN 143 [.c v] σ λr σ'=>(∃mb pb,r=.aX (.c (.sl mb 0 n (.ex n))) (.aX (.c (aS (ech n A m).2.length pb)) (.aX (.c (.int .i64 (.ofNat 0))) .tnil))
   /\dS (Lt σ'.aj) σ'.h (.sl mb 0 n (.ex n)) n (λ_=>m) (ech n A m).1/\Yu σ'.h (aS (ech n A m).2.length pb) (ech n A m).2)/\Fr σ σ':=by
 refine aP (vG.o _ _) vG.h ?_
 unfold vG
 dsimp only
 have hlen:=hA.len
 obtain⟨b6,o6,c6,T,rfl,-,bY,hT⟩:=hA.at hn
 have vJ:ld σ.h b6 (o6+0*1) 1 false=some (.c T):=bY
 have hlT:=aW.len hT
 have hxa:=ajX a m
 have hzs:∀i k,i<n->k<m->Sz (A i k):=λi k hi hk=>(hz.rat hi hk).sz jb
 simp(disch:=try exact jz) only[go_sem,z3]
 refine(YC hW hA hn hn2 hm hm2).mono ?_
 rintro _ σ1 ⟨rfl,hf1⟩
 simp(disch:=try exact jz) only[go_sem,z3,ofNat_eq]
 refine(Pv hf1.wf (hA.fr hW hf1) hn2 hm jb hzs).mono ?_
 rintro _ σ2 ⟨⟨mb,bs,rfl,hmb,hM⟩,hf2⟩
 have as4:=hf1.trans hf2
 have vJ:=as4.ld hW vJ
 have hle2:=as4.le
 have hb:=hM.b
 simp(disch:=try exact jz) only[go_sem,z3,vJ,hlT]
 refine(aj8 hf2.wf hM jp hn2 hm2 jp hz ha).mono ?_
 rintro _ σ3 ⟨⟨bs',pb,rfl,hM3,hN3⟩,hk3⟩
 have hf3:=oD.fr as4 hk3 (by have:=hf1.le;omega)
 have hle3:=hk3.le
 have aiL:=Fr.refl hf3.wf
 simp(disch:=try exact jz) only[go_sem,z3,am]
 have oO:Fr σ3 ⟨hset (hset σ3.h σ3.aj ⟨[.bool (rn 0),.str (rs 0),.str (rd 0)],none⟩) σ3.aj ⟨[.bool (rn (wM n A m)),.str (rs (wM n A m)),.str (rd (wM n A m))],none⟩,σ3.aj+1⟩:=fr
 refine⟨⟨mb,pb,rfl,(hM3.rows (p:=Lt σ3.aj) λb hb=>by show b<σ3.aj;have:=hM.l;omega).keep (λb hb=>oO.old b hb) λb hb=>Nat.lt_succ_of_lt hb,?_⟩,hf3.trans oO⟩
 exact HL.fr hf3.wf oO (aW.hl (hN3.hlp jj (λ_ _=>rfl) (p:=Lt σ3.aj) λb _ h=>h))
def iw(g:gQ)(i:Nat):Rat:=(ix g.e i).m.q
def meas(g:gQ)(x:Nat->Rat)(t:Rat):Nat:=mu g.e.length (bf g) x+if t=1 then 0 else 1
def wO(g:gQ)(x:Nat->Rat)(t:Rat):Prop:=∃B b,60∣B/\0<B/\B<=2^b/\b+400000*meas g x t<=180000000/\(∀i,i<g.e.length->SmB B (x i))/\dR B t
theorem ada{W:Rat}{q:fC->Rat}:∀(t:List fC) (Q:Rat),A8 W q Q t<=t.length
 |[],_=>jp
 |l::t,Q=>by have:=ada (W:=W) (q:=q) t (Q+q l);unfold A8;rw[bZ];split<;>omega
def adb{g:GL}{q:fC->Rat}{k:Nat}:∀{l:List (Rat×List fC)},(∀d∈l,d.2.length<=k)->Ql g q l<=l.length*k
 |[],_=>br _
 |d::l,h=>by have h1:=adb (g:=g) (q:=q) (l:=l) λe he=>h e (by simp[he]);have h2:=h d kc;grind[ada,Ql,Nat.succ_mul]
def YJ{f:Nat->Nat}{k:Nat}:∀n,(∀i,i<n->f i<=k)->Ah n f<=n*k
 |0,_=>br _
 |n+1,h=>by have h1:=YJ n λi hi=>h i jb;grind[Ah]
section
variable {g:gQ} {x d:Nat→Rat} {t v:Rat} {q:Nat}
def jO.awC(h:jO g)(x:Nat->Rat):mu g.e.length (bf g) x<=140:=by have h1:=YJ (f:=λi=>opn ((bf g).e i) (x i)) (k:=16) g.e.length λi hi=>h.apa hi (x i);have h2:=adb (g:=bf g) (q:=gq (bf g) x) (k:=4) (l:=(bf g).ds) λd hd=>(h.aje hd).2.1;have h3:=h.n;have h4:=h.d3;grind[xZ,mu]
def JR(h:jO g):wO g (λ_=>0) 0:=by have:=h.awC λ_=>0;refine⟨60,6,im _,jj,jj,?_,λi _=>⟨dR.zero _,aR,show(0:Rat)<=100000 by decide⟩,dR.zero _⟩;grind[meas]
def jO.awD(h:jO g){least:Bool}(hI:BM h.EU (iw g) least x t){i:Nat}(hi:i<g.e.length):0<=x i/\x i<=100000:=by refine⟨hI.nn i hi,?_⟩;have h1:=hI.fix i hi;have h2:=h.awu hI.nn i;have h3:=(h.m i hi).2.2;have h4:=bp hI.t1 h3.1;have e:(vS h.EU).G x i=gG g.e.length (bf g) x i:=rfl;grind[iw]
def wO.nr(h:jO g)(hP:wO g x t)(hd:∀i,i<g.e.length->0<=d i)(hdz:EW g.e.length q d)(hq:q<=120000):∃D,NrN D g x d:=by obtain⟨B,b,h6,h0,hb,hb2,hx,-⟩:=hP;exact⟨_,(h.nr h0 h6 hb jb hx hd hdz jb).1⟩
def wO.ajz(h:jO g)(hP:wO g x t)(hd:∀i,i<g.e.length->0<=d i)(hdz:EW g.e.length q d)(hq:q<=120000)(hv:v∈jX g.e.length (bf g) (mW g x) x d){least:Bool}{t':Rat}(ht:t'=t\/t'=t+v)(hI:BM h.EU (iw g) least (aZ x d v) t')(hm:meas g (aZ x d v) t'<meas g x t):
  wO g (aZ x d v) t'/\Sz v:=by
 obtain⟨B,b,h6,h0,hb,hb2,hx,htD⟩:=hP
 obtain⟨hZ,H,k1,k2,k3,k4⟩:=(h.nr h0 h6 hb jb hx hd hdz jb).2 v hv
 obtain⟨Q,q1,q2,q3⟩:=hdz
 have hBQ:=ck k2 q1
 refine⟨⟨H*Q,b+1000+2*q+q,bX h6 (bX k1 (be _ _)),hBQ,nY k3 q2,jb,λi hi=>?_,?_⟩,hZ.sz jb⟩
 .obtain⟨z,ez,-⟩:=q3 i hi
  have hf:=h.awD hI hi
  exact⟨((hx i hi).1.dvd (bX k1 (be _ _)) hBQ).add (dR.mul k2 q1 k4 ⟨z,ez⟩),hf.1,hf.2⟩
 .have e1:=htD.dvd (bX k1 (be _ Q)) hBQ
  rcases ht with rfl|rfl
  .exact e1
  .exact e1.add (k4.dvd (be _ _) hBQ)
def wO.last(h:jO g)(hP:wO g x t)(hdz:EW g.e.length q d)(hq:q<=120000)(ht:t≠1){least:Bool}(hI:BM h.EU (iw g) least (aZ x d (1-t)) 1)(hm:mu g.e.length (bf g) (aZ x d (1-t))<=mu g.e.length (bf g) x):
  wO g (aZ x d (1-t)) 1:=by
 obtain⟨B,b,h6,h0,hb,hb2,hx,htD⟩:=hP
 obtain⟨Q,q1,q2,q3⟩:=hdz
 have hBQ:=ck h0 q1
 have hone:dR B (1:Rat):=⟨B,by have:=iI h0;have e:(((B:Nat):Int):Rat)=((B:Nat):Rat):=rfl;grind⟩
 have hlt:meas g (aZ x d (1-t)) 1<meas g x t:=by grind[meas]
 refine⟨B*Q,b+q,bX h6 (be _ _),hBQ,nY hb q2,jb,λi hi=>?_,hone.dvd (be _ _) hBQ⟩
 obtain⟨z,ez,-⟩:=q3 i hi
 have hf:=h.awD hI hi
 exact⟨((hx i hi).1.dvd (be _ _) hBQ).add (dR.mul h0 q1 (hone.sub htD) ⟨z,ez⟩),hf.1,hf.2⟩
def wO.sz(hP:wO g x t)(h0:0<=t)(h1:t<=1):(∀i,i<g.e.length->Sz (x i))/\Sz t/\Sz (1-t):=by
 obtain⟨B,b,h6,hB,hb,hb2,hx,htD⟩:=hP;have hone:dR B (1:Rat):=⟨B,by have:=iI hB;have e:(((B:Nat):Int):Rat)=((B:Nat):Rat):=rfl;rw[e];grind⟩
 exact⟨λi hi=>(DT hB hb (hx i hi).1 (by have:=(hx i hi).2.1;grind) (hx i hi).2.2).sz jb,(DT hB hb htD kd kd).sz jb,(DT hB hb (hone.sub htD) kd kd).sz jb⟩
def wO.awE(h:jO g)(hP:wO g x t)(hd:∀i,i<g.e.length->0<=d i)(hdz:EW g.e.length q d)(hq:q<=120000)(h0:0<=t)(h1:t<=1)(hv:v∈jX g.e.length (bf g) (mW g x) x d\/v=1-t):Sz v/\∀i,i<g.e.length->Sz (d i)/\Sz (v*d i):=by
 obtain⟨B,b,h6,hB,hb,hb2,hx,htD⟩:=hP;have hone:dR B (1:Rat):=⟨B,by have:=iI hB;have e:(((B:Nat):Int):Rat)=((B:Nat):Rat):=rfl;grind⟩
 have hZ:lN (b+2000+2*q) v:=by
  rcases hv with hv|rfl
  .exact((h.nr hB h6 hb jb hx hd hdz jb).2 v hv).1
  .exact(DT hB hb (hone.sub htD) kd kd).mono jb
 exact⟨hZ.sz jb,λi hi=>⟨(hdz.rat hi).sz jb,(hZ.mul (hdz.rat hi)).sz jb⟩⟩
def wO.mg(h:jO g)(hP:wO g x t):∃D,U9 D g x:=by obtain⟨B,b,h6,hB,hb,hb2,hx,-⟩:=hP;exact⟨_,h.mg hB h6 hb jb hx⟩
def wO.map(h:jO g)(hP:wO g x t):∃D,Vd 60 D g x:=by obtain⟨B,b,h6,hB,hb,hb2,hx,-⟩:=hP;exact⟨_,h.map hB h6 hb jb hx⟩
def jO.mz(h:jO g)(hx:∀i,i<g.e.length->0<=x i):(∀j i,j<g.e.length->i<g.e.length->Sz (gM g.e.length (bf g) x j i))/\(∀i,i<g.e.length->Sz (gM g.e.length (bf g) x i i-1))/\∀i k,i<g.e.length->k<=g.e.length->Sz (aB k λj=>gM g.e.length (bf g) x j i):=by
 obtain⟨p1,p2⟩:=h.gE hx;have hone:dR (Xe.gE g x) (1:Rat):=⟨Xe.gE g x,by have:=iI p1;have e:(((Xe.gE g x:Nat):Int):Rat)=((Xe.gE g x:Nat):Rat):=rfl;grind⟩
 refine⟨λj i hj hi=>?_,λi hi=>?_,λi k hi hk=>?_⟩
 .have:=h.m01 hx hj hi;exact(DT p1 p2 (h.mD hx hi) kd kd).sz jj
 .have:=h.m01 hx hi hi;exact(DT p1 p2 ((h.mD hx hi).sub hone) kd kd).sz jj
 .have key:∀k,k<=g.e.length->0<=aB k (λj=>gM g.e.length (bf g) x j i)/\aB k (λj=>gM g.e.length (bf g) x j i)<=(k:Rat):=λk=>by
   induction k with
   |zero=>intro _;exact⟨aR,aR⟩
   |succ k ih=>
    intro hk
    have a:=ih jb
    have b:=h.m01 hx (j:=k) jb hi
    have e:((k+1:Nat):Rat)=(k:Rat)+1:=ff _ _
    grind[aB]
  have hk8:((k:Nat):Rat)<=((8:Nat):Rat):=bj.mpr (by have:=h.n;omega);have e8:((8:Nat):Rat)=8:=rfl;have:=key k hk;exact(DT p1 p2 (aaX λj _=>h.mD hx hi) kd kd).sz jj
end
def JU(P:List Nat)(k:Nat):Bool:=!decide (k∈P)
def kvT(m:Nat)(F:Nat->Nat->Rat)(P:List Nat)(j:Nat):Nat->Rat:=kvF F P (at0 (iq (JU P) m) j)
def awF{m:Nat}{F:Nat->Nat->Rat}{P:List Nat}{f:Nat}:bU m (aN (λ_=>0) f 1)=bU m (kvS F P f 0):=dA λk _=>by rfl
def as5{m:Nat}{F:Nat->Nat->Rat}{P:List Nat}{f r:Nat}:bU m (aN (kvS F P f r) (at0 P r) (-F r f))=bU m (kvS F P f (r+1)):=dA λk _=>by rfl
def aki{σ:St}(hW:WF σ){p:Nat->Prop}{v:B}{n m:Nat}{A:Nat->Nat->Rat}(hA:dS p σ.h v n (λ_=>m) A)(hn:0<n)(hn2:n<=16)(hm:0<m)(hm2:m<=16){a:Nat}(hz:DR n m a A)(ha:KH a m<=50000000):
  aC EN 109 [.c v] σ λr σ'=>(∃b,r=.aX (.c (aS (iq (JU (ech n A m).2) m).length b)) (.aX (.c (.int .i64 (.ofNat 0))) .tnil)/\dS (Lt σ'.aj) σ'.h (aS (iq (JU (ech n A m).2) m).length b) (iq (JU (ech n A m).2) m).length (λ_=>m) (kvT m (ech n A m).1 (ech n A m).2))/\Fr σ σ':=by
 refine aP (vF.o _ _) vF.h ?_
 unfold vF
 dsimp only
 have hng:=λ(args:List V) (σ:St) (K:V->St->Prop)=>jD (E:=EN) (K:=K) (eX.o args σ) eX.h
 unfold eX at hng
 dsimp only at hng
 have hE:=JK n m A m
 have hFZ:=Sr hz (c:=m) jp
 simp(disch:=try exact jz) only[go_sem,z3]
 refine(akh hW hA hn hn2 hm hm2 hz ha).mono ?_
 rintro _ σ1 ⟨⟨mb,pb,rfl,hF,hI⟩,hf1⟩
 generalize hEP:ech n A m=EP at*
 obtain⟨F,P⟩:=EP
 dsimp only at*
 have hPl:=hE.len
 have hPm:=hE.inc
 have Ox:=hI.len
 obtain⟨b0,o0,c0,T0,e0,-,vJ,hT0⟩:=hF.at hn
 cases e0
 have vJ:ld σ1.h mb (0+0*1) 1 false=some (.c T0):=vJ
 have awG:=aW.len hT0
 simp(disch:=try exact jz) only[go_sem,z3,ofNat_eq,vJ,awG]
 refine aF (λq tm σ2=>∃f b T,q=m-f/\f<=m/\Tr.ah tm 4=.c (.sl mb 0 n (.ex n))/\Tr.ah tm 5=.c (aS P.length pb)/\Tr.ah tm 7=.c (aS (iq (JU P) f).length b)/\Tr.ah tm 24=.c (.int .i64 (.ofNat m))/\Tr.ah tm 25=.c (.int .i64 (.ofNat f))
   /\aaE T (λ_=>m) (kvT m F P) 30 σ2.h b (iq (JU P) f).length σ1.aj σ2.aj/\Fr σ1 σ2) m ?_ ?_
 .refine⟨0,σ1.aj,λ_=>.aY,jb,jb,?_⟩
  simp(disch:=try exact jz) only[go_sem,z3,am]
  exact⟨rfl,NF.nil (aiO _),Fr.refl hf1.wf⟩
 .rintro q tm σ2 ⟨f,b,T,rfl,hfm,t4,t5,t7,t24,t25,hN,hf2⟩
  have hle2:=hf2.le
  simp(disch:=try exact jz) only[go_sem,z3,t4,t5,t7,t24,t25,aG]
  refine aH (λhlt=>?_) (λhlt=>?_)
  .simp(disch:=try exact jz) only[go_sem,z3,t4,t5,t7,t24,t25]
   refine(abd hf2.wf (hI.fr hf1.wf hf2) jb f).mono ?_
   rintro _ σ3 ⟨rfl,hf3⟩
   have hle3:=hf3.le
   have hF3:=hf2.trans hf3
   have hN3:=hN.mono (λj _=>DI _ _ _ j) (λb h1 h2=>hf3.old b h2) hle3
   by_cases hfP:f∈P
   .have e:iq (JU P) (f+1)=iq (JU P) f:=ae (by grind[JU])
    simp(disch:=try exact jz) only[go_sem,z3,t4,t5,t7,t24,t25,bh hfP]
    exact⟨m-(f+1),jb,f+1,b,T,rfl,jb,by rw[e],rfl,by grind,hF3⟩
   .have hfr:JU P f=true:=by grind[JU]
    have e:iq (JU P) (f+1)=iq (JU P) f++[f]:=ab hfr
    have e2:(iq (JU P) (f+1)).length=(iq (JU P) f).length+1:=by grind
    have hat:=acZ (JU P) hlt hfr
    have awH:=hF3.ld hf1.wf vJ
    have aiL:=Fr.refl hf3.wf
    have z1:=sz1
    simp(disch:=try exact jz) only[go_sem,z3,t4,t5,t7,t24,t25,az hfP,awH,awG]
    refine bF.mono (Q:=λex tm σ5=>ex=.exit 2/\Tr.ah tm 4=.c (.sl mb 0 n (.ex n))/\Tr.ah tm 5=.c (aS P.length pb)/\Tr.ah tm 7=.c (aS (iq (JU P) f).length b)/\Tr.ah tm 9=.c (.sl σ3.aj 0 m (.ex m))/\Tr.ah tm 24=.c (.int .i64 (.ofNat m))/\Tr.ah tm 25=.c (.int .i64 (.ofNat f))
      /\σ5.h σ3.aj=some ⟨bU m (kvF F P f),none⟩/\Fr σ3 σ5/\σ3.aj+1<=σ5.aj)
     (aF (λq tm σ5=>∃r,q=P.length-r/\r<=P.length/\Tr.ah tm 4=.c (.sl mb 0 n (.ex n))/\Tr.ah tm 5=.c (aS P.length pb)/\Tr.ah tm 7=.c (aS (iq (JU P) f).length b)/\Tr.ah tm 8=.c (.int .i64 (.ofNat f))/\Tr.ah tm 9=.c (.sl σ3.aj 0 m (.ex m))/\Tr.ah tm 24=.c (.int .i64 (.ofNat m))/\Tr.ah tm 25=.c (.int .i64 (.ofNat f))/\Tr.ah tm 40=.c (aS P.length pb)/\Tr.ah tm 41=.c (.int .i64 (.ofNat P.length))/\Tr.ah tm 42=.c (.int .i64 (.ofNat r))
      /\σ5.h σ3.aj=some ⟨bU m (kvS F P f r),none⟩/\Fr σ3 σ5/\σ3.aj+1<=σ5.aj) P.length ?_ ?_) ?_
    .refine⟨0,jb,jb,?_⟩
     simp(disch:=try exact jz) only[go_sem,z3,am,t4,t5,t7,t24,t25,Ox,awF]
     exact⟨rfl,fr,jb⟩
    .rintro q tm5 σ5 ⟨r,rfl,hr,t4,t5,t7,t8,t9,t24,t25,t40,t41,t42,q9,hf5,hn5⟩
     have DK:=Fr.refl hf5.wf
     simp(disch:=try exact jz) only[go_sem,z3,t4,t5,t7,t8,t9,t24,t25,t40,t41,t42,aG]
     refine aH (λana=>?_) (λana=>?_)
     .obtain⟨bi,oi,ci,ei,Qn⟩:=hI.one jb
      have iE:=hF3.trans hf5
      have Qn:=iE.ld hf1.wf (Qn r ana)
      have ai:V.c (.sl bi oi P.length ci)=V.c (aS P.length pb):=by rw[ei]
      rw[ei]at t40
      obtain⟨b0,o0,c0,Tr',e0,-,an6,hTr⟩:=hF.at (show r<n by omega)
      cases e0
      obtain⟨b7,o7,c7,rfl,-,dN⟩:=aW.at3 hTr hlt
      have an6:=iE.ld hf1.wf an6
      rw[cK]at an6
      have dN:=iE.ld hf1.wf dN
      have hin:=hPm r ana
      have z2:Sz (F r f):=(hFZ.rat (show r<n by omega) hlt).sz jb
      have hl9:=hf5.wf.lt q9
      simp(disch:=try exact jz) only[go_sem,z3,t4,t5,t7,t8,t9,t24,t25,t40,t41,t42,Qn,an6,dN,hng,q9,aJ q9,as5]
      exact⟨P.length-(r+1),jb,r+1,rfl,jb,ai,rfl,rfl,fr,jb⟩
     .have:r=P.length:=jb
      subst this
      simp(disch:=try exact jz) only[go_sem,z3,am]
      exact⟨t4,t5,t7,t9,t24,t25,q9,hf5,hn5⟩
    .rintro _ tm5 σ5 ⟨rfl,t4,t5,t7,t9,t24,t25,q9,hf5,hn5⟩
     have zk:=hf5.le
     have DK:=Fr.refl hf5.wf
     have hN5:=hN3.mono (λj _=>DI _ _ _ j) (λb h1 h2=>hf5.old b h2) jp
     have hg:=hN5.g
     have hL:=hN5.L
     have hl1:=hN5.l1
     have hl2:=hN5.l2
     have hlb:=IW (JU P) f
     simp(disch:=try exact jz) only[go_sem,z3,t4,t5,t7,t9,t24,t25,hg]
     have ekv:kvT m F P (iq (JU P) f).length=kvF F P f:=by unfold kvT;rw[hat]
     rw[<-ekv]at q9
     have iE:=hF3.trans hf5
     refine⟨m-(f+1),jb,f+1,σ5.aj+1,aN T (iq (JU P) f).length (.sl σ3.aj 0 m (.ex m)),rfl,jb,by rw[e2];rfl,rfl,?_,fr⟩
     rw[e2]
     refine aaE.push hN3 (hi1:=σ5.aj) (h1:=σ5.h) (bC _ q9 rfl ⟨jp,hn5⟩ (λ_=>rfl) jj λ_ _=>rfl) (λb h1 h2=>hf5.old b h2) jb (eI _) (cg _) jb (aA _ _ _) λc h1 h2 h3=>?_
     rw[au _ _ _ _ jb,fA _ _ _ _ jb,au _ _ _ _ jb]
  .have:f=m:=jb
   subst this
   simp(disch:=try exact jz) only[go_sem,z3,t7]
   exact⟨⟨b,rfl,hN.hrows λb _ h=>h⟩,hf1.trans hf2⟩
end Go.Proofs.Xe
