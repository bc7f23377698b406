import Derived.Test.YthkggcakedkboaaGreatDoorYd40
set_option linter.all false
set_option maxRecDepth 100000
set_option maxHeartbeats 8000000
namespace Go.Proofs.Xe
open Go.RowKit Go.Proofs.Ins
def ajJ{r:Nat}{l:List Rat}(h:∀v∈l,lH r v)(hr:r<=200000000):Sz (gq0 (zZ l)):=by
 rcases U6 l with⟨-,e⟩|⟨m,e,hm,-⟩
 .rw[e];exact Sz.zero
 .rw[e];exact(h m hm).sz hr
section
variable {g:gW} {B b q:Nat} {x d:Nat→Rat}
def kD.ch0(h:kD g)(hB0:0<B)(hb:B<=2^b)(hx:∀i,i<g.e.length->SmB B (x i)){i:Nat}(hi:i<g.e.length):ChS B b (dH (ix g.e i)) (x i):=
 ⟨B,0,ie _,hB0,jb,by have:=h.aov hi (x i);omega,(hx i hi).1,(hx i hi).2.1,(hx i hi).2.2⟩
def kD.ny(h:kD g)(hB0:0<B)(h6:60∣B)(hb:B<=2^b)(hx:∀i,i<g.e.length->SmB B (x i))(hdz:EL g.e.length q d){i:Nat}(hi:i<g.e.length)(hp:0<d i){y:Rat}(hy:nxE (dH (ix g.e i)) (kE g.e i) (x i)=some y):
  lH (b+993) y/\lH (b+993) (y-x i)/\afd B (b+1000+2*q) (b+2000+2*q) ((y-x i)/d i):=by
 obtain⟨h1,-⟩:=ajI h hi (hx i hi).2.1 (x:=x)
 rw[hy]at h1
 have hyx:=((abN (h.nn hi) h1 (hx i hi).2.1 λ_ _=>rfl).yes y rfl).1
 obtain⟨B',k,c1,c2,c3,c4,c5,c6,c7⟩:=ChS.aj h hi h6 h1 (h.ch0 hB0 hb hx hi) y rfl
 obtain⟨xD,x0,x1⟩:=hx i hi
 have c3:B'<=2^(b+976):=av c3 (yH jb)
 have hD:=c5.sub (xD.dvd c1 c2)
 have z1:=F8 c2 c3 c5 (by clear c3;grind) c7
 have z2:=F8 c2 c3 hD (by clear c3;grind) (by clear c3;grind)
 have z3:=hdz.rat hi
 refine⟨z1,z2,(z2.div z3 (by clear c3;grind)).mono jb,?_⟩
 obtain⟨Q,q1,q2,q3⟩:=hdz
 obtain⟨z,ez,-⟩:=q3 i hi
 obtain⟨w,w0,w1,wD⟩:=Vh (K:=2^q) c2 q1 (hD.dvd (aM _ _) (cn c2 q1)) ⟨z,ez⟩ hp z3.le
 refine⟨B'*w,bR c1 (aM _ _),cn c2 w0,?_,wD⟩
 have:=oq c3 (av w1 (oq jp q2))
 exact av this (yH jb)
def kD.c_e(h:kD g)(hB0:0<B)(h6:60∣B)(hb:B<=2^b)(hx:∀i,i<g.e.length->SmB B (x i))(hdz:EL g.e.length q d){i:Nat}(hi:i<=g.e.length):∀v∈AY (mG g x) d i,afd B (b+1000+2*q) (b+2000+2*q) v:=λv hv=>by
 obtain⟨k,h1,h2,y,h3,rfl⟩:=(xP i).mp hv;unfold mG at h3;cases ho:nxE (dH (ix g.e k)) (kE g.e k) (x k)with
 |none=>grind
 |some w=>
  rw[ho]at h3
  cases h3
  exact(h.ny hB0 h6 hb hx hdz jb h2 ho).2.2
def kD.ds(h:kD g){j:Nat}(hj:j<g.d.length):(dW g j,dL g j)∈(aX g).ds:=by rw[<-OG hj];grind[fO,xO]
def kD.c_d(h:kD g)(hB0:0<B)(h6:60∣B)(hb:B<=2^b)(hx:∀i,i<g.e.length->SmB B (x i))(hd:∀i,i<g.e.length->0<=d i)(hdz:EL g.e.length q d){j:Nat}(hj:j<g.d.length)(k:Nat):
  lH (b+425) (dW g j-aJ ((dL g j).take k) (gq (aX g) x))/\lH (430+2*q) (aJ ((dL g j).take k) (gr (aX g) x d))/\(0<aJ ((dL g j).take k) (gr (aX g) x d)->afd B (b+1000+2*q) (b+2000+2*q) ((dW g j-aJ ((dL g j).take k) (gq (aX g) x))/aJ ((dL g j).take k) (gr (aX g) x d))):=by
 have hx0:∀i,i<g.e.length->0<=x i:=λi hi=>(hx i hi).2.1
 obtain⟨p1,p2⟩:=h.gE hx0
 have heB:=Ym
 obtain⟨w1,w2,w3⟩:=h.aiN (h.ds hj)
 have hl:∀l∈(dL g j).take k,l∈(aX g).eX:=λl hl=>w3 l (di hl)
 have hk:((dL g j).take k).length<=4:=by grind
 generalize (dL g j).take k=t at hl hk
 have hln:∀l∈t,l.1<g.e.length:=λl hlt=>(h.JX.eX l (hl l hlt)).1
 have hBE:=cn hB0 p1
 have avL:=oq hb p2
 have w1:pF 60 60 (dW g j):=w1
 have nD:dU (B*Xe.gE g x) (dW g j-aJ t (gq (aX g) x)):=by refine(w1.1.dvd (bR h6 (aM _ _)) hBE).sub (dU.sum λl hlt=>?_);have hi:=hln l hlt;exact(aia jj hB0 h6 (h.ed l.1 hi) (hx l.1 hi).1 (hx l.1 hi).2.1 l.2).dvd (cE _ (Vb x hi)) hBE
 have q0:0<=aJ t (gq (aX g) x):=mX λl hlt=>(h.ajH hx0 (hl l hlt)).1
 have q1:=qY (f:=gq (aX g) x) (v:=2880) jj (l:=t) (k:=4) (λl hlt=>(h.ajH hx0 (hl l hlt)).2) hk
 have e4:((4:Nat):Rat)=4:=rfl
 have w2:=w1.2
 have zn:=F8 hBE avL nD kd kd
 have hdr:=λi (hi:i<g.e.length)=>hdz.rat hi
 obtain⟨Q,a1,a2,a3⟩:=hdz
 have hEQ:=cn p1 a1
 have aow:=oq p2 a2
 have dD:dU (Xe.gE g x*Q) (aJ t (gr (aX g) x d)):=dU.sum λl hlt=>by have hi:=hln l hlt;obtain⟨z,ez,-⟩:=a3 l.1 hi;exact dU.mul p1 a1 (h.slD hx0 hi l.2) ⟨z,ez⟩
 have hN:(0:Rat)<=((2^q:Nat):Rat):=br.mpr (bp _)
 have hgr:∀l∈t,0<=gr (aX g) x d l/\gr (aX g) x d l<=1000001*((2^q:Nat):Rat):=λl hlt=>by have hi:=hln l hlt;have s1:=qN (h.nn hi) (hx0 _ hi) l.2;have s2:=U3 (h.ed l.1 hi).uq (h.eb l.1 hi) (hx0 _ hi) l.2;have s3:=hd l.1 hi;have s4:=(hdr l.1 hi).le;refine⟨cg s1 s3,?_⟩;have s5:=bh s2 s3;have s6:=da s4 (show(0:Rat)<=1000001 by decide);show xH (dH (ix g.e l.1)) (x l.1) l.2*d l.1<=_;grind
 have r0:0<=aJ t (gr (aX g) x d):=mX λl hlt=>(hgr l hlt).1
 have r1:=qY (f:=gr (aX g) x d) (v:=1000001*((2^q:Nat):Rat)) (cg jj hN) (l:=t) (k:=4) (λl hlt=>(hgr l hlt).2) hk
 have hK:((4000004*2^q:Nat):Rat)=((4:Nat):Rat)*(1000001*((2^q:Nat):Rat)):=by rw[eQ,e4];have:((4000004:Nat):Rat)=4000004:=rfl;rw[this];grind
 rw[<-hK]at r1
 have hK2:4000004*2^q<=2^(22+q):=by rw[dT];exact bo _ jj
 have zd:=(Ve hEQ aow dD hK2 (by have:(0:Rat)<=((4000004*2^q:Nat):Rat):=br.mpr (bp _);grind) r1)
 have zd:lH (430+2*q) (aJ t (gr (aX g) x d)):=zd.mono jb
 refine⟨zn.mono jb,zd,λhpos=>⟨(zn.div zd kd).mono jb,?_⟩⟩
 obtain⟨w,v0,v1,vD⟩:=Vh hB0 hEQ (nD.dvd (cE _ (aM _ _)) (cn hB0 hEQ)) dD hpos r1
 refine⟨B*w,aM _ _,cn hB0 v0,?_,vD⟩
 have:=oq hb (av v1 (oq hK2 aow))
 exact av this (yH jb)
def kD.c_p(h:kD g)(hB0:0<B)(h6:60∣B)(hb:B<=2^b)(hx:∀i,i<g.e.length->SmB B (x i))(hd:∀i,i<g.e.length->0<=d i)(hdz:EL g.e.length q d){D:Rat×List fA}(hD:D∈(aX g).ds){k:Nat}:∀v∈pW D.1 (gq (aX g) x) (gr (aX g) x d) 0 0 (D.2.take k),afd B (b+1000+2*q) (b+2000+2*q) v:=λv hv=>by
 obtain⟨j,hj,ej⟩:=aL hD;have hj2:j<g.d.length:=by grind[xO]
 have e0:D=(dW g j,dL g j):=by rw[<-ej,<-OG hj2];grind[dV]
 subst e0;obtain⟨k',h1,h2,h3⟩:=acN _ _ _ v hv;rw[gA]at h2 h3;rw[gA,List.take_take]at h2;rw[List.take_take]at h3;rw[h2];exact(h.c_d hB0 h6 hb hx hd hdz hj2 _).2.2 h3
def kD.nr(h:kD g)(hB0:0<B)(h6:60∣B)(hb:B<=2^b)(hb2:b<=190000000)(hx:∀i,i<g.e.length->SmB B (x i))(hd:∀i,i<g.e.length->0<=d i)(hdz:EL g.e.length q d)(hq:q<=1000000):
  NrN (B*Xe.gE g x) g x d/\∀v∈jM g.e.length (aX g) (mG g x) x d,afd B (b+1000+2*q) (b+2000+2*q) v:=by
 have hx0:∀i,i<g.e.length->0<=x i:=λi hi=>(hx i hi).2.1
 obtain⟨p1,p2⟩:=h.gE hx0
 have heB:=Ym
 have hall:∀v∈jM g.e.length (aX g) (mG g x) x d,afd B (b+1000+2*q) (b+2000+2*q) v:=λv hv=>by
  rcases bO.mp hv with hv|hv
  .exact h.c_e hB0 h6 hb hx hdz jp v hv
  .obtain⟨D,hD,hv⟩:=bX.mp hv;rw[<-ck (l:=D.2)]at hv;exact h.c_p hB0 h6 hb hx hd hdz hD v hv
 refine⟨⟨h.mg hB0 h6 hb jb hx,λi hi=>⟨h.nn hi,hx0 i hi⟩,λi hi=>(hdz.rat hi).sz jb,λi hi _=>⟨ChS B b (dH (ix g.e i)),h.ch0 hB0 hb hx hi,λm hm=>ChS.ok h hi h6 hb2 hm,λm t hm ht=>hm.next h hi h6 ht⟩,λi hi hp y hy=>?_,λi hi=>?_,λj hj k hk=>?_,λj hj l hl=>?_⟩,hall⟩
 .obtain⟨z1,z2,z3⟩:=h.ny hB0 h6 hb hx hdz hi hp hy
  exact⟨z1.sz jb,z2.sz jb,z3.1.sz jb⟩
 .exact ajJ (λv hv=>(h.c_e hB0 h6 hb hx hdz hi v hv).1) jb
 .obtain⟨z1,z2,z3⟩:=h.c_d hB0 h6 hb hx hd hdz hj k
  refine⟨ajJ (r:=b+2000+2*q) (λv hv=>?_) jb,z1.sz jb,z2.sz jb,?_⟩
  .rcases bO.mp hv with hv|hv
   .rcases bO.mp hv with hv|hv
    .exact(h.c_e hB0 h6 hb hx hdz jp v hv).1
    .obtain⟨D,hD,hv⟩:=bX.mp hv
     rw[<-ck (l:=D.2)]at hv
     exact(h.c_p hB0 h6 hb hx hd hdz (di hD) v hv).1
   .exact(h.c_p hB0 h6 hb hx hd hdz (h.ds hj) (k:=k) v hv).1
  .by_cases e:aJ ((dL g j).take k) (gr (aX g) x d)=0
   .grind[Sz.zero]
   .exact(z1.div z2 e).sz jb
 .obtain⟨-,-,w3⟩:=h.aiN (h.ds hj)
  have hle:=w3 l hl
  have hi:=(h.JX.eX l hle).1
  have s1:=qN (h.nn hi) (hx0 _ hi) l.2
  have s2:=U3 (h.ed l.1 hi).uq (h.eb l.1 hi) (hx0 _ hi) l.2
  obtain⟨q0,q1⟩:=h.ajH hx0 hle
  have e1:((1000001:Nat):Rat)=1000001:=rfl
  have zs:lH (eB+20) (xH (dH (ix g.e l.1)) (x l.1) l.2):=Ve (K:=1000001) p1 p2 (h.slD hx0 hi l.2) jj kd jb
  refine⟨?_,?_,?_⟩
  .have hBE:=cn hB0 p1
   exact(F8 hBE (oq hb p2) ((aia jj hB0 h6 (h.ed l.1 hi) (hx l.1 hi).1 (hx l.1 hi).2.1 l.2).dvd (cE _ (Vb x hi)) hBE) (by have:0<=rQ (dH (ix g.e l.1)) (x l.1) l.2:=q0;grind) (by have:rQ (dH (ix g.e l.1)) (x l.1) l.2<=2880:=q1;grind)).sz jb
  .unfold gs
   rw[ab rfl]
   exact zs.sz jb
  .exact(zs.mul (hdz.rat hi)).sz jb
end
def kvS(F:Nat->Nat->Rat)(P:List Nat)(f:Nat):Nat->Nat->Rat
 |0,k=>if k=f then 1 else 0
 |r+1,k=>if k=at0 P r then-F r f else kvS F P f r k
def kvF(F:Nat->Nat->Rat)(P:List Nat)(f:Nat):Nat->Rat:=kvS F P f P.length
def aaS{F:Nat->Nat->Rat}{P:List Nat}{f k:Nat}:∀r,(∀a,a<r->k≠at0 P a)->kvS F P f r k=if k=f then 1 else 0
 |0,_=>rfl
 |r+1,h=>by unfold kvS;rw[ae (h r jb)];exact aaS r λa ha=>h a jb
def ajK{F:Nat->Nat->Rat}{P:List Nat}{f:Nat}(hlt:∀a b,b<a->a<P.length->at0 P b<at0 P a){a:Nat}:∀r,r<=P.length->a<r->kvS F P f r (at0 P a)=-F a f
 |0,_,h=>jb
 |r+1,hr,ha=>by
  unfold kvS;by_cases e:a=r
  .subst e;rw[ab rfl]
  .have:=hlt r a jb jb;rw[ae jb];exact ajK hlt r jb jb
def avM{F:Nat->Nat->Rat}{P:List Nat}{f:Nat}(hlt:∀a b,b<a->a<P.length->at0 P b<at0 P a)(hf:f∉P):kvF F P f f=1/\(∀a,a<P.length->kvF F P f (at0 P a)=-F a f)/\∀k,k∉P->k≠f->kvF F P f k=0:=by
 refine⟨?_,λa ha=>ajK hlt _ jp ha,λk hk hne=>?_⟩
 .have:=aaS (F:=F) (P:=P) (f:=f) (k:=f) P.length λa ha e=>hf (by grind[iR]);rwa[ab rfl]at this
 .have:=aaS (F:=F) (P:=P) (f:=f) (k:=k) P.length λa ha e=>hk (by grind[iR]);rwa[ae hne]at this
section
variable {n:Nat} {M:Nat→Nat→Rat} {l:List Nat}
def sub_one(M:Nat->Nat->Rat)(l:List Nat)(a b:Nat):nR M l a b=1*(vC M l a b-if a=b then 1 else 0):=by unfold nR;grind
def ajL(hl:Iz n M l):∃f,f<l.length/\f∉(ech l.length (nR M l) l.length).2:=
 am2 (Jz _ _ _ _) (aeV hl.nodup hl.lt hl.am5 hl.ne hl.col _ 1 λa b _ _=>sub_one M l a b)
def anw(hM:Ko n M)(hl:Iz n M l){f:Nat}(hf:f<l.length)(hfP:f∉(ech l.length (nR M l) l.length).2):
  (∀j,j<n->pG l (kvF (ech l.length (nR M l) l.length).1 (ech l.length (nR M l) l.length).2 f) j=mv n M (pG l (kvF (ech l.length (nR M l) l.length).1 (ech l.length (nR M l) l.length).2 f)) j)/\∀i∈l,0<pG l (kvF (ech l.length (nR M l) l.length).1 (ech l.length (nR M l) l.length).2 f) i:=by
 have hE:=Jz l.length l.length (nR M l) l.length
 obtain⟨k1,k2,k3⟩:=avM (F:=(ech l.length (nR M l) l.length).1) hE.lt hfP
 have hs:=am1 hE hf hfP k1 k2 λk _ h1 h2=>k3 k h1 h2
 exact aeU hM hl.nodup hl.lt hl.am5 hl.min hf k1 (aeW (s:=1) jj (λa b _ _=>sub_one M l a b) hs)
def axI{m a:Nat}{F:Nat->Nat->Rat}{P:List Nat}{f:Nat}(hP:P.length<=m)(hf:f<m)(h:DJ m m a F)(hl:l.length=m):EL n a (pG l (kvF F P f)):=by
 obtain⟨Q,h1,h2,h3⟩:=h;have key:∀r,r<=P.length->∀k,∃z:Int,kvS F P f r k=(z:Rat)/(Q:Rat)/\z.natAbs<=2^a:=λr=>by
  induction r with
  |zero=>
   intro _ k
   unfold kvS
   split
   .refine⟨Q,?_,jb⟩
    have:=iD h1
    have e:(((Q:Nat):Int):Rat)=(Q:Rat):=rfl
    grind
   .exact⟨0,by grind,bp _⟩
  |succ r ih=>
   intro hr k
   unfold kvS
   split
   .obtain⟨z,e,hz⟩:=h3 r f jb hf
    exact⟨-z,by grind,jb⟩
   .exact ih jb k
 refine⟨Q,h1,h2,λi _=>?_⟩;unfold pG;split
 .exact key _ jp _
 .exact⟨0,by grind,bp _⟩
def afe(hM:Ko n M)(hn:l.Nodup)(hl:∀i∈l,i<n)(hc:U4 n M l)(hno:∀S:Nat->Prop,(∃i,i<n/\S i)->(∀i,i<n->S i->i∈l)->¬Ins.Shut n M S)
  {B:Nat->Nat->Rat}{s:Nat->Rat}(hs:∀i,i<l.length->s i≠0) (hB:∀i j,i<l.length->j<l.length->B i j=s i*nR M l i j) (z:Nat->Rat) (hz:∀i,i<l.length->aB l.length (λj=>B i j*z j)=0):∀j,j<l.length->z j=0:=by
 refine aje hM hn hl hc hno λa ha=>?_
 have h:=hz a ha
 have e:aB l.length (λj=>B a j*z j)=s a*aB l.length (λj=>vC M l a j*z j-if j=a then z a else 0):=by rw[<-fP];grind[Go.Proofs.Ins.aK,Go.Proofs.Xe.nR]
 rw[e,iw,jl ha]at h
 grind
def ajM{B:Nat->Nat->Rat}{s v c:Nat->Rat}(hs:∀i,i<l.length->s i≠0)(hB:∀i j,i<l.length->j<l.length->B i j=s i*nR M l i j)(hBn:∀i,i<l.length->B i l.length=s i* -(c (at0 l i)))(hv:∀i,i<l.length->aB l.length (λj=>B i j*v j)=B i l.length):
  ∀a,a<l.length->v a=aB l.length (λb=>vC M l a b*v b)+c (at0 l a):=by
 intro a ha
 have h:=hv a ha
 have e:aB l.length (λj=>B a j*v j)=s a*aB l.length (λj=>vC M l a j*v j-if j=a then v a else 0):=by rw[<-fP];grind[Go.Proofs.Ins.aK,Go.Proofs.Xe.nR]
 rw[e,hBn a ha,iw,jl ha]at h
 grind
def Ky(n a:Nat)(W:Nat->Nat->Rat):Prop:=∀i j,i<n->j<=n->∃z:Int,W i j=(z:Rat)/\z.natAbs<=2^a
def Ky.step{a k:Nat}{W:Nat->Nat->Rat}{p:Rat}(h:Ky n a W)(hk:k<n)(hp:Fh p)(p0:p≠0)(hi:∀i j,i<n->j<=n->Fh (JC W k p i j)):Ky n (2*a+1) (JC W k p):=λi j hin hj=>by
 obtain⟨z,ez⟩:=hi i j hin hj;refine⟨z,ez,?_⟩;have e2:(2:Nat)^(2*a+1)=2^a*2^a+2^a*2^a:=by rw[dq,Nat.two_mul a,dT];omega
 have h1:1<=2^a:=gO;have h2:2^a<=2^a*2^a:=fS _ h1;unfold JC at ez;by_cases e:i=k
 .rw[ab e]at ez;obtain⟨y,ey,hy⟩:=h k j hk hj;rw[ey]at ez;have:=eV.mp ez;omega
 .rw[ae e]at ez;obtain⟨q,rfl⟩:=hp;obtain⟨y1,e1,hy1⟩:=h k k hk jb;obtain⟨y2,e3,hy2⟩:=h i j hin hj;obtain⟨y3,e4,hy3⟩:=h i k hin jb;obtain⟨y4,e5,hy4⟩:=h k j hk hj;rw[e1,e3,e4,e5]at ez;have e6:((y1*y2-y3*y4:Int):Rat)=((z*q:Int):Rat):=by grind
  have e7:=eV.mp e6;have hq:1<=q.natAbs:=by have:q≠0:=λe=>p0 (by simp_all);omega
  have k1:=cC hy1 hy2;have k2:=cC hy3 hy4;have k3:(z*q).natAbs<=(y1*y2).natAbs+(y3*y4).natAbs:=jb;rw[fi,fi,fi]at k3;have k4:z.natAbs<=z.natAbs*q.natAbs:=fS _ hq;omega
def avN{m a:Nat}{W:Nat->Nat->Rat}{p:Rat}(h:Ky m a W)(hd:∀i,i<m->W i i=p)(p0:p≠0)(hm:0<m)(hl:l.length=m)(hnd:l.Nodup):EL n a (pG l λi=>W i m/W i i):=by
 obtain⟨q,eq,hq⟩:=h 0 0 hm jb;rw[hd 0 hm]at eq;have hq0:q≠0:=λe=>p0 (by simp_all);obtain⟨s,hs,es⟩:=Va q;have hss:=aaK hs;refine⟨q.natAbs,jb,hq,λi _=>?_⟩;by_cases hi:i∈l
 .obtain⟨k,hk,rfl⟩:=Et hi;rw[Eu hnd _ hk];obtain⟨z,ez,hz⟩:=h k m jb jp;refine⟨s*z,?_,?_⟩
  .grind
  grind
 .rw[tY hi];exact⟨0,by grind,bp _⟩
def Bar.diag{W B:Nat->Nat->Rat}{p:Rat}(h:Bar n n B W p):∀i,i<n->W i i=p:=by obtain⟨X,-,h2,h3,-⟩:=h.ex;grind
end
def avO(s t:Bool){u v:Nat}(hv:0<v):Ins.fr (false==(s==t)) u v=((iv s u:Int):Rat)/((iv t v:Int):Rat):=by
 have h:=Nl (iv s u) (v:Int) jb;rw[y9,gP]at h;by_cases hu:u=0
 .simp_all[iv,aa0,Rat.div_def]
 .have e1:decide ((v:Int)<0)=false:=aw jb;rw[e1]at h;have e2:decide (iv s u<0)=s:=by grind[iv]
  rw[e2]at h;cases t with
  |false=>
   have:(false==(s==false))=(!(s==false)):=by simp
   rw[this,h];rfl
  |true=>
   have e3:(false==(s==true))=(!((!s)==false)):=by simp
   have h2:=Nl (iv (!s) u) (v:Int) jb
   rw[y9,gP,e1]at h2
   have e4:decide (iv (!s) u<0)= !s:=by grind[iv]
   rw[e4]at h2
   rw[e3,h2]
   have e5:iv (!s) u=-iv s u:=by grind[iv]
   have e6:iv true v=-(v:Int):=rfl
   have hv0:((v:Int):Rat)≠0:=λe=>by simp_all
   rw[e5,e6,Rat.intCast_neg,Rat.intCast_neg]
   grind
def Bar.ar8{n k:Nat}{B W W':Nat->Nat->Rat}{p:Rat}(h:Bar n k B W p)(hk:k<=n)(hw:∀i j,i<n->j<=n->W i j=W' i j):Bar n k B W' p:=by obtain⟨h1,h2,h3,X,x1,x2,x3,x4⟩:=h;exact⟨h1,h2,h3,X,x1,x2,λl j hl hj=>by grind,λi j a b c=>by grind⟩
def asa{σ:St}(hW:WF σ){mb n m lo hi:Nat}{S:Nat->Nat->Bool}{U:Nat->Nat->Nat}{bs:Nat->Nat}(hM:zi σ.h mb n m S U bs lo hi)(hn:n<=16)(hm:m<=17){k:Nat}(hk:k<n)(hkm:k<m){c:Cap}{kb:Nat}(hkb:σ.h kb=some ⟨[.int .i64 (.ofNat k)],none⟩)(hex:∃i,k<=i/\i<n/\U i k≠0):
  aC EN 148 [.c (.sl mb (k*1) (n-k) c),.fn 149 [.ptr kb 0]] σ λr σ'=>(∃a,r=.c (.int .i64 (.ofNat a))/\k+a<n/\U (k+a) k≠0)/\Fr σ σ':=by
 refine aQ (dF.o _ _) dF.h ?_
 unfold dF
 dsimp only
 have hcl:=λ(args:List V) (σ:St) (K:V->St->Prop)=>kG (E:=EN) (K:=K) (sV.o args σ) sV.h
 unfold sV at hcl
 dsimp only at hcl
 simp(disch:=try exact jz) only[go_sem,z3]
 refine aF (λq tm σ'=>∃j,q=n-k-j/\j<=n-k/\Tr.ah tm 0=.c (.sl mb (k*1) (n-k) c)/\Tr.ah tm 1=.fn 149 [.ptr kb 0]/\Tr.ah tm 7=.c (.int .i64 (.ofNat (n-k)))/\Tr.ah tm 8=.c (.int .i64 (.ofNat j))/\(∀a,a<j->U (k+a) k=0)/\Fr σ σ') (n-k) ?_ ?_
 .refine⟨0,jb,jb,?_⟩
  simp(disch:=try exact jz) only[go_sem,z3,am]
  grind[Fr.refl]
 .rintro q tm σ' ⟨j,rfl,hj,t0,t1,t7,t8,hd,hf⟩
  have kC:=Fr.refl hf.wf
  simp(disch:=try exact jz) only[go_sem,z3,t0,t1,t7,t8,aG]
  refine aH (λhlt=>?_) (λhlt=>?_)
  .have hkj:k+j<n:=jb
   have q0:=hf.get hW hM.o
   have qr:=hf.get hW (hM.r _ hkj).1
   have hkb':=hf.get hW hkb
   have e0:ld σ'.h mb (k*1+j*1) 1 false=some (.c (.sl (bs (k+j)) 0 m (.ex m))):=by rw[au q0,show k*1+j*1=(k+j)*1 by omega];show zk (ones n _) _ 1 false=_;rw[abk n _ (k+j) hkj];rfl
   by_cases h0:U (k+j) k=0
   .have e1:decide (bn (U (k+j) k)=⟨#[]⟩)=true:=bw (by rw[h0];rfl)
    simp(disch:=try exact jz) only[go_sem,z3,t0,t1,t7,t8,e0,hcl,au hkb',au qr,e1]
    refine⟨n-k-(j+1),jb,j+1,rfl,jb,rfl,λa ha=>?_,fr⟩
    grind
   .have e1:=ajz (show 0<U (k+j) k by omega)
    simp(disch:=try exact jz) only[go_sem,z3,t0,t1,t7,t8,e0,hcl,au hkb',au qr,e1]
    exact⟨⟨j,rfl,hkj,h0⟩,fr⟩
  .exfalso
   obtain⟨i,h1,h2,h3⟩:=hex
   exact h3 (by have:=hd (i-k) jb;grind)
def aaT{σ:St}(hW:WF σ){iv:B}{l:List Nat}(hl:X8 σ.h iv l)(hl1:l.length<=1000)(k:Nat):
  aC EN 144 [.c iv,.c (.int .i64 (.ofNat k))] σ λr σ'=>r=.c (.bool (decide (k∈l)))/\Fr σ σ':=by
 refine aQ (jk.o _ _) jk.h ?_
 unfold jk
 dsimp only
 have hlen:=hl.len
 have hix:=λ(args:List V) (σ:St) (K:V->St->Prop)=>kG (E:=EN) (K:=K) (kU.o args σ) kU.h
 unfold kU at hix
 dsimp only at hix
 simp(disch:=try exact jz) only[go_sem,z3,hix,hlen]
 refine aF (λq tm σ'=>∃j,q=l.length-j/\j<=l.length/\Tr.ah tm 0=.c iv/\Tr.ah tm 1=.c (.int .i64 (.ofNat k))/\Tr.ah tm 7=.c (.int .i64 (.ofNat l.length))/\Tr.ah tm 8=.c (.int .i64 (.ofNat j))/\(∀a,a<j->at0 l a≠k)/\Fr σ σ') l.length ?_ ?_
 .refine⟨0,jb,jb,?_⟩
  simp(disch:=try exact jz) only[go_sem,z3,am]
  grind[Fr.refl]
 .rintro q tm σ' ⟨j,rfl,hj,t0,t1,t7,t8,hd,hf⟩
  have kC:=Fr.refl hf.wf
  simp(disch:=try exact jz) only[go_sem,z3,t0,t1,t7,t8,aG]
  refine aH (λhlt=>?_) (λhlt=>?_)
  .obtain⟨bb,o,c,rfl,hld⟩:=hl.one jb
   have hld:=hf.ld hW (hld j hlt)
   by_cases e:k=at0 l j
   .have hin:k∈l:=by grind[iR]
    have e1:decide (k=at0 l j)=true:=bw e
    simp(disch:=try exact jz) only[go_sem,z3,t0,t1,t7,t8,hld,e1,show decide (Int.ofNat 0<=Int.ofNat j)=true from bw kc]
    grind
   .have e1:decide (k=at0 l j)=false:=aw e
    simp(disch:=try exact jz) only[go_sem,z3,t0,t1,t7,t8,hld,e1]
    refine⟨l.length-(j+1),jb,j+1,rfl,jb,rfl,λa ha=>?_,hf⟩
    grind
  .have:j=l.length:=jb
   subst this
   have hin:k∉l:=λh=>by grind[Et]
   simp(disch:=try exact jz) only[go_sem,z3,t0,Yc]
   grind
def ajN{σ:St}(hW:WF σ){p:Nat->Prop}{v:B}{n m:Nat}{A:Nat->Nat->Rat}(hA:dQ p σ.h v n (λ_=>m) A)(hn:0<n)(hn2:n<=16)(hm:0<m)(hm2:m<=16){a:Nat}(hz:DJ n m a A)(ha:Kw a m<=50000000):
  aC EN 143 [.c v] σ λr σ'=>(∃mb pb,r=.aY (.c (.sl mb 0 n (.ex n))) (.aY (.c (aU (ech n A m).2.length pb)) (.aY (.c (.int .i64 (.ofNat 0))) .tnil))
   /\dQ (Lt σ'.aj) σ'.h (.sl mb 0 n (.ex n)) n (λ_=>m) (ech n A m).1/\X8 σ'.h (aU (ech n A m).2.length pb) (ech n A m).2)/\Fr σ σ':=by
 refine aQ (uV.o _ _) uV.h ?_
 unfold uV
 dsimp only
 have hlen:=hA.len
 obtain⟨b6,o6,c6,T,rfl,-,bW,hT⟩:=hA.at hn
 have uZ:ld σ.h b6 (o6+0*1) 1 false=some (.c T):=bW
 have hlT:=bf.len hT
 have hxa:=ajw a m
 have hzs:∀i k,i<n->k<m->Sz (A i k):=λi k hi hk=>(hz.rat hi hk).sz jb
 simp(disch:=try exact jz) only[go_sem,z3]
 refine(Yf hW hA hn hn2 hm hm2).mono ?_
 rintro _ σ1 ⟨rfl,hf1⟩
 simp(disch:=try exact jz) only[go_sem,z3,ofNat_eq]
 refine(O8 hf1.wf (hA.fr hW hf1) hn2 hm jb hzs).mono ?_
 rintro _ σ2 ⟨⟨mb,bs,rfl,hmb,hM⟩,hf2⟩
 have asb:=hf1.trans hf2
 have uZ:=asb.ld hW uZ
 have hle2:=asb.le
 have hb:=hM.b
 simp(disch:=try exact jz) only[go_sem,z3,uZ,hlT]
 refine(ajF hf2.wf hM jp hn2 hm2 jp hz ha).mono ?_
 rintro _ σ3 ⟨⟨bs',pb,rfl,hM3,hN3⟩,hk3⟩
 have hf3:=nT.fr asb hk3 (by have:=hf1.le;omega)
 have hle3:=hk3.le
 have amB:=Fr.refl hf3.wf
 simp(disch:=try exact jz) only[go_sem,z3,am]
 have oW:Fr σ3 ⟨hset (hset σ3.h σ3.aj ⟨[.bool (rn 0),.str (rs 0),.str (rd 0)],none⟩) σ3.aj ⟨[.bool (rn (wu n A m)),.str (rs (wu n A m)),.str (rd (wu n A m))],none⟩,σ3.aj+1⟩:=fr
 refine⟨⟨mb,pb,rfl,(hM3.rows (p:=Lt σ3.aj) λb hb=>by show b<σ3.aj;have:=hM.l;omega).keep (λb hb=>oW.old b hb) λb hb=>Nat.lt_succ_of_lt hb,?_⟩,hf3.trans oW⟩
 exact HL.fr hf3.wf oW (bf.hl (hN3.hlp jj (λ_ _=>rfl) (p:=Lt σ3.aj) λb _ h=>h))
def iF(g:gW)(i:Nat):Rat:=(ix g.e i).m.q
def meas(g:gW)(x:Nat->Rat)(t:Rat):Nat:=mu g.e.length (aX g) x+if t=1 then 0 else 1
def wz(g:gW)(x:Nat->Rat)(t:Rat):Prop:=∃B b,60∣B/\0<B/\B<=2^b/\b+400000*meas g x t<=180000000/\(∀i,i<g.e.length->SmB B (x i))/\dU B t
theorem acO{W:Rat}{q:fA->Rat}:∀(t:List fA) (Q:Rat),AA W q Q t<=t.length
 |[],_=>jp
 |l::t,Q=>by have:=acO (W:=W) (q:=q) t (Q+q l);unfold AA;rw[bV];split<;>omega
def acP{g:GL}{q:fA->Rat}{k:Nat}:∀{l:List (Rat×List fA)},(∀d∈l,d.2.length<=k)->Qa g q l<=l.length*k
 |[],_=>bp _
 |d::l,h=>by have h1:=acP (g:=g) (q:=q) (l:=l) λe he=>h e (by simp[he]);have h2:=h d kc;grind[acO,Qa,Nat.succ_mul]
def Yp{f:Nat->Nat}{k:Nat}:∀n,(∀i,i<n->f i<=k)->zW n f<=n*k
 |0,_=>bp _
 |n+1,h=>by have h1:=Yp n λi hi=>h i jb;grind[zW]
section
variable {g:gW} {x d:Nat→Rat} {t v:Rat} {q:Nat}
def kD.avP(h:kD g)(x:Nat->Rat):mu g.e.length (aX g) x<=140:=by have h1:=Yp (f:=λi=>opn ((aX g).e i) (x i)) (k:=16) g.e.length λi hi=>h.aov hi (x i);have h2:=acP (g:=aX g) (q:=gq (aX g) x) (k:=4) (l:=(aX g).ds) λd hd=>(h.aiN hd).2.1;have h3:=h.n;have h4:=h.d3;grind[xO,mu]
def JE(h:kD g):wz g (λ_=>0) 0:=by have:=h.avP λ_=>0;refine⟨60,6,ie _,jj,jj,?_,λi _=>⟨dU.zero _,aR,show(0:Rat)<=100000 by decide⟩,dU.zero _⟩;grind[meas]
def kD.avQ(h:kD g){least:Bool}(hI:BH h.JX (iF g) least x t){i:Nat}(hi:i<g.e.length):0<=x i/\x i<=100000:=by refine⟨hI.nn i hi,?_⟩;have h1:=hI.fix i hi;have h2:=h.avJ hI.nn i;have h3:=(h.m i hi).2.2;have h4:=bh hI.t1 h3.1;have e:(vw h.JX).G x i=gG g.e.length (aX g) x i:=rfl;grind[iF]
def wz.nr(h:kD g)(hP:wz g x t)(hd:∀i,i<g.e.length->0<=d i)(hdz:EL g.e.length q d)(hq:q<=120000):∃D,NrN D g x d:=by obtain⟨B,b,h6,h0,hb,hb2,hx,-⟩:=hP;exact⟨_,(h.nr h0 h6 hb jb hx hd hdz jb).1⟩
def wz.ai8(h:kD g)(hP:wz g x t)(hd:∀i,i<g.e.length->0<=d i)(hdz:EL g.e.length q d)(hq:q<=120000)(hv:v∈jM g.e.length (aX g) (mG g x) x d){least:Bool}{t':Rat}(ht:t'=t\/t'=t+v)(hI:BH h.JX (iF g) least (aZ x d v) t')(hm:meas g (aZ x d v) t'<meas g x t):
  wz g (aZ x d v) t'/\Sz v:=by
 obtain⟨B,b,h6,h0,hb,hb2,hx,htD⟩:=hP
 obtain⟨hZ,H,k1,k2,k3,k4⟩:=(h.nr h0 h6 hb jb hx hd hdz jb).2 v hv
 obtain⟨Q,q1,q2,q3⟩:=hdz
 have hBQ:=cn k2 q1
 refine⟨⟨H*Q,b+1000+2*q+q,bR h6 (bR k1 (aM _ _)),hBQ,oq k3 q2,jb,λi hi=>?_,?_⟩,hZ.sz jb⟩
 .obtain⟨z,ez,-⟩:=q3 i hi
  have hf:=h.avQ hI hi
  exact⟨((hx i hi).1.dvd (bR k1 (aM _ _)) hBQ).add (dU.mul k2 q1 k4 ⟨z,ez⟩),hf.1,hf.2⟩
 .have e1:=htD.dvd (bR k1 (aM _ Q)) hBQ
  rcases ht with rfl|rfl
  .exact e1
  .exact e1.add (k4.dvd (aM _ _) hBQ)
def wz.last(h:kD g)(hP:wz g x t)(hdz:EL g.e.length q d)(hq:q<=120000)(ht:t≠1){least:Bool}(hI:BH h.JX (iF g) least (aZ x d (1-t)) 1)(hm:mu g.e.length (aX g) (aZ x d (1-t))<=mu g.e.length (aX g) x):
  wz g (aZ x d (1-t)) 1:=by
 obtain⟨B,b,h6,h0,hb,hb2,hx,htD⟩:=hP
 obtain⟨Q,q1,q2,q3⟩:=hdz
 have hBQ:=cn h0 q1
 have hone:dU B (1:Rat):=⟨B,by have:=iD h0;have e:(((B:Nat):Int):Rat)=((B:Nat):Rat):=rfl;grind⟩
 have hlt:meas g (aZ x d (1-t)) 1<meas g x t:=by grind[meas]
 refine⟨B*Q,b+q,bR h6 (aM _ _),hBQ,oq hb q2,jb,λi hi=>?_,hone.dvd (aM _ _) hBQ⟩
 obtain⟨z,ez,-⟩:=q3 i hi
 have hf:=h.avQ hI hi
 exact⟨((hx i hi).1.dvd (aM _ _) hBQ).add (dU.mul h0 q1 (hone.sub htD) ⟨z,ez⟩),hf.1,hf.2⟩
def wz.sz(hP:wz g x t)(h0:0<=t)(h1:t<=1):(∀i,i<g.e.length->Sz (x i))/\Sz t/\Sz (1-t):=by
 obtain⟨B,b,h6,hB,hb,hb2,hx,htD⟩:=hP;have hone:dU B (1:Rat):=⟨B,by have:=iD hB;have e:(((B:Nat):Int):Rat)=((B:Nat):Rat):=rfl;rw[e];grind⟩
 exact⟨λi hi=>(F8 hB hb (hx i hi).1 (by have:=(hx i hi).2.1;grind) (hx i hi).2.2).sz jb,(F8 hB hb htD kd kd).sz jb,(F8 hB hb (hone.sub htD) kd kd).sz jb⟩
def wz.avR(h:kD g)(hP:wz g x t)(hd:∀i,i<g.e.length->0<=d i)(hdz:EL g.e.length q d)(hq:q<=120000)(h0:0<=t)(h1:t<=1)(hv:v∈jM g.e.length (aX g) (mG g x) x d\/v=1-t):Sz v/\∀i,i<g.e.length->Sz (d i)/\Sz (v*d i):=by
 obtain⟨B,b,h6,hB,hb,hb2,hx,htD⟩:=hP;have hone:dU B (1:Rat):=⟨B,by have:=iD hB;have e:(((B:Nat):Int):Rat)=((B:Nat):Rat):=rfl;grind⟩
 have hZ:lH (b+2000+2*q) v:=by
  rcases hv with hv|rfl
  .exact((h.nr hB h6 hb jb hx hd hdz jb).2 v hv).1
  .exact(F8 hB hb (hone.sub htD) kd kd).mono jb
 exact⟨hZ.sz jb,λi hi=>⟨(hdz.rat hi).sz jb,(hZ.mul (hdz.rat hi)).sz jb⟩⟩
def wz.mg(h:kD g)(hP:wz g x t):∃D,UU D g x:=by obtain⟨B,b,h6,hB,hb,hb2,hx,-⟩:=hP;exact⟨_,h.mg hB h6 hb jb hx⟩
def wz.map(h:kD g)(hP:wz g x t):∃D,arH 60 D g x:=by obtain⟨B,b,h6,hB,hb,hb2,hx,-⟩:=hP;exact⟨_,h.map hB h6 hb jb hx⟩
def kD.mz(h:kD g)(hx:∀i,i<g.e.length->0<=x i):(∀j i,j<g.e.length->i<g.e.length->Sz (gM g.e.length (aX g) x j i))/\(∀i,i<g.e.length->Sz (gM g.e.length (aX g) x i i-1))/\∀i k,i<g.e.length->k<=g.e.length->Sz (aB k λj=>gM g.e.length (aX g) x j i):=by
 obtain⟨p1,p2⟩:=h.gE hx;have hone:dU (Xe.gE g x) (1:Rat):=⟨Xe.gE g x,by have:=iD p1;have e:(((Xe.gE g x:Nat):Int):Rat)=((Xe.gE g x:Nat):Rat):=rfl;grind⟩
 refine⟨λj i hj hi=>?_,λi hi=>?_,λi k hi hk=>?_⟩
 .have:=h.m01 hx hj hi;exact(F8 p1 p2 (h.mD hx hi) kd kd).sz jj
 .have:=h.m01 hx hi hi;exact(F8 p1 p2 ((h.mD hx hi).sub hone) kd kd).sz jj
 .have key:∀k,k<=g.e.length->0<=aB k (λj=>gM g.e.length (aX g) x j i)/\aB k (λj=>gM g.e.length (aX g) x j i)<=(k:Rat):=λk=>by
   induction k with
   |zero=>intro _;exact⟨aR,aR⟩
   |succ k ih=>
    intro hk
    have a:=ih jb
    have b:=h.m01 hx (j:=k) jb hi
    have e:((k+1:Nat):Rat)=(k:Rat)+1:=gb _ _
    grind[aB]
  have hk8:((k:Nat):Rat)<=((8:Nat):Rat):=br.mpr (by have:=h.n;omega);have e8:((8:Nat):Rat)=8:=rfl;have:=key k hk;exact(F8 p1 p2 (aaF λj _=>h.mD hx hi) kd kd).sz jj
end
def JF(P:List Nat)(k:Nat):Bool:=!decide (k∈P)
def kvT(m:Nat)(F:Nat->Nat->Rat)(P:List Nat)(j:Nat):Nat->Rat:=kvF F P (at0 (gQ (JF P) m) j)
def avS{m:Nat}{F:Nat->Nat->Rat}{P:List Nat}{f:Nat}:bZ m (aO (λ_=>0) f 1)=bZ m (kvS F P f 0):=dN λk _=>by rfl
def asc{m:Nat}{F:Nat->Nat->Rat}{P:List Nat}{f r:Nat}:bZ m (aO (kvS F P f r) (at0 P r) (-F r f))=bZ m (kvS F P f (r+1)):=dN λk _=>by rfl
def ajO{σ:St}(hW:WF σ){p:Nat->Prop}{v:B}{n m:Nat}{A:Nat->Nat->Rat}(hA:dQ p σ.h v n (λ_=>m) A)(hn:0<n)(hn2:n<=16)(hm:0<m)(hm2:m<=16){a:Nat}(hz:DJ n m a A)(ha:Kw a m<=50000000):
  aC EN 109 [.c v] σ λr σ'=>(∃b,r=.aY (.c (aU (gQ (JF (ech n A m).2) m).length b)) (.aY (.c (.int .i64 (.ofNat 0))) .tnil)/\dQ (Lt σ'.aj) σ'.h (aU (gQ (JF (ech n A m).2) m).length b) (gQ (JF (ech n A m).2) m).length (λ_=>m) (kvT m (ech n A m).1 (ech n A m).2))/\Fr σ σ':=by
 refine aQ (uU.o _ _) uU.h ?_
 unfold uU
 dsimp only
 have hng:=λ(args:List V) (σ:St) (K:V->St->Prop)=>kG (E:=EN) (K:=K) (dZ.o args σ) dZ.h
 unfold dZ at hng
 dsimp only at hng
 have hE:=Jz n m A m
 have hFZ:=RI hz (c:=m) jp
 simp(disch:=try exact jz) only[go_sem,z3]
 refine(ajN hW hA hn hn2 hm hm2 hz ha).mono ?_
 rintro _ σ1 ⟨⟨mb,pb,rfl,hF,hI⟩,hf1⟩
 generalize hEP:ech n A m=EP at*
 obtain⟨F,P⟩:=EP
 dsimp only at*
 have hPl:=hE.len
 have hPm:=hE.inc
 have Ol:=hI.len
 obtain⟨b0,o0,c0,T0,e0,-,uZ,hT0⟩:=hF.at hn
 cases e0
 have uZ:ld σ1.h mb (0+0*1) 1 false=some (.c T0):=uZ
 have avT:=bf.len hT0
 simp(disch:=try exact jz) only[go_sem,z3,ofNat_eq,uZ,avT]
 refine aF (λq tm σ2=>∃f b T,q=m-f/\f<=m/\Tr.ah tm 4=.c (.sl mb 0 n (.ex n))/\Tr.ah tm 5=.c (aU P.length pb)/\Tr.ah tm 7=.c (aU (gQ (JF P) f).length b)/\Tr.ah tm 24=.c (.int .i64 (.ofNat m))/\Tr.ah tm 25=.c (.int .i64 (.ofNat f))
   /\aan T (λ_=>m) (kvT m F P) 30 σ2.h b (gQ (JF P) f).length σ1.aj σ2.aj/\Fr σ1 σ2) m ?_ ?_
 .refine⟨0,σ1.aj,λ_=>.aV,jb,jb,?_⟩
  simp(disch:=try exact jz) only[go_sem,z3,am]
  exact⟨rfl,NF.nil (air _),Fr.refl hf1.wf⟩
 .rintro q tm σ2 ⟨f,b,T,rfl,hfm,t4,t5,t7,t24,t25,hN,hf2⟩
  have hle2:=hf2.le
  simp(disch:=try exact jz) only[go_sem,z3,t4,t5,t7,t24,t25,aG]
  refine aH (λhlt=>?_) (λhlt=>?_)
  .simp(disch:=try exact jz) only[go_sem,z3,t4,t5,t7,t24,t25]
   refine(aaT hf2.wf (hI.fr hf1.wf hf2) jb f).mono ?_
   rintro _ σ3 ⟨rfl,hf3⟩
   have hle3:=hf3.le
   have hF3:=hf2.trans hf3
   have hN3:=hN.mono (λj _=>Dz _ _ _ j) (λb h1 h2=>hf3.old b h2) hle3
   by_cases hfP:f∈P
   .have e:gQ (JF P) (f+1)=gQ (JF P) f:=ae (by grind[JF])
    simp(disch:=try exact jz) only[go_sem,z3,t4,t5,t7,t24,t25,bw hfP]
    exact⟨m-(f+1),jb,f+1,b,T,rfl,jb,by rw[e],rfl,by grind,hF3⟩
   .have hfr:JF P f=true:=by grind[JF]
    have e:gQ (JF P) (f+1)=gQ (JF P) f++[f]:=ab hfr
    have e2:(gQ (JF P) (f+1)).length=(gQ (JF P) f).length+1:=by grind
    have hat:=acD (JF P) hlt hfr
    have avU:=hF3.ld hf1.wf uZ
    have amB:=Fr.refl hf3.wf
    have z1:=sz1
    simp(disch:=try exact jz) only[go_sem,z3,t4,t5,t7,t24,t25,aw hfP,avU,avT]
    refine bH.mono (Q:=λex tm σ5=>ex=.exit 2/\Tr.ah tm 4=.c (.sl mb 0 n (.ex n))/\Tr.ah tm 5=.c (aU P.length pb)/\Tr.ah tm 7=.c (aU (gQ (JF P) f).length b)/\Tr.ah tm 9=.c (.sl σ3.aj 0 m (.ex m))/\Tr.ah tm 24=.c (.int .i64 (.ofNat m))/\Tr.ah tm 25=.c (.int .i64 (.ofNat f))
      /\σ5.h σ3.aj=some ⟨bZ m (kvF F P f),none⟩/\Fr σ3 σ5/\σ3.aj+1<=σ5.aj)
     (aF (λq tm σ5=>∃r,q=P.length-r/\r<=P.length/\Tr.ah tm 4=.c (.sl mb 0 n (.ex n))/\Tr.ah tm 5=.c (aU P.length pb)/\Tr.ah tm 7=.c (aU (gQ (JF P) f).length b)/\Tr.ah tm 8=.c (.int .i64 (.ofNat f))/\Tr.ah tm 9=.c (.sl σ3.aj 0 m (.ex m))/\Tr.ah tm 24=.c (.int .i64 (.ofNat m))/\Tr.ah tm 25=.c (.int .i64 (.ofNat f))/\Tr.ah tm 40=.c (aU P.length pb)/\Tr.ah tm 41=.c (.int .i64 (.ofNat P.length))/\Tr.ah tm 42=.c (.int .i64 (.ofNat r))
      /\σ5.h σ3.aj=some ⟨bZ m (kvS F P f r),none⟩/\Fr σ3 σ5/\σ3.aj+1<=σ5.aj) P.length ?_ ?_) ?_
    .refine⟨0,jb,jb,?_⟩
     simp(disch:=try exact jz) only[go_sem,z3,am,t4,t5,t7,t24,t25,Ol,avS]
     exact⟨rfl,fr,jb⟩
    .rintro q tm5 σ5 ⟨r,rfl,hr,t4,t5,t7,t8,t9,t24,t25,t40,t41,t42,q9,hf5,hn5⟩
     have FV:=Fr.refl hf5.wf
     simp(disch:=try exact jz) only[go_sem,z3,t4,t5,t7,t8,t9,t24,t25,t40,t41,t42,aG]
     refine aH (λamJ=>?_) (λamJ=>?_)
     .obtain⟨bi,oi,ci,ei,Qc⟩:=hI.one jb
      have iE:=hF3.trans hf5
      have Qc:=iE.ld hf1.wf (Qc r amJ)
      have ai:V.c (.sl bi oi P.length ci)=V.c (aU P.length pb):=by rw[ei]
      rw[ei]at t40
      obtain⟨b0,o0,c0,Tr',e0,-,anx,hTr⟩:=hF.at (show r<n by omega)
      cases e0
      obtain⟨b7,o7,c7,rfl,-,cZ⟩:=bf.at3 hTr hlt
      have anx:=iE.ld hf1.wf anx
      rw[cN]at anx
      have cZ:=iE.ld hf1.wf cZ
      have hin:=hPm r amJ
      have z2:Sz (F r f):=(hFZ.rat (show r<n by omega) hlt).sz jb
      have hl9:=hf5.wf.lt q9
      simp(disch:=try exact jz) only[go_sem,z3,t4,t5,t7,t8,t9,t24,t25,t40,t41,t42,Qc,anx,cZ,hng,q9,aI q9,asc]
      exact⟨P.length-(r+1),jb,r+1,rfl,jb,ai,rfl,rfl,fr,jb⟩
     .have:r=P.length:=jb
      subst this
      simp(disch:=try exact jz) only[go_sem,z3,am]
      exact⟨t4,t5,t7,t9,t24,t25,q9,hf5,hn5⟩
    .rintro _ tm5 σ5 ⟨rfl,t4,t5,t7,t9,t24,t25,q9,hf5,hn5⟩
     have yV:=hf5.le
     have FV:=Fr.refl hf5.wf
     have hN5:=hN3.mono (λj _=>Dz _ _ _ j) (λb h1 h2=>hf5.old b h2) jp
     have hg:=hN5.g
     have hL:=hN5.L
     have hl1:=hN5.l1
     have hl2:=hN5.l2
     have hlb:=IB (JF P) f
     simp(disch:=try exact jz) only[go_sem,z3,t4,t5,t7,t9,t24,t25,hg]
     have ekv:kvT m F P (gQ (JF P) f).length=kvF F P f:=by unfold kvT;rw[hat]
     rw[<-ekv]at q9
     have iE:=hF3.trans hf5
     refine⟨m-(f+1),jb,f+1,σ5.aj+1,aO T (gQ (JF P) f).length (.sl σ3.aj 0 m (.ex m)),rfl,jb,by rw[e2];rfl,rfl,?_,fr⟩
     rw[e2]
     refine aan.push hN3 (hi1:=σ5.aj) (h1:=σ5.h) (bC _ q9 rfl ⟨jp,hn5⟩ (λ_=>rfl) jj λ_ _=>rfl) (λb h1 h2=>hf5.old b h2) jb (eE _) (bN _) jb (aA _ _ _) λc h1 h2 h3=>?_
     rw[ak _ _ _ _ jb,gU _ _ _ _ jb,ak _ _ _ _ jb]
  .have:f=m:=jb
   subst this
   simp(disch:=try exact jz) only[go_sem,z3,t7]
   exact⟨⟨b,rfl,hN.hrows λb _ h=>h⟩,hf1.trans hf2⟩
end Go.Proofs.Xe
