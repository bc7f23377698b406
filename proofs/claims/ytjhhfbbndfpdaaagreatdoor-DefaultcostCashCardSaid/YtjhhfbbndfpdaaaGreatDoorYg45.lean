import Derived.Test.YtjhhfbbndfpdaaaGreatDoorYg44
set_option linter.all false
set_option maxRecDepth 100000
set_option maxHeartbeats 8000000
attribute [-go_sem] Go.Proofs.Xe.ayo Go.Proofs.Xe.ayp Go.Proofs.Xe.ayq
namespace Go.Proofs.Xe
open Go.RowKit Go.Proofs.Ins
def amD{r:Nat}{l:List Rat}(h:∀v∈l,mQ r v)(hr:r<=200000000):Sz (gq0 (BI l)):=by
 rcases XJ l with⟨-,e⟩|⟨m,e,hm,-⟩
 .rw[e];exact Sz.zero
 .rw[e];exact(h m hm).sz hr
section
variable {g:fH} {B b q:Nat} {x d:Nat→Rat}
def jX.ch0(h:jX g)(hB0:0<B)(hb:B<=2^b)(hx:∀i,i<g.e.length->SmB B (x i)){i:Nat}(hi:i<g.e.length):ChS B b (bZ (ix g.e i)) (x i):=
 ⟨B,0,hJ _,hB0,jb,by have:=h.ar4 hi (x i);omega,(hx i hi).1,(hx i hi).2.1,(hx i hi).2.2⟩
def jX.ny(h:jX g)(hB0:0<B)(h6:60∣B)(hb:B<=2^b)(hx:∀i,i<g.e.length->SmB B (x i))(hdz:Gs g.e.length q d){i:Nat}(hi:i<g.e.length)(hp:0<d i){y:Rat}(hy:nxE (bZ (ix g.e i)) (kE g.e i) (x i)=some y):
  mQ (b+1025) y/\mQ (b+1025) (y-x i)/\ahW B (b+1100+2*q) (b+2200+2*q) ((y-x i)/d i):=by
 obtain⟨h1,-⟩:=amC h hi (hx i hi).2.1 (x:=x)
 rw[hy]at h1
 have hyx:=((aeF (h.nn hi) h1 (hx i hi).2.1 λ_ _=>rfl).yes y rfl).1
 obtain⟨B',k,c1,c2,c3,c4,c5,c6,c7⟩:=ChS.aj h hi h6 h1 (h.ch0 hB0 hb hx hi) y rfl
 obtain⟨xD,x0,x1⟩:=hx i hi
 have c3:B'<=2^(b+1008):=ar c3 (Ad jb)
 have hD:=c5.sub (xD.dvd c1 c2)
 have z1:=Ig c2 c3 c5 (by clear c3;grind) c7
 have z2:=Ig c2 c3 hD (by clear c3;grind) (by clear c3;grind)
 have z3:=hdz.rat hi
 refine⟨z1,z2,(z2.div z3 (by clear c3;grind)).mono jb,?_⟩
 obtain⟨Q,q1,q2,q3⟩:=hdz
 obtain⟨z,ez,-⟩:=q3 i hi
 obtain⟨w,w0,w1,wD⟩:=XU (K:=2^q) c2 q1 (hD.dvd (aL _ _) (bX c2 q1)) ⟨z,ez⟩ hp z3.le
 refine⟨B'*w,bN c1 (aL _ _),bX c2 w0,?_,wD⟩
 have:=qG c3 (ar w1 (qG jp q2))
 exact ar this (Ad jb)
def jX.c_e(h:jX g)(hB0:0<B)(h6:60∣B)(hb:B<=2^b)(hx:∀i,i<g.e.length->SmB B (x i))(hdz:Gs g.e.length q d){i:Nat}(hi:i<=g.e.length):∀v∈CO (oh g x) d i,ahW B (b+1100+2*q) (b+2200+2*q) v:=λv hv=>by
 obtain⟨k,h1,h2,y,h3,rfl⟩:=(yY i).mp hv;unfold oh at h3;cases ho:nxE (bZ (ix g.e k)) (kE g.e k) (x k)with
 |none=>grind
 |some w=>
  rw[ho]at h3
  cases h3
  exact(h.ny hB0 h6 hb hx hdz jb h2 ho).2.2
def jX.ds(h:jX g){j:Nat}(hj:j<g.d.length):(dW g j,dL g j)∈(bI g).ds:=by rw[<-Ry hj];grind[gV,yX]
def jX.c_d(h:jX g)(hB0:0<B)(h6:60∣B)(hb:B<=2^b)(hx:∀i,i<g.e.length->SmB B (x i))(hd:∀i,i<g.e.length->0<=d i)(hdz:Gs g.e.length q d){j:Nat}(hj:j<g.d.length)(k:Nat):
  mQ (b+441) (dW g j-aK ((dL g j).take k) (gq (bI g) x))/\mQ (446+2*q) (aK ((dL g j).take k) (gr (bI g) x d))/\(0<aK ((dL g j).take k) (gr (bI g) x d)->ahW B (b+1100+2*q) (b+2200+2*q) ((dW g j-aK ((dL g j).take k) (gq (bI g) x))/aK ((dL g j).take k) (gr (bI g) x d))):=by
 have hx0:∀i,i<g.e.length->0<=x i:=λi hi=>(hx i hi).2.1
 obtain⟨p1,p2⟩:=h.gE hx0
 have heB:=aaT
 obtain⟨w1,w2,w3⟩:=h.alI (h.ds hj)
 have hl:∀l∈(dL g j).take k,l∈(bI g).fP:=λl hl=>w3 l (eg hl)
 have hk:((dL g j).take k).length<=4:=by grind
 generalize (dL g j).take k=t at hl hk
 have hln:∀l∈t,l.1<g.e.length:=λl hlt=>(h.NJ.fP l (hl l hlt)).1
 have hBE:=bX hB0 p1
 have aAb:=qG hb p2
 have w1:jB 60 100 (dW g j):=w1
 have nD:eG (B*Xe.gE g x) (dW g j-aK t (gq (bI g) x)):=by refine(w1.1.dvd (bN h6 (aL _ _)) hBE).sub (eG.sum λl hlt=>?_);have hi:=hln l hlt;exact(ak3 jj hB0 h6 (h.ed l.1 hi) (hx l.1 hi).1 (hx l.1 hi).2.1 l.2).dvd (cD _ (SH x hi)) hBE
 have q0:0<=aK t (gq (bI g) x):=oL λl hlt=>(h.amB hx0 (hl l hlt)).1
 have q1:=uj (f:=gq (bI g) x) (v:=4800) jj (l:=t) (k:=4) (λl hlt=>(h.amB hx0 (hl l hlt)).2) hk
 have e4:((4:Nat):Rat)=4:=rfl
 have w2:=w1.2
 have zn:=Ig hBE aAb nD kd kd
 have hdr:=λi (hi:i<g.e.length)=>hdz.rat hi
 obtain⟨Q,a1,a2,a3⟩:=hdz
 have hEQ:=bX p1 a1
 have ar5:=qG p2 a2
 have dD:eG (Xe.gE g x*Q) (aK t (gr (bI g) x d)):=eG.sum λl hlt=>by have hi:=hln l hlt;obtain⟨z,ez,-⟩:=a3 l.1 hi;exact eG.mul p1 a1 (h.slD hx0 hi l.2) ⟨z,ez⟩
 have hN:(0:Rat)<=((2^q:Nat):Rat):=bj.mpr (aM _)
 have hgr:∀l∈t,0<=gr (bI g) x d l/\gr (bI g) x d l<=1000001*((2^q:Nat):Rat):=λl hlt=>by have hi:=hln l hlt;have s1:=tN (h.nn hi) (hx0 _ hi) l.2;have s2:=XF (h.ed l.1 hi).uq (h.eb l.1 hi) (hx0 _ hi) l.2;have s3:=hd l.1 hi;have s4:=(hdr l.1 hi).le;refine⟨cg s1 s3,?_⟩;have s5:=be s2 s3;have s6:=cP s4 (show(0:Rat)<=1000001 by decide);show yT (bZ (ix g.e l.1)) (x l.1) l.2*d l.1<=_;grind
 have r0:0<=aK t (gr (bI g) x d):=oL λl hlt=>(hgr l hlt).1
 have r1:=uj (f:=gr (bI g) x d) (v:=1000001*((2^q:Nat):Rat)) (cg jj hN) (l:=t) (k:=4) (λl hlt=>(hgr l hlt).2) hk
 have hK:((4000004*2^q:Nat):Rat)=((4:Nat):Rat)*(1000001*((2^q:Nat):Rat)):=by rw[eI,e4];have:((4000004:Nat):Rat)=4000004:=rfl;rw[this];grind
 rw[<-hK]at r1
 have hK2:4000004*2^q<=2^(22+q):=by rw[dT];exact bh _ jj
 have zd:=(XQ hEQ ar5 dD hK2 (by have:(0:Rat)<=((4000004*2^q:Nat):Rat):=bj.mpr (aM _);grind) r1)
 have zd:mQ (446+2*q) (aK t (gr (bI g) x d)):=zd.mono jb
 refine⟨zn.mono jb,zd,λhpos=>⟨(zn.div zd kd).mono jb,?_⟩⟩
 obtain⟨w,v0,v1,vD⟩:=XU hB0 hEQ (nD.dvd (cD _ (aL _ _)) (bX hB0 hEQ)) dD hpos r1
 refine⟨B*w,aL _ _,bX hB0 v0,?_,vD⟩
 have:=qG hb (ar v1 (qG hK2 ar5))
 exact ar this (Ad jb)
def jX.c_p(h:jX g)(hB0:0<B)(h6:60∣B)(hb:B<=2^b)(hx:∀i,i<g.e.length->SmB B (x i))(hd:∀i,i<g.e.length->0<=d i)(hdz:Gs g.e.length q d){D:Rat×List gJ}(hD:D∈(bI g).ds){k:Nat}:∀v∈rY D.1 (gq (bI g) x) (gr (bI g) x d) 0 0 (D.2.take k),ahW B (b+1100+2*q) (b+2200+2*q) v:=λv hv=>by
 obtain⟨j,hj,ej⟩:=aD hD;have hj2:j<g.d.length:=by grind[yX]
 have e0:D=(dW g j,dL g j):=by rw[<-ej,<-Ry hj2];grind[dV]
 subst e0;obtain⟨k',h1,h2,h3⟩:=afo _ _ _ v hv;rw[fW]at h2 h3;rw[fW,List.take_take]at h2;rw[List.take_take]at h3;rw[h2];exact(h.c_d hB0 h6 hb hx hd hdz hj2 _).2.2 h3
def jX.nr(h:jX g)(hB0:0<B)(h6:60∣B)(hb:B<=2^b)(hb2:b<=190000000)(hx:∀i,i<g.e.length->SmB B (x i))(hd:∀i,i<g.e.length->0<=d i)(hdz:Gs g.e.length q d)(hq:q<=1000000):
  NrN (B*Xe.gE g x) g x d/\∀v∈kY g.e.length (bI g) (oh g x) x d,ahW B (b+1100+2*q) (b+2200+2*q) v:=by
 have hx0:∀i,i<g.e.length->0<=x i:=λi hi=>(hx i hi).2.1
 obtain⟨p1,p2⟩:=h.gE hx0
 have heB:=aaT
 have hall:∀v∈kY g.e.length (bI g) (oh g x) x d,ahW B (b+1100+2*q) (b+2200+2*q) v:=λv hv=>by
  rcases bY.mp hv with hv|hv
  .exact h.c_e hB0 h6 hb hx hdz jp v hv
  .obtain⟨D,hD,hv⟩:=cC.mp hv;rw[<-cr (l:=D.2)]at hv;exact h.c_p hB0 h6 hb hx hd hdz hD v hv
 refine⟨⟨h.mg hB0 h6 hb jb hx,λi hi=>⟨h.nn hi,hx0 i hi⟩,λi hi=>(hdz.rat hi).sz jb,λi hi _=>⟨ChS B b (bZ (ix g.e i)),h.ch0 hB0 hb hx hi,λm hm=>ChS.ok h hi h6 hb2 hm,λm t hm ht=>hm.next h hi h6 ht⟩,λi hi hp y hy=>?_,λi hi=>?_,λj hj k hk=>?_,λj hj l hl=>?_⟩,hall⟩
 .obtain⟨z1,z2,z3⟩:=h.ny hB0 h6 hb hx hdz hi hp hy
  exact⟨z1.sz jb,z2.sz jb,z3.1.sz jb⟩
 .exact amD (λv hv=>(h.c_e hB0 h6 hb hx hdz hi v hv).1) jb
 .obtain⟨z1,z2,z3⟩:=h.c_d hB0 h6 hb hx hd hdz hj k
  refine⟨amD (r:=b+2200+2*q) (λv hv=>?_) jb,z1.sz jb,z2.sz jb,?_⟩
  .rcases bY.mp hv with hv|hv
   .rcases bY.mp hv with hv|hv
    .exact(h.c_e hB0 h6 hb hx hdz jp v hv).1
    .obtain⟨D,hD,hv⟩:=cC.mp hv
     rw[<-cr (l:=D.2)]at hv
     exact(h.c_p hB0 h6 hb hx hd hdz (eg hD) v hv).1
   .exact(h.c_p hB0 h6 hb hx hd hdz (h.ds hj) (k:=k) v hv).1
  .by_cases e:aK ((dL g j).take k) (gr (bI g) x d)=0
   .grind[Sz.zero]
   .exact(z1.div z2 e).sz jb
 .obtain⟨-,-,w3⟩:=h.alI (h.ds hj)
  have hle:=w3 l hl
  have hi:=(h.NJ.fP l hle).1
  have s1:=tN (h.nn hi) (hx0 _ hi) l.2
  have s2:=XF (h.ed l.1 hi).uq (h.eb l.1 hi) (hx0 _ hi) l.2
  obtain⟨q0,q1⟩:=h.amB hx0 hle
  have e1:((1000001:Nat):Rat)=1000001:=rfl
  have zs:mQ (eB+20) (yT (bZ (ix g.e l.1)) (x l.1) l.2):=XQ (K:=1000001) p1 p2 (h.slD hx0 hi l.2) jj kd jb
  refine⟨?_,?_,?_⟩
  .have hBE:=bX hB0 p1
   exact(Ig hBE (qG hb p2) ((ak3 jj hB0 h6 (h.ed l.1 hi) (hx l.1 hi).1 (hx l.1 hi).2.1 l.2).dvd (cD _ (SH x hi)) hBE) (by have:0<=uI (bZ (ix g.e l.1)) (x l.1) l.2:=q0;grind) (by have:uI (bZ (ix g.e l.1)) (x l.1) l.2<=4800:=q1;grind)).sz jb
  .unfold gs
   rw[ab rfl]
   exact zs.sz jb
  .exact(zs.mul (hdz.rat hi)).sz jb
end
def kvS(F:Nat->Nat->Rat)(P:List Nat)(f:Nat):Nat->Nat->Rat
 |0,k=>if k=f then 1 else 0
 |r+1,k=>if k=at0 P r then-F r f else kvS F P f r k
def kvF(F:Nat->Nat->Rat)(P:List Nat)(f:Nat):Nat->Rat:=kvS F P f P.length
def adi{F:Nat->Nat->Rat}{P:List Nat}{f k:Nat}:∀r,(∀a,a<r->k≠at0 P a)->kvS F P f r k=if k=f then 1 else 0
 |0,_=>rfl
 |r+1,h=>by unfold kvS;rw[ae (h r jb)];exact adi r λa ha=>h a jb
def amE{F:Nat->Nat->Rat}{P:List Nat}{f:Nat}(hlt:∀a b,b<a->a<P.length->at0 P b<at0 P a){a:Nat}:∀r,r<=P.length->a<r->kvS F P f r (at0 P a)=-F a f
 |0,_,h=>jb
 |r+1,hr,ha=>by
  unfold kvS;by_cases e:a=r
  .subst e;rw[ab rfl]
  .have:=hlt r a jb jb;rw[ae jb];exact amE hlt r jb jb
def aAc{F:Nat->Nat->Rat}{P:List Nat}{f:Nat}(hlt:∀a b,b<a->a<P.length->at0 P b<at0 P a)(hf:f∉P):kvF F P f f=1/\(∀a,a<P.length->kvF F P f (at0 P a)=-F a f)/\∀k,k∉P->k≠f->kvF F P f k=0:=by
 refine⟨?_,λa ha=>amE hlt _ jp ha,λk hk hne=>?_⟩
 .have:=adi (F:=F) (P:=P) (f:=f) (k:=f) P.length λa ha e=>hf (by grind[jr]);rwa[ab rfl]at this
 .have:=adi (F:=F) (P:=P) (f:=f) (k:=k) P.length λa ha e=>hk (by grind[jr]);rwa[ae hne]at this
section
variable {n:Nat} {M:Nat→Nat→Rat} {l:List Nat}
def sub_one(M:Nat->Nat->Rat)(l:List Nat)(a b:Nat):pU M l a b=1*(xq M l a b-if a=b then 1 else 0):=by unfold pU;grind
def amF(hl:JW n M l):∃f,f<l.length/\f∉(ech l.length (pU M l) l.length).2:=
 aqk (LU _ _ _ _) (ahE hl.nodup hl.lt hl.aqn hl.ne hl.col _ 1 λa b _ _=>sub_one M l a b)
def aqM(hM:Nw n M)(hl:JW n M l){f:Nat}(hf:f<l.length)(hfP:f∉(ech l.length (pU M l) l.length).2):
  (∀j,j<n->rG l (kvF (ech l.length (pU M l) l.length).1 (ech l.length (pU M l) l.length).2 f) j=mv n M (rG l (kvF (ech l.length (pU M l) l.length).1 (ech l.length (pU M l) l.length).2 f)) j)/\∀i∈l,0<rG l (kvF (ech l.length (pU M l) l.length).1 (ech l.length (pU M l) l.length).2 f) i:=by
 have hE:=LU l.length l.length (pU M l) l.length
 obtain⟨k1,k2,k3⟩:=aAc (F:=(ech l.length (pU M l) l.length).1) hE.lt hfP
 have hs:=aqj hE hf hfP k1 k2 λk _ h1 h2=>k3 k h1 h2
 exact ahD hM hl.nodup hl.lt hl.aqn hl.min hf k1 (ahF (s:=1) jj (λa b _ _=>sub_one M l a b) hs)
def aCc{m a:Nat}{F:Nat->Nat->Rat}{P:List Nat}{f:Nat}(hP:P.length<=m)(hf:f<m)(h:Fg m m a F)(hl:l.length=m):Gs n a (rG l (kvF F P f)):=by
 obtain⟨Q,h1,h2,h3⟩:=h;have key:∀r,r<=P.length->∀k,∃z:Int,kvS F P f r k=(z:Rat)/(Q:Rat)/\z.natAbs<=2^a:=λr=>by
  induction r with
  |zero=>
   intro _ k
   unfold kvS
   split
   .refine⟨Q,?_,jb⟩
    have:=iJ h1
    have e:(((Q:Nat):Int):Rat)=(Q:Rat):=rfl
    grind
   .exact⟨0,by grind,aM _⟩
  |succ r ih=>
   intro hr k
   unfold kvS
   split
   .obtain⟨z,e,hz⟩:=h3 r f jb hf
    exact⟨-z,by grind,jb⟩
   .exact ih jb k
 refine⟨Q,h1,h2,λi _=>?_⟩;unfold rG;split
 .exact key _ jp _
 .exact⟨0,by grind,aM _⟩
def ahX(hM:Nw n M)(hn:l.Nodup)(hl:∀i∈l,i<n)(hc:XH n M l)(hno:∀S:Nat->Prop,(∃i,i<n/\S i)->(∀i,i<n->S i->i∈l)->¬Ins.Shut n M S)
  {B:Nat->Nat->Rat}{s:Nat->Rat}(hs:∀i,i<l.length->s i≠0) (hB:∀i j,i<l.length->j<l.length->B i j=s i*pU M l i j) (z:Nat->Rat) (hz:∀i,i<l.length->aB l.length (λj=>B i j*z j)=0):∀j,j<l.length->z j=0:=by
 refine al5 hM hn hl hc hno λa ha=>?_
 have h:=hz a ha
 have e:aB l.length (λj=>B a j*z j)=s a*aB l.length (λj=>xq M l a j*z j-if j=a then z a else 0):=by rw[<-gX];grind[Go.Proofs.Ins.aP,Go.Proofs.Xe.pU]
 rw[e,iI,jS ha]at h
 grind
def amG{B:Nat->Nat->Rat}{s v c:Nat->Rat}(hs:∀i,i<l.length->s i≠0)(hB:∀i j,i<l.length->j<l.length->B i j=s i*pU M l i j)(hBn:∀i,i<l.length->B i l.length=s i* -(c (at0 l i)))(hv:∀i,i<l.length->aB l.length (λj=>B i j*v j)=B i l.length):
  ∀a,a<l.length->v a=aB l.length (λb=>xq M l a b*v b)+c (at0 l a):=by
 intro a ha
 have h:=hv a ha
 have e:aB l.length (λj=>B a j*v j)=s a*aB l.length (λj=>xq M l a j*v j-if j=a then v a else 0):=by rw[<-gX];grind[Go.Proofs.Ins.aP,Go.Proofs.Xe.pU]
 rw[e,hBn a ha,iI,jS ha]at h
 grind
def NK(n a:Nat)(W:Nat->Nat->Rat):Prop:=∀i j,i<n->j<=n->∃z:Int,W i j=(z:Rat)/\z.natAbs<=2^a
def NK.step{a k:Nat}{W:Nat->Nat->Rat}{p:Rat}(h:NK n a W)(hk:k<n)(hp:G5 p)(p0:p≠0)(hi:∀i j,i<n->j<=n->G5 (LX W k p i j)):NK n (2*a+1) (LX W k p):=λi j hin hj=>by
 obtain⟨z,ez⟩:=hi i j hin hj;refine⟨z,ez,?_⟩;have e2:(2:Nat)^(2*a+1)=2^a*2^a+2^a*2^a:=by rw[de,Nat.two_mul a,dT];omega
 have h1:1<=2^a:=gH;have h2:2^a<=2^a*2^a:=fo _ h1;unfold LX at ez;by_cases e:i=k
 .rw[ab e]at ez;obtain⟨y,ey,hy⟩:=h k j hk hj;rw[ey]at ez;have:=eJ.mp ez;omega
 .rw[ae e]at ez;obtain⟨q,rfl⟩:=hp;obtain⟨y1,e1,hy1⟩:=h k k hk jb;obtain⟨y2,e3,hy2⟩:=h i j hin hj;obtain⟨y3,e4,hy3⟩:=h i k hin jb;obtain⟨y4,e5,hy4⟩:=h k j hk hj;rw[e1,e3,e4,e5]at ez;have e6:((y1*y2-y3*y4:Int):Rat)=((z*q:Int):Rat):=by grind
  have e7:=eJ.mp e6;have hq:1<=q.natAbs:=by have:q≠0:=λe=>p0 (by simp_all);omega
  have k1:=cG hy1 hy2;have k2:=cG hy3 hy4;have k3:(z*q).natAbs<=(y1*y2).natAbs+(y3*y4).natAbs:=jb;rw[eV,eV,eV]at k3;have k4:z.natAbs<=z.natAbs*q.natAbs:=fo _ hq;omega
def aAd{m a:Nat}{W:Nat->Nat->Rat}{p:Rat}(h:NK m a W)(hd:∀i,i<m->W i i=p)(p0:p≠0)(hm:0<m)(hl:l.length=m)(hnd:l.Nodup):Gs n a (rG l λi=>W i m/W i i):=by
 obtain⟨q,eq,hq⟩:=h 0 0 hm jb;rw[hd 0 hm]at eq;have hq0:q≠0:=λe=>p0 (by simp_all);obtain⟨s,hs,es⟩:=XO q;have hss:=ac8 hs;refine⟨q.natAbs,jb,hq,λi _=>?_⟩;by_cases hi:i∈l
 .obtain⟨k,hk,rfl⟩:=F9 hi;rw[Gf hnd _ hk];obtain⟨z,ez,hz⟩:=h k m jb jp;refine⟨s*z,?_,?_⟩
  .grind
  grind
 .rw[vT hi];exact⟨0,by grind,aM _⟩
def Bar.diag{W B:Nat->Nat->Rat}{p:Rat}(h:Bar n n B W p):∀i,i<n->W i i=p:=by obtain⟨X,-,h2,h3,-⟩:=h.ex;grind
end
def aAe(s t:Bool){u v:Nat}(hv:0<v):Ins.fr (false==(s==t)) u v=((iv s u:Int):Rat)/((iv t v:Int):Rat):=by
 have h:=P6 (iv s u) (v:Int) jb;rw[AL,gL]at h;by_cases hu:u=0
 .simp_all[iv,VO,Rat.div_def]
 .have e1:decide ((v:Int)<0)=false:=af jb;rw[e1]at h;have e2:decide (iv s u<0)=s:=by grind[iv]
  rw[e2]at h;cases t with
  |false=>
   have:(false==(s==false))=(!(s==false)):=by simp
   rw[this,h];rfl
  |true=>
   have e3:(false==(s==true))=(!((!s)==false)):=by simp
   have h2:=P6 (iv (!s) u) (v:Int) jb
   rw[AL,gL,e1]at h2
   have e4:decide (iv (!s) u<0)= !s:=by grind[iv]
   rw[e4]at h2
   rw[e3,h2]
   have e5:iv (!s) u=-iv s u:=by grind[iv]
   have e6:iv true v=-(v:Int):=rfl
   have hv0:((v:Int):Rat)≠0:=λe=>by simp_all
   rw[e5,e6,Rat.intCast_neg,Rat.intCast_neg]
   grind
def Bar.av3{n k:Nat}{B W W':Nat->Nat->Rat}{p:Rat}(h:Bar n k B W p)(hk:k<=n)(hw:∀i j,i<n->j<=n->W i j=W' i j):Bar n k B W' p:=by obtain⟨h1,h2,h3,X,x1,x2,x3,x4⟩:=h;exact⟨h1,h2,h3,X,x1,x2,λl j hl hj=>by grind,λi j a b c=>by grind⟩
def av4{J:St}(hW:WF J){mb n m lo hi:Nat}{S:Nat->Nat->Bool}{U:Nat->Nat->Nat}{bs:Nat->Nat}(hM:AP J.h mb n m S U bs lo hi)(hn:n<=16)(hm:m<=17){k:Nat}(hk:k<n)(hkm:k<m){c:Cap}{kb:Nat}(hkb:J.h kb=some ⟨[.int .i64 (.ofNat k)],none⟩)(hex:∃i,k<=i/\i<n/\U i k≠0):
  aC EN 163 [.c (.sl mb (k*1) (n-k) c),.fn 164 [.ptr kb 0]] J λr J'=>(∃a,r=jN a/\k+a<n/\U (k+a) k≠0)/\Fr J J':=by
 refine aN (dN.o _ _) dN.h ?_
 unfold dN
 dsimp only
 have hcl:=λ(args:List V) (J:St) (K:V->St->Prop)=>lW (E:=EN) (K:=K) (uZ.o args J) uZ.h
 unfold uZ at hcl
 dsimp only at hcl
 refine WX ?_
 refine aF (λq tm J'=>∃j,q=n-k-j/\j<=n-k/\r8 tm 0=.c (.sl mb (k*1) (n-k) c)/\r8 tm 1=.fn 164 [.ptr kb 0]/\r8 tm 7=jN (n-k)/\r8 tm 8=jN j/\(∀a,a<j->U (k+a) k=0)/\Fr J J') (n-k) ?_ ?_
 .refine⟨0,jb,jb,?_⟩
  refine WN ?_
  grind[Fr.refl]
 .rintro q tm J' ⟨j,rfl,hj,t0,t1,t7,t8,hd,hf⟩
  have lT:=Fr.refl hf.wf
  refine W2 ?_
  refine aH (λhlt=>?_) (λhlt=>?_)
  .have hkj:k+j<n:=jb
   have q0:=hf.get hW hM.o
   have qr:=hf.get hW (hM.r _ hkj).1
   have hkb':=hf.get hW hkb
   have e0:ld J'.h mb (k*1+j*1) 1 false=some (.c (.sl (bs (k+j)) 0 m (.ex m))):=by rw[au q0,show k*1+j*1=(k+j)*1 by omega];show yZ (ones n _) _ 1 false=_;rw[Wx n _ (k+j) hkj];rfl
   by_cases h0:U (k+j) k=0
   .have e1:decide (bn (U (k+j) k)=⟨#[]⟩)=true:=aq (by rw[h0];rfl)
    simp(disch:=try exact jz)only[go_sem,W3,e0,hcl,au hkb',au qr,e1]
    refine⟨n-k-(j+1),jb,j+1,rfl,jb,rfl,λa ha=>?_,fr⟩
    grind
   .have e1:=amq (show 0<U (k+j) k by omega)
    simp(disch:=try exact jz)only[go_sem,W3,e0,hcl,au hkb',au qr,e1]
    exact⟨⟨j,rfl,hkj,h0⟩,fr⟩
  .exfalso
   obtain⟨i,h1,h2,h3⟩:=hex
   exact h3 (by have:=hd (i-k) jb;grind)
def adk{J:St}(hW:WF J){iv:B}{l:List Nat}(hl:aaF J.h iv l)(hl1:l.length<=1000)(k:Nat):
  aC EN 159 [.c iv,jN k] J λr J'=>r=.c (.bool (decide (k∈l)))/\Fr J J':=by
 refine aN (jL.o _ _) jL.h ?_
 unfold jL
 dsimp only
 have hlen:=hl.len
 have hix:=λ(args:List V) (J:St) (K:V->St->Prop)=>lW (E:=EN) (K:=K) (mO.o args J) mO.h
 unfold mO at hix
 dsimp only at hix
 simp(disch:=try exact jz)only[go_sem,hix,hlen]
 refine aF (λq tm J'=>∃j,q=l.length-j/\j<=l.length/\r8 tm 0=.c iv/\r8 tm 1=jN k/\r8 tm 7=jN l.length/\r8 tm 8=jN j/\(∀a,a<j->at0 l a≠k)/\Fr J J') l.length ?_ ?_
 .refine⟨0,jb,jb,?_⟩
  refine WN ?_
  grind[Fr.refl]
 .rintro q tm J' ⟨j,rfl,hj,t0,t1,t7,t8,hd,hf⟩
  have lT:=Fr.refl hf.wf
  refine W2 ?_
  refine aH (λhlt=>?_) (λhlt=>?_)
  .obtain⟨bb,o,c,rfl,hld⟩:=hl.one jb
   have hld:=hf.ld hW (hld j hlt)
   by_cases e:k=at0 l j
   .have hin:k∈l:=by grind[jr]
    have e1:decide (k=at0 l j)=true:=aq e
    simp(disch:=try exact jz)only[go_sem,W3,hld,e1,show decide (Int.ofNat 0<=Int.ofNat j)=true from aq kc]
    grind
   .have e1:decide (k=at0 l j)=false:=af e
    simp(disch:=try exact jz)only[go_sem,W3,hld,e1]
    refine⟨l.length-(j+1),jb,j+1,rfl,jb,rfl,λa ha=>?_,hf⟩
    grind
  .have:j=l.length:=jb
   subst this
   have hin:k∉l:=λh=>by grind[F9]
   simp(disch:=try exact jz)only[go_sem,t0,aaJ]
   grind
def amH{J:St}(hW:WF J){p:Nat->Prop}{v:B}{n m:Nat}{A:Nat->Nat->Rat}(hA:dQ p J.h v n (λ_=>m) A)(hn:0<n)(hn2:n<=16)(hm:0<m)(hm2:m<=16){a:Nat}(hz:Fg n m a A)(ha:NI a m<=50000000):
  aC EN 158 [.c v] J λr J'=>(∃mb pb,r=.aV (.c (.sl mb 0 n (.ex n))) (.aV (.c (aW (ech n A m).2.length pb)) (.aV (jN 0) .tnil))
   /\dQ (Lt J'.aj) J'.h (.sl mb 0 n (.ex n)) n (λ_=>m) (ech n A m).1/\aaF J'.h (aW (ech n A m).2.length pb) (ech n A m).2)/\Fr J J':=by
 refine aN (wW.o _ _) wW.h ?_
 unfold wW
 dsimp only
 have hlen:=hA.len
 obtain⟨b6,o6,c6,T,rfl,-,bJ,hT⟩:=hA.at hn
 have vg:ld J.h b6 (o6+0*1) 1 false=some (.c T):=bJ
 have hlT:=aZ.len hT
 have hxa:=amm a m
 have hzs:∀i k,i<n->k<m->Sz (A i k):=λi k hi hk=>(hz.rat hi hk).sz jb
 refine WX ?_
 refine(aaM hW hA hn hn2 hm hm2).mono ?_
 rintro _ σ1 ⟨rfl,hf1⟩
 simp(disch:=try exact jz)only[go_sem,ofNat_eq]
 refine(SG hf1.wf (hA.fr hW hf1) hn2 hm jb hzs).mono ?_
 rintro _ σ2 ⟨⟨mb,bs,rfl,hmb,hM⟩,hf2⟩
 have av5:=hf1.trans hf2
 have vg:=av5.ld hW vg
 have hle2:=av5.le
 have hb:=hM.b
 simp(disch:=try exact jz)only[go_sem,vg,hlT]
 refine(amx hf2.wf hM jp hn2 hm2 jp hz ha).mono ?_
 rintro _ σ3 ⟨⟨bs',pb,rfl,hM3,hN3⟩,hk3⟩
 have hf3:=qc.fr av5 hk3 (by have:=hf1.le;omega)
 have hle3:=hk3.le
 have acj:=Fr.refl hf3.wf
 refine WN ?_
 have gB:Fr σ3 ⟨hset (hset σ3.h σ3.aj ⟨(rK 0),none⟩) σ3.aj ⟨(rK (x9 n A m)),none⟩,σ3.aj+1⟩:=fr
 refine⟨⟨mb,pb,rfl,(hM3.rows (p:=Lt σ3.aj) λb hb=>by show b<σ3.aj;have:=hM.l;omega).keep (λb hb=>gB.old b hb) λb hb=>Nat.lt_succ_of_lt hb,?_⟩,hf3.trans gB⟩
 exact HL.fr hf3.wf gB (aZ.hl (hN3.hlp jj (λ_ _=>rfl) (p:=Lt σ3.aj) λb _ h=>h))
def jG(g:fH)(i:Nat):Rat:=(ix g.e i).m.q
def meas(g:fH)(x:Nat->Rat)(t:Rat):Nat:=mu g.e.length (bI g) x+if t=1 then 0 else 1
def vG(g:fH)(x:Nat->Rat)(t:Rat):Prop:=∃B b,60∣B/\0<B/\B<=2^b/\b+400000*meas g x t<=60000000/\(∀i,i<g.e.length->SmB B (x i))/\eG B t
theorem afp{W:Rat}{q:gJ->Rat}:∀(t:List gJ) (Q:Rat),Ce W q Q t<=t.length
 |[],_=>jp
 |l::t,Q=>by have:=afp (W:=W) (q:=q) t (Q+q l);unfold Ce;rw[bL];split<;>omega
def afq{g:GL}{q:gJ->Rat}{k:Nat}:∀{l:List (Rat×List gJ)},(∀d∈l,d.2.length<=k)->Ua g q l<=l.length*k
 |[],_=>aM _
 |d::l,h=>by have h1:=afq (g:=g) (q:=q) (l:=l) λe he=>h e (by simp[he]);have h2:=h d kc;grind[afp,Ua,Nat.succ_mul]
def aaU{f:Nat->Nat}{k:Nat}:∀n,(∀i,i<n->f i<=k)->AB n f<=n*k
 |0,_=>aM _
 |n+1,h=>by have h1:=aaU n λi hi=>h i jb;grind[AB]
section
variable {g:fH} {x d:Nat→Rat} {t v:Rat} {q:Nat}
def jX.aAf(h:jX g)(x:Nat->Rat):mu g.e.length (bI g) x<=140:=by have h1:=aaU (f:=λi=>opn ((bI g).e i) (x i)) (k:=16) g.e.length λi hi=>h.ar4 hi (x i);have h2:=afq (g:=bI g) (q:=gq (bI g) x) (k:=4) (l:=(bI g).ds) λd hd=>(h.alI hd).2.1;have h3:=h.n;have h4:=h.d3;grind[yX,mu]
def VA(h:jX g):vG g (λ_=>0) 0:=by have:=h.aAf λ_=>0;refine⟨60,6,hJ _,jj,jj,?_,λi _=>⟨eG.zero _,aR,show(0:Rat)<=100000 by decide⟩,eG.zero _⟩;grind[meas]
def jX.aAg(h:jX g){least:Bool}(hI:Fb h.NJ (jG g) least x t){i:Nat}(hi:i<g.e.length):0<=x i/\x i<=100000:=by refine⟨hI.nn i hi,?_⟩;have h1:=hI.fix i hi;have h2:=h.az9 hI.nn i;have h3:=(h.m i hi).2.2;have h4:=be hI.t1 h3.1;have e:(xg h.NJ).G x i=gG g.e.length (bI g) x i:=rfl;grind[jG]
def vG.nr(h:jX g)(hP:vG g x t)(hd:∀i,i<g.e.length->0<=d i)(hdz:Gs g.e.length q d)(hq:q<=120000):∃D,NrN D g x d:=by obtain⟨B,b,h6,h0,hb,hb2,hx,-⟩:=hP;exact⟨_,(h.nr h0 h6 hb jb hx hd hdz jb).1⟩
def vG.alZ(h:jX g)(hP:vG g x t)(hd:∀i,i<g.e.length->0<=d i)(hdz:Gs g.e.length q d)(hq:q<=120000)(hv:v∈kY g.e.length (bI g) (oh g x) x d){least:Bool}{t':Rat}(ht:t'=t\/t'=t+v)(hI:Fb h.NJ (jG g) least (bF x d v) t')(hm:meas g (bF x d v) t'<meas g x t):
  vG g (bF x d v) t'/\Sz v:=by
 obtain⟨B,b,h6,h0,hb,hb2,hx,htD⟩:=hP
 obtain⟨hZ,H,k1,k2,k3,k4⟩:=(h.nr h0 h6 hb jb hx hd hdz jb).2 v hv
 obtain⟨Q,q1,q2,q3⟩:=hdz
 have hBQ:=bX k2 q1
 refine⟨⟨H*Q,b+1100+2*q+q,bN h6 (bN k1 (aL _ _)),hBQ,qG k3 q2,jb,λi hi=>?_,?_⟩,hZ.sz jb⟩
 .obtain⟨z,ez,-⟩:=q3 i hi
  have hf:=h.aAg hI hi
  exact⟨((hx i hi).1.dvd (bN k1 (aL _ _)) hBQ).add (eG.mul k2 q1 k4 ⟨z,ez⟩),hf.1,hf.2⟩
 .have e1:=htD.dvd (bN k1 (aL _ Q)) hBQ
  rcases ht with rfl|rfl
  .exact e1
  .exact e1.add (k4.dvd (aL _ _) hBQ)
def vG.last(h:jX g)(hP:vG g x t)(hdz:Gs g.e.length q d)(hq:q<=120000)(ht:t≠1){least:Bool}(hI:Fb h.NJ (jG g) least (bF x d (1-t)) 1)(hm:mu g.e.length (bI g) (bF x d (1-t))<=mu g.e.length (bI g) x):
  vG g (bF x d (1-t)) 1:=by
 obtain⟨B,b,h6,h0,hb,hb2,hx,htD⟩:=hP
 obtain⟨Q,q1,q2,q3⟩:=hdz
 have hBQ:=bX h0 q1
 have hone:eG B (1:Rat):=⟨B,by have:=iJ h0;have e:(((B:Nat):Int):Rat)=((B:Nat):Rat):=rfl;grind⟩
 have hlt:meas g (bF x d (1-t)) 1<meas g x t:=by grind[meas]
 refine⟨B*Q,b+q,bN h6 (aL _ _),hBQ,qG hb q2,jb,λi hi=>?_,hone.dvd (aL _ _) hBQ⟩
 obtain⟨z,ez,-⟩:=q3 i hi
 have hf:=h.aAg hI hi
 exact⟨((hx i hi).1.dvd (aL _ _) hBQ).add (eG.mul h0 q1 (hone.sub htD) ⟨z,ez⟩),hf.1,hf.2⟩
def vG.sz(hP:vG g x t)(h0:0<=t)(h1:t<=1):(∀i,i<g.e.length->Sz (x i))/\Sz t/\Sz (1-t):=by
 obtain⟨B,b,h6,hB,hb,hb2,hx,htD⟩:=hP;have hone:eG B (1:Rat):=⟨B,by have:=iJ hB;have e:(((B:Nat):Int):Rat)=((B:Nat):Rat):=rfl;rw[e];grind⟩
 exact⟨λi hi=>(Ig hB hb (hx i hi).1 (by have:=(hx i hi).2.1;grind) (hx i hi).2.2).sz jb,(Ig hB hb htD kd kd).sz jb,(Ig hB hb (hone.sub htD) kd kd).sz jb⟩
def vG.aAh(h:jX g)(hP:vG g x t)(hd:∀i,i<g.e.length->0<=d i)(hdz:Gs g.e.length q d)(hq:q<=120000)(h0:0<=t)(h1:t<=1)(hv:v∈kY g.e.length (bI g) (oh g x) x d\/v=1-t):Sz v/\∀i,i<g.e.length->Sz (d i)/\Sz (v*d i):=by
 obtain⟨B,b,h6,hB,hb,hb2,hx,htD⟩:=hP;have hone:eG B (1:Rat):=⟨B,by have:=iJ hB;have e:(((B:Nat):Int):Rat)=((B:Nat):Rat):=rfl;grind⟩
 have hZ:mQ (b+2200+2*q) v:=by
  rcases hv with hv|rfl
  .exact((h.nr hB h6 hb jb hx hd hdz jb).2 v hv).1
  .exact(Ig hB hb (hone.sub htD) kd kd).mono jb
 exact⟨hZ.sz jb,λi hi=>⟨(hdz.rat hi).sz jb,(hZ.mul (hdz.rat hi)).sz jb⟩⟩
def vG.mg(h:jX g)(hP:vG g x t):∃D,XB D g x:=by obtain⟨B,b,h6,hB,hb,hb2,hx,-⟩:=hP;exact⟨_,h.mg hB h6 hb jb hx⟩
def vG.map(h:jX g)(hP:vG g x t):∃D,avF 60 D g x:=by obtain⟨B,b,h6,hB,hb,hb2,hx,-⟩:=hP;exact⟨_,h.map hB h6 hb jb hx⟩
def jX.mz(h:jX g)(hx:∀i,i<g.e.length->0<=x i):(∀j i,j<g.e.length->i<g.e.length->Sz (gM g.e.length (bI g) x j i))/\(∀i,i<g.e.length->Sz (gM g.e.length (bI g) x i i-1))/\∀i k,i<g.e.length->k<=g.e.length->Sz (aB k λj=>gM g.e.length (bI g) x j i):=by
 obtain⟨p1,p2⟩:=h.gE hx;have hone:eG (Xe.gE g x) (1:Rat):=⟨Xe.gE g x,by have:=iJ p1;have e:(((Xe.gE g x:Nat):Int):Rat)=((Xe.gE g x:Nat):Rat):=rfl;grind⟩
 refine⟨λj i hj hi=>?_,λi hi=>?_,λi k hi hk=>?_⟩
 .have:=h.m01 hx hj hi;exact(Ig p1 p2 (h.mD hx hi) kd kd).sz jj
 .have:=h.m01 hx hi hi;exact(Ig p1 p2 ((h.mD hx hi).sub hone) kd kd).sz jj
 .have key:∀k,k<=g.e.length->0<=aB k (λj=>gM g.e.length (bI g) x j i)/\aB k (λj=>gM g.e.length (bI g) x j i)<=(k:Rat):=λk=>by
   induction k with
   |zero=>intro _;exact⟨aR,aR⟩
   |succ k ih=>
    intro hk
    have a:=ih jb
    have b:=h.m01 hx (j:=k) jb hi
    have e:((k+1:Nat):Rat)=(k:Rat)+1:=fY _ _
    grind[aB]
  have hk8:((k:Nat):Rat)<=((8:Nat):Rat):=bj.mpr (by have:=h.n;omega);have e8:((8:Nat):Rat)=8:=rfl;have:=key k hk;exact(Ig p1 p2 (ac3 λj _=>h.mD hx hi) kd kd).sz jj
end
def LZ(P:List Nat)(k:Nat):Bool:=!decide (k∈P)
def kvT(m:Nat)(F:Nat->Nat->Rat)(P:List Nat)(j:Nat):Nat->Rat:=kvF F P (at0 (iy (LZ P) m) j)
def aAi{m:Nat}{F:Nat->Nat->Rat}{P:List Nat}{f:Nat}:cO m (aJ (λ_=>0) f 1)=cO m (kvS F P f 0):=dU λk _=>by rfl
def av6{m:Nat}{F:Nat->Nat->Rat}{P:List Nat}{f r:Nat}:cO m (aJ (kvS F P f r) (at0 P r) (-F r f))=cO m (kvS F P f (r+1)):=dU λk _=>by rfl
def amI{J:St}(hW:WF J){p:Nat->Prop}{v:B}{n m:Nat}{A:Nat->Nat->Rat}(hA:dQ p J.h v n (λ_=>m) A)(hn:0<n)(hn2:n<=16)(hm:0<m)(hm2:m<=16){a:Nat}(hz:Fg n m a A)(ha:NI a m<=50000000):
  aC EN 127 [.c v] J λr J'=>(∃b,r=.aV (.c (aW (iy (LZ (ech n A m).2) m).length b)) (.aV (jN 0) .tnil)/\dQ (Lt J'.aj) J'.h (aW (iy (LZ (ech n A m).2) m).length b) (iy (LZ (ech n A m).2) m).length (λ_=>m) (kvT m (ech n A m).1 (ech n A m).2))/\Fr J J':=by
 refine aN (wV.o _ _) wV.h ?_
 unfold wV
 dsimp only
 have hng:=λ(args:List V) (J:St) (K:V->St->Prop)=>lW (E:=EN) (K:=K) (fA.o args J) fA.h
 unfold fA at hng
 dsimp only at hng
 have hE:=LU n m A m
 have hFZ:=Vx hz (c:=m) jp
 refine WX ?_
 refine(amH hW hA hn hn2 hm hm2 hz ha).mono ?_
 rintro _ σ1 ⟨⟨mb,pb,rfl,hF,hI⟩,hf1⟩
 generalize hEP:ech n A m=EP at*
 obtain⟨F,P⟩:=EP
 dsimp only at*
 have hPl:=hE.len
 have hPm:=hE.inc
 have Jw:=hI.len
 obtain⟨b0,o0,c0,T0,e0,-,vg,hT0⟩:=hF.at hn
 cases e0
 have vg:ld σ1.h mb (0+0*1) 1 false=some (.c T0):=vg
 have aAj:=aZ.len hT0
 simp(disch:=try exact jz)only[go_sem,ofNat_eq,vg,aAj]
 refine aF (λq tm σ2=>∃f b T,q=m-f/\f<=m/\r8 tm 4=.c (.sl mb 0 n (.ex n))/\r8 tm 5=.c (aW P.length pb)/\r8 tm 7=.c (aW (iy (LZ P) f).length b)/\r8 tm 24=jN m/\r8 tm 25=jN f
   /\acQ T (λ_=>m) (kvT m F P) 31 σ2.h b (iy (LZ P) f).length σ1.aj σ2.aj/\Fr σ1 σ2) m ?_ ?_
 .refine⟨0,σ1.aj,λ_=>.aO,jb,jb,?_⟩
  refine WN ?_
  exact⟨rfl,NF.nil (ali _),Fr.refl hf1.wf⟩
 .rintro q tm σ2 ⟨f,b,T,rfl,hfm,t4,t5,t7,t24,t25,hN,hf2⟩
  have hle2:=hf2.le
  refine W2 ?_
  refine aH (λhlt=>?_) (λhlt=>?_)
  .refine WP ?_
   refine(adk hf2.wf (hI.fr hf1.wf hf2) jb f).mono ?_
   rintro _ σ3 ⟨rfl,hf3⟩
   have hle3:=hf3.le
   have hF3:=hf2.trans hf3
   have hN3:=hN.mono (λj _=>E8 _ _ _ j) (λb h1 h2=>hf3.old b h2) hle3
   by_cases hfP:f∈P
   .have e:iy (LZ P) (f+1)=iy (LZ P) f:=ae (by grind[LZ])
    simp(disch:=try exact jz)only[go_sem,W3,aq hfP]
    exact⟨m-(f+1),jb,f+1,b,T,rfl,jb,by rw[e],rfl,by grind,hF3⟩
   .have hfr:LZ P f=true:=by grind[LZ]
    have e:iy (LZ P) (f+1)=iy (LZ P) f++[f]:=ab hfr
    have e2:(iy (LZ P) (f+1)).length=(iy (LZ P) f).length+1:=by grind
    have hat:=afe (LZ P) hlt hfr
    have aAk:=hF3.ld hf1.wf vg
    have acj:=Fr.refl hf3.wf
    have z1:=sz1
    simp(disch:=try exact jz)only[go_sem,W3,af hfP,aAk,aAj]
    refine bM.mono (Q:=λex tm σ5=>ex=.exit 2/\r8 tm 4=.c (.sl mb 0 n (.ex n))/\r8 tm 5=.c (aW P.length pb)/\r8 tm 7=.c (aW (iy (LZ P) f).length b)/\r8 tm 9=.c (.sl σ3.aj 0 m (.ex m))/\r8 tm 24=jN m/\r8 tm 25=jN f
      /\σ5.h σ3.aj=some ⟨cO m (kvF F P f),none⟩/\Fr σ3 σ5/\σ3.aj+1<=σ5.aj)
     (aF (λq tm σ5=>∃r,q=P.length-r/\r<=P.length/\r8 tm 4=.c (.sl mb 0 n (.ex n))/\r8 tm 5=.c (aW P.length pb)/\r8 tm 7=.c (aW (iy (LZ P) f).length b)/\r8 tm 8=jN f/\r8 tm 9=.c (.sl σ3.aj 0 m (.ex m))/\r8 tm 24=jN m/\r8 tm 25=jN f/\r8 tm 40=.c (aW P.length pb)/\r8 tm 41=jN P.length/\r8 tm 42=jN r
      /\σ5.h σ3.aj=some ⟨cO m (kvS F P f r),none⟩/\Fr σ3 σ5/\σ3.aj+1<=σ5.aj) P.length ?_ ?_) ?_
    .refine⟨0,jb,jb,?_⟩
     simp(disch:=try exact jz)only[go_sem,W3,am,Jw,aAi]
     exact⟨rfl,fr,jb⟩
    .rintro q tm5 σ5 ⟨r,rfl,hr,t4,t5,t7,t8,t9,t24,t25,t40,t41,t42,q9,hf5,hn5⟩
     have JQ:=Fr.refl hf5.wf
     refine W2 ?_
     refine aH (λap5=>?_) (λap5=>?_)
     .obtain⟨bi,oi,ci,ei,Uc⟩:=hI.one jb
      have dY:=hF3.trans hf5
      have Uc:=dY.ld hf1.wf (Uc r ap5)
      have ai:V.c (.sl bi oi P.length ci)=V.c (aW P.length pb):=by rw[ei]
      rw[ei]at t40
      obtain⟨b0,o0,c0,Tr',e0,-,aqN,hTr⟩:=hF.at (show r<n by omega)
      cases e0
      obtain⟨b7,o7,c7,rfl,-,cZ⟩:=aZ.at3 hTr hlt
      have aqN:=dY.ld hf1.wf aqN
      rw[ck]at aqN
      have cZ:=dY.ld hf1.wf cZ
      have hin:=hPm r ap5
      have z2:Sz (F r f):=(hFZ.rat (show r<n by omega) hlt).sz jb
      have hl9:=hf5.wf.lt q9
      simp(disch:=try exact jz)only[go_sem,W3,Uc,aqN,cZ,hng,q9,aG q9,av6]
      exact⟨P.length-(r+1),jb,r+1,rfl,jb,ai,rfl,rfl,fr,jb⟩
     .have:r=P.length:=jb
      subst this
      simp(disch:=try exact jz)only[go_sem,am]
      exact⟨t4,t5,t7,t9,t24,t25,q9,hf5,hn5⟩
    .rintro _ tm5 σ5 ⟨rfl,t4,t5,t7,t9,t24,t25,q9,hf5,hn5⟩
     have wu:=hf5.le
     have JQ:=Fr.refl hf5.wf
     have hN5:=hN3.mono (λj _=>E8 _ _ _ j) (λb h1 h2=>hf5.old b h2) jp
     have hg:=hN5.g
     have hL:=hN5.L
     have hl1:=hN5.l1
     have hl2:=hN5.l2
     have hlb:=JX (LZ P) f
     simp(disch:=try exact jz)only[go_sem,W3,hg]
     have ekv:kvT m F P (iy (LZ P) f).length=kvF F P f:=by unfold kvT;rw[hat]
     rw[<-ekv]at q9
     have dY:=hF3.trans hf5
     refine⟨m-(f+1),jb,f+1,σ5.aj+1,aJ T (iy (LZ P) f).length (.sl σ3.aj 0 m (.ex m)),rfl,jb,by rw[e2];rfl,rfl,?_,fr⟩
     rw[e2]
     refine acQ.push hN3 (hi1:=σ5.aj) (h1:=σ5.h) (bD _ q9 rfl ⟨jp,hn5⟩ (λ_=>rfl) jj λ_ _=>rfl) (λb h1 h2=>hf5.old b h2) jb (dx _) (bB _) jb (ay _ _ _) λc h1 h2 h3=>?_
     rw[ak _ _ _ _ jb,fE _ _ _ _ jb,ak _ _ _ _ jb]
  .have:f=m:=jb
   subst this
   simp(disch:=try exact jz)only[go_sem,t7]
   exact⟨⟨b,rfl,hN.hrows λb _ h=>h⟩,hf1.trans hf2⟩
end Go.Proofs.Xe
