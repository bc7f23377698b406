import Derived.Test.YtchhojplceoifaaGreatDoorYd42
set_option linter.all false
set_option maxRecDepth 100000
set_option maxHeartbeats 8000000
namespace Go.Proofs.Xe
open Go.RowKit Go.Proofs.Ins
def alm{r:Nat}{l:List Rat}(h:∀v∈l,mF r v)(hr:r<=200000000):Sz (gq0 (Bh l)):=by
 rcases Wy l with⟨-,e⟩|⟨m,e,hm,-⟩
 .rw[e];exact Sz.zero
 .rw[e];exact(h m hm).sz hr
section
variable {g:fD} {B b q:Nat} {x d:Nat→Rat}
def jG.ch0(h:jG g)(hB0:0<B)(hb:B<=2^b)(hx:∀i,i<g.e.length->SmB B (x i)){i:Nat}(hi:i<g.e.length):ChS B b (bY (ix g.e i)) (x i):=
 ⟨B,0,im _,hB0,jb,by have:=h.aqB hi (x i);omega,(hx i hi).1,(hx i hi).2.1,(hx i hi).2.2⟩
def jG.ny(h:jG g)(hB0:0<B)(h6:60∣B)(hb:B<=2^b)(hx:∀i,i<g.e.length->SmB B (x i))(hdz:FU g.e.length q d){i:Nat}(hi:i<g.e.length)(hp:0<d i){y:Rat}(hy:nxE (bY (ix g.e i)) (kE g.e i) (x i)=some y):
  mF (b+1025) y/\mF (b+1025) (y-x i)/\agI B (b+1100+2*q) (b+2200+2*q) ((y-x i)/d i):=by
 obtain⟨h1,-⟩:=alk h hi (hx i hi).2.1 (x:=x)
 rw[hy]at h1
 have hyx:=((adn (h.nn hi) h1 (hx i hi).2.1 λ_ _=>rfl).yes y rfl).1
 obtain⟨B',k,c1,c2,c3,c4,c5,c6,c7⟩:=ChS.aj h hi h6 h1 (h.ch0 hB0 hb hx hi) y rfl
 obtain⟨xD,x0,x1⟩:=hx i hi
 have c3:B'<=2^(b+1008):=ap c3 (zN jb)
 have hD:=c5.sub (xD.dvd c1 c2)
 have z1:=Hr c2 c3 c5 (by clear c3;grind) c7
 have z2:=Hr c2 c3 hD (by clear c3;grind) (by clear c3;grind)
 have z3:=hdz.rat hi
 refine⟨z1,z2,(z2.div z3 (by clear c3;grind)).mono jb,?_⟩
 obtain⟨Q,q1,q2,q3⟩:=hdz
 obtain⟨z,ez,-⟩:=q3 i hi
 obtain⟨w,w0,w1,wD⟩:=WL (K:=2^q) c2 q1 (hD.dvd (aR _ _) (cf c2 q1)) ⟨z,ez⟩ hp z3.le
 refine⟨B'*w,bL c1 (aR _ _),cf c2 w0,?_,wD⟩
 have:=pY c3 (ap w1 (pY jp q2))
 exact ap this (zN jb)
def jG.c_e(h:jG g)(hB0:0<B)(h6:60∣B)(hb:B<=2^b)(hx:∀i,i<g.e.length->SmB B (x i))(hdz:FU g.e.length q d){i:Nat}(hi:i<=g.e.length):∀v∈BX (nM g x) d i,agI B (b+1100+2*q) (b+2200+2*q) v:=λv hv=>by
 obtain⟨k,h1,h2,y,h3,rfl⟩:=(yM i).mp hv;unfold nM at h3;cases ho:nxE (bY (ix g.e k)) (kE g.e k) (x k)with
 |none=>grind
 |some w=>
  rw[ho]at h3
  cases h3
  exact(h.ny hB0 h6 hb hx hdz jb h2 ho).2.2
def jG.ds(h:jG g){j:Nat}(hj:j<g.d.length):(dW g j,dL g j)∈(bI g).ds:=by rw[<-Qg hj];grind[gJ,yL]
def jG.c_d(h:jG g)(hB0:0<B)(h6:60∣B)(hb:B<=2^b)(hx:∀i,i<g.e.length->SmB B (x i))(hd:∀i,i<g.e.length->0<=d i)(hdz:FU g.e.length q d){j:Nat}(hj:j<g.d.length)(k:Nat):
  mF (b+441) (dW g j-aJ ((dL g j).take k) (gq (bI g) x))/\mF (446+2*q) (aJ ((dL g j).take k) (gr (bI g) x d))/\(0<aJ ((dL g j).take k) (gr (bI g) x d)->agI B (b+1100+2*q) (b+2200+2*q) ((dW g j-aJ ((dL g j).take k) (gq (bI g) x))/aJ ((dL g j).take k) (gr (bI g) x d))):=by
 have hx0:∀i,i<g.e.length->0<=x i:=λi hi=>(hx i hi).2.1
 obtain⟨p1,p2⟩:=h.gE hx0
 have heB:=ZC
 obtain⟨w1,w2,w3⟩:=h.aks (h.ds hj)
 have hl:∀l∈(dL g j).take k,l∈(bI g).fE:=λl hl=>w3 l (eo hl)
 have hk:((dL g j).take k).length<=4:=by grind
 generalize (dL g j).take k=t at hl hk
 have hln:∀l∈t,l.1<g.e.length:=λl hlt=>(h.L6.fE l (hl l hlt)).1
 have hBE:=cf hB0 p1
 have aye:=pY hb p2
 have w1:mJ 60 100 (dW g j):=w1
 have nD:dV (B*Xe.gE g x) (dW g j-aJ t (gq (bI g) x)):=by refine(w1.1.dvd (bL h6 (aR _ _)) hBE).sub (dV.sum λl hlt=>?_);have hi:=hln l hlt;exact(ajN jj hB0 h6 (h.ed l.1 hi) (hx l.1 hi).1 (hx l.1 hi).2.1 l.2).dvd (cE _ (QB x hi)) hBE
 have q0:0<=aJ t (gq (bI g) x):=nZ λl hlt=>(h.alj hx0 (hl l hlt)).1
 have q1:=tu (f:=gq (bI g) x) (v:=4800) jj (l:=t) (k:=4) (λl hlt=>(h.alj hx0 (hl l hlt)).2) hk
 have e4:((4:Nat):Rat)=4:=rfl
 have w2:=w1.2
 have zn:=Hr hBE aye nD kd kd
 have hdr:=λi (hi:i<g.e.length)=>hdz.rat hi
 obtain⟨Q,a1,a2,a3⟩:=hdz
 have hEQ:=cf p1 a1
 have aqC:=pY p2 a2
 have dD:dV (Xe.gE g x*Q) (aJ t (gr (bI g) x d)):=dV.sum λl hlt=>by have hi:=hln l hlt;obtain⟨z,ez,-⟩:=a3 l.1 hi;exact dV.mul p1 a1 (h.slD hx0 hi l.2) ⟨z,ez⟩
 have hN:(0:Rat)<=((2^q:Nat):Rat):=br.mpr (bp _)
 have hgr:∀l∈t,0<=gr (bI g) x d l/\gr (bI g) x d l<=1000001*((2^q:Nat):Rat):=λl hlt=>by have hi:=hln l hlt;have s1:=sO (h.nn hi) (hx0 _ hi) l.2;have s2:=Wu (h.ed l.1 hi).uq (h.eb l.1 hi) (hx0 _ hi) l.2;have s3:=hd l.1 hi;have s4:=(hdr l.1 hi).le;refine⟨ce s1 s3,?_⟩;have s5:=bj s2 s3;have s6:=cQ s4 (show(0:Rat)<=1000001 by decide);show yI (bY (ix g.e l.1)) (x l.1) l.2*d l.1<=_;grind
 have r0:0<=aJ t (gr (bI g) x d):=nZ λl hlt=>(hgr l hlt).1
 have r1:=tu (f:=gr (bI g) x d) (v:=1000001*((2^q:Nat):Rat)) (ce jj hN) (l:=t) (k:=4) (λl hlt=>(hgr l hlt).2) hk
 have hK:((4000004*2^q:Nat):Rat)=((4:Nat):Rat)*(1000001*((2^q:Nat):Rat)):=by rw[eQ,e4];have:((4000004:Nat):Rat)=4000004:=rfl;rw[this];grind
 rw[<-hK]at r1
 have hK2:4000004*2^q<=2^(22+q):=by rw[ec];exact bo _ jj
 have zd:=(WH hEQ aqC dD hK2 (by have:(0:Rat)<=((4000004*2^q:Nat):Rat):=br.mpr (bp _);grind) r1)
 have zd:mF (446+2*q) (aJ t (gr (bI g) x d)):=zd.mono jb
 refine⟨zn.mono jb,zd,λhpos=>⟨(zn.div zd kd).mono jb,?_⟩⟩
 obtain⟨w,v0,v1,vD⟩:=WL hB0 hEQ (nD.dvd (cE _ (aR _ _)) (cf hB0 hEQ)) dD hpos r1
 refine⟨B*w,aR _ _,cf hB0 v0,?_,vD⟩
 have:=pY hb (ap v1 (pY hK2 aqC))
 exact ap this (zN jb)
def jG.c_p(h:jG g)(hB0:0<B)(h6:60∣B)(hb:B<=2^b)(hx:∀i,i<g.e.length->SmB B (x i))(hd:∀i,i<g.e.length->0<=d i)(hdz:FU g.e.length q d){D:Rat×List fK}(hD:D∈(bI g).ds){k:Nat}:∀v∈qZ D.1 (gq (bI g) x) (gr (bI g) x d) 0 0 (D.2.take k),agI B (b+1100+2*q) (b+2200+2*q) v:=λv hv=>by
 obtain⟨j,hj,ej⟩:=aM hD;have hj2:j<g.d.length:=by grind[yL]
 have e0:D=(dW g j,dL g j):=by rw[<-ej,<-Qg hj2];grind[dS]
 subst e0;obtain⟨k',h1,h2,h3⟩:=aeb _ _ _ v hv;rw[gx]at h2 h3;rw[gx,List.take_take]at h2;rw[List.take_take]at h3;rw[h2];exact(h.c_d hB0 h6 hb hx hd hdz hj2 _).2.2 h3
def jG.nr(h:jG g)(hB0:0<B)(h6:60∣B)(hb:B<=2^b)(hb2:b<=190000000)(hx:∀i,i<g.e.length->SmB B (x i))(hd:∀i,i<g.e.length->0<=d i)(hdz:FU g.e.length q d)(hq:q<=1000000):
  NrN (B*Xe.gE g x) g x d/\∀v∈kH g.e.length (bI g) (nM g x) x d,agI B (b+1100+2*q) (b+2200+2*q) v:=by
 have hx0:∀i,i<g.e.length->0<=x i:=λi hi=>(hx i hi).2.1
 obtain⟨p1,p2⟩:=h.gE hx0
 have heB:=ZC
 have hall:∀v∈kH g.e.length (bI g) (nM g x) x d,agI B (b+1100+2*q) (b+2200+2*q) v:=λv hv=>by
  rcases bZ.mp hv with hv|hv
  .exact h.c_e hB0 h6 hb hx hdz jp v hv
  .obtain⟨D,hD,hv⟩:=cC.mp hv;rw[<-cB (l:=D.2)]at hv;exact h.c_p hB0 h6 hb hx hd hdz hD v hv
 refine⟨⟨h.mg hB0 h6 hb jb hx,λi hi=>⟨h.nn hi,hx0 i hi⟩,λi hi=>(hdz.rat hi).sz jb,λi hi _=>⟨ChS B b (bY (ix g.e i)),h.ch0 hB0 hb hx hi,λm hm=>ChS.ok h hi h6 hb2 hm,λm t hm ht=>hm.next h hi h6 ht⟩,λi hi hp y hy=>?_,λi hi=>?_,λj hj k hk=>?_,λj hj l hl=>?_⟩,hall⟩
 .obtain⟨z1,z2,z3⟩:=h.ny hB0 h6 hb hx hdz hi hp hy
  exact⟨z1.sz jb,z2.sz jb,z3.1.sz jb⟩
 .exact alm (λv hv=>(h.c_e hB0 h6 hb hx hdz hi v hv).1) jb
 .obtain⟨z1,z2,z3⟩:=h.c_d hB0 h6 hb hx hd hdz hj k
  refine⟨alm (r:=b+2200+2*q) (λv hv=>?_) jb,z1.sz jb,z2.sz jb,?_⟩
  .rcases bZ.mp hv with hv|hv
   .rcases bZ.mp hv with hv|hv
    .exact(h.c_e hB0 h6 hb hx hdz jp v hv).1
    .obtain⟨D,hD,hv⟩:=cC.mp hv
     rw[<-cB (l:=D.2)]at hv
     exact(h.c_p hB0 h6 hb hx hd hdz (eo hD) v hv).1
   .exact(h.c_p hB0 h6 hb hx hd hdz (h.ds hj) (k:=k) v hv).1
  .by_cases e:aJ ((dL g j).take k) (gr (bI g) x d)=0
   .grind[Sz.zero]
   .exact(z1.div z2 e).sz jb
 .obtain⟨-,-,w3⟩:=h.aks (h.ds hj)
  have hle:=w3 l hl
  have hi:=(h.L6.fE l hle).1
  have s1:=sO (h.nn hi) (hx0 _ hi) l.2
  have s2:=Wu (h.ed l.1 hi).uq (h.eb l.1 hi) (hx0 _ hi) l.2
  obtain⟨q0,q1⟩:=h.alj hx0 hle
  have e1:((1000001:Nat):Rat)=1000001:=rfl
  have zs:mF (eB+20) (yI (bY (ix g.e l.1)) (x l.1) l.2):=WH (K:=1000001) p1 p2 (h.slD hx0 hi l.2) jj kd jb
  refine⟨?_,?_,?_⟩
  .have hBE:=cf hB0 p1
   exact(Hr hBE (pY hb p2) ((ajN jj hB0 h6 (h.ed l.1 hi) (hx l.1 hi).1 (hx l.1 hi).2.1 l.2).dvd (cE _ (QB x hi)) hBE) (by have:0<=uo (bY (ix g.e l.1)) (x l.1) l.2:=q0;grind) (by have:uo (bY (ix g.e l.1)) (x l.1) l.2<=4800:=q1;grind)).sz jb
  .unfold gs
   rw[ae rfl]
   exact zs.sz jb
  .exact(zs.mul (hdz.rat hi)).sz jb
end
def kvS(F:Nat->Nat->Rat)(P:List Nat)(f:Nat):Nat->Nat->Rat
 |0,k=>if k=f then 1 else 0
 |r+1,k=>if k=at0 P r then-F r f else kvS F P f r k
def kvF(F:Nat->Nat->Rat)(P:List Nat)(f:Nat):Nat->Rat:=kvS F P f P.length
def ace{F:Nat->Nat->Rat}{P:List Nat}{f k:Nat}:∀r,(∀a,a<r->k≠at0 P a)->kvS F P f r k=if k=f then 1 else 0
 |0,_=>rfl
 |r+1,h=>by unfold kvS;rw[ab (h r jb)];exact ace r λa ha=>h a jb
def aln{F:Nat->Nat->Rat}{P:List Nat}{f:Nat}(hlt:∀a b,b<a->a<P.length->at0 P b<at0 P a){a:Nat}:∀r,r<=P.length->a<r->kvS F P f r (at0 P a)=-F a f
 |0,_,h=>jb
 |r+1,hr,ha=>by
  unfold kvS;by_cases e:a=r
  .subst e;rw[ae rfl]
  .have:=hlt r a jb jb;rw[ab jb];exact aln hlt r jb jb
def ayf{F:Nat->Nat->Rat}{P:List Nat}{f:Nat}(hlt:∀a b,b<a->a<P.length->at0 P b<at0 P a)(hf:f∉P):kvF F P f f=1/\(∀a,a<P.length->kvF F P f (at0 P a)=-F a f)/\∀k,k∉P->k≠f->kvF F P f k=0:=by
 refine⟨?_,λa ha=>aln hlt _ jp ha,λk hk hne=>?_⟩
 .have:=ace (F:=F) (P:=P) (f:=f) (k:=f) P.length λa ha e=>hf (by grind[jg]);rwa[ae rfl]at this
 .have:=ace (F:=F) (P:=P) (f:=f) (k:=k) P.length λa ha e=>hk (by grind[jg]);rwa[ab hne]at this
section
variable {n:Nat} {M:Nat→Nat→Rat} {l:List Nat}
def sub_one(M:Nat->Nat->Rat)(l:List Nat)(a b:Nat):oQ M l a b=1*(wL M l a b-if a=b then 1 else 0):=by unfold oQ;grind
def alo(hl:Jm n M l):∃f,f<l.length/\f∉(ech l.length (oQ M l) l.length).2:=
 aoU (Kz _ _ _ _) (agp hl.nodup hl.lt hl.aoX hl.ne hl.col _ 1 λa b _ _=>sub_one M l a b)
def apn(hM:LP n M)(hl:Jm n M l){f:Nat}(hf:f<l.length)(hfP:f∉(ech l.length (oQ M l) l.length).2):
  (∀j,j<n->qM l (kvF (ech l.length (oQ M l) l.length).1 (ech l.length (oQ M l) l.length).2 f) j=mv n M (qM l (kvF (ech l.length (oQ M l) l.length).1 (ech l.length (oQ M l) l.length).2 f)) j)/\∀i∈l,0<qM l (kvF (ech l.length (oQ M l) l.length).1 (ech l.length (oQ M l) l.length).2 f) i:=by
 have hE:=Kz l.length l.length (oQ M l) l.length
 obtain⟨k1,k2,k3⟩:=ayf (F:=(ech l.length (oQ M l) l.length).1) hE.lt hfP
 have hs:=aoT hE hf hfP k1 k2 λk _ h1 h2=>k3 k h1 h2
 exact agm hM hl.nodup hl.lt hl.aoX hl.min hf k1 (agq (s:=1) jj (λa b _ _=>sub_one M l a b) hs)
def aAc{m a:Nat}{F:Nat->Nat->Rat}{P:List Nat}{f:Nat}(hP:P.length<=m)(hf:f<m)(h:Es m m a F)(hl:l.length=m):FU n a (qM l (kvF F P f)):=by
 obtain⟨Q,h1,h2,h3⟩:=h;have key:∀r,r<=P.length->∀k,∃z:Int,kvS F P f r k=(z:Rat)/(Q:Rat)/\z.natAbs<=2^a:=λr=>by
  induction r with
  |zero=>
   intro _ k
   unfold kvS
   split
   .refine⟨Q,?_,jb⟩
    have:=iI h1
    have e:(((Q:Nat):Int):Rat)=(Q:Rat):=rfl
    grind
   .exact⟨0,by grind,bp _⟩
  |succ r ih=>
   intro hr k
   unfold kvS
   split
   .obtain⟨z,e,hz⟩:=h3 r f jb hf
    exact⟨-z,by grind,jb⟩
   .exact ih jb k
 refine⟨Q,h1,h2,λi _=>?_⟩;unfold qM;split
 .exact key _ jp _
 .exact⟨0,by grind,bp _⟩
def agJ(hM:LP n M)(hn:l.Nodup)(hl:∀i∈l,i<n)(hc:Wv n M l)(hno:∀S:Nat->Prop,(∃i,i<n/\S i)->(∀i,i<n->S i->i∈l)->¬Ins.Shut n M S)
  {B:Nat->Nat->Rat}{s:Nat->Rat}(hs:∀i,i<l.length->s i≠0) (hB:∀i j,i<l.length->j<l.length->B i j=s i*oQ M l i j) (z:Nat->Rat) (hz:∀i,i<l.length->aB l.length (λj=>B i j*z j)=0):∀j,j<l.length->z j=0:=by
 refine akP hM hn hl hc hno λa ha=>?_
 have h:=hz a ha
 have e:aB l.length (λj=>B a j*z j)=s a*aB l.length (λj=>wL M l a j*z j-if j=a then z a else 0):=by rw[<-gQ];grind[Go.Proofs.Ins.aQ,Go.Proofs.Xe.oQ]
 rw[e,iH,jE ha]at h
 grind
def alp{B:Nat->Nat->Rat}{s v c:Nat->Rat}(hs:∀i,i<l.length->s i≠0)(hB:∀i j,i<l.length->j<l.length->B i j=s i*oQ M l i j)(hBn:∀i,i<l.length->B i l.length=s i* -(c (at0 l i)))(hv:∀i,i<l.length->aB l.length (λj=>B i j*v j)=B i l.length):
  ∀a,a<l.length->v a=aB l.length (λb=>wL M l a b*v b)+c (at0 l a):=by
 intro a ha
 have h:=hv a ha
 have e:aB l.length (λj=>B a j*v j)=s a*aB l.length (λj=>wL M l a j*v j-if j=a then v a else 0):=by rw[<-gQ];grind[Go.Proofs.Ins.aQ,Go.Proofs.Xe.oQ]
 rw[e,hBn a ha,iH,jE ha]at h
 grind
def L8(n a:Nat)(W:Nat->Nat->Rat):Prop:=∀i j,i<n->j<=n->∃z:Int,W i j=(z:Rat)/\z.natAbs<=2^a
def L8.step{a k:Nat}{W:Nat->Nat->Rat}{p:Rat}(h:L8 n a W)(hk:k<n)(hp:Gi p)(p0:p≠0)(hi:∀i j,i<n->j<=n->Gi (KD W k p i j)):L8 n (2*a+1) (KD W k p):=λi j hin hj=>by
 obtain⟨z,ez⟩:=hi i j hin hj;refine⟨z,ez,?_⟩;have e2:(2:Nat)^(2*a+1)=2^a*2^a+2^a*2^a:=by rw[dx,Nat.two_mul a,ec];omega
 have h1:1<=2^a:=gT;have h2:2^a<=2^a*2^a:=fT _ h1;unfold KD at ez;by_cases e:i=k
 .rw[ae e]at ez;obtain⟨y,ey,hy⟩:=h k j hk hj;rw[ey]at ez;have:=eV.mp ez;omega
 .rw[ab e]at ez;obtain⟨q,rfl⟩:=hp;obtain⟨y1,e1,hy1⟩:=h k k hk jb;obtain⟨y2,e3,hy2⟩:=h i j hin hj;obtain⟨y3,e4,hy3⟩:=h i k hin jb;obtain⟨y4,e5,hy4⟩:=h k j hk hj;rw[e1,e3,e4,e5]at ez;have e6:((y1*y2-y3*y4:Int):Rat)=((z*q:Int):Rat):=by grind
  have e7:=eV.mp e6;have hq:1<=q.natAbs:=by have:q≠0:=λe=>p0 (by simp_all);omega
  have k1:=cG hy1 hy2;have k2:=cG hy3 hy4;have k3:(z*q).natAbs<=(y1*y2).natAbs+(y3*y4).natAbs:=jb;rw[fg,fg,fg]at k3;have k4:z.natAbs<=z.natAbs*q.natAbs:=fT _ hq;omega
def ayg{m a:Nat}{W:Nat->Nat->Rat}{p:Rat}(h:L8 m a W)(hd:∀i,i<m->W i i=p)(p0:p≠0)(hm:0<m)(hl:l.length=m)(hnd:l.Nodup):FU n a (qM l λi=>W i m/W i i):=by
 obtain⟨q,eq,hq⟩:=h 0 0 hm jb;rw[hd 0 hm]at eq;have hq0:q≠0:=λe=>p0 (by simp_all);obtain⟨s,hs,es⟩:=WE q;have hss:=ab3 hs;refine⟨q.natAbs,jb,hq,λi _=>?_⟩;by_cases hi:i∈l
 .obtain⟨k,hk,rfl⟩:=Fz hi;rw[FB hnd _ hk];obtain⟨z,ez,hz⟩:=h k m jb jp;refine⟨s*z,?_,?_⟩
  .grind
  grind
 .rw[vF hi];exact⟨0,by grind,bp _⟩
def Bar.diag{W B:Nat->Nat->Rat}{p:Rat}(h:Bar n n B W p):∀i,i<n->W i i=p:=by obtain⟨X,-,h2,h3,-⟩:=h.ex;grind
end
def ayh(s t:Bool){u v:Nat}(hv:0<v):Ins.fr (false==(s==t)) u v=((iv s u:Int):Rat)/((iv t v:Int):Rat):=by
 have h:=OG (iv s u) (v:Int) jb;rw[Ak,hJ]at h;by_cases hu:u=0
 .simp_all[iv,acv,Rat.div_def]
 .have e1:decide ((v:Int)<0)=false:=az jb;rw[e1]at h;have e2:decide (iv s u<0)=s:=by grind[iv]
  rw[e2]at h;cases t with
  |false=>
   have:(false==(s==false))=(!(s==false)):=by simp
   rw[this,h];rfl
  |true=>
   have e3:(false==(s==true))=(!((!s)==false)):=by simp
   have h2:=OG (iv (!s) u) (v:Int) jb
   rw[Ak,hJ,e1]at h2
   have e4:decide (iv (!s) u<0)= !s:=by grind[iv]
   rw[e4]at h2
   rw[e3,h2]
   have e5:iv (!s) u=-iv s u:=by grind[iv]
   have e6:iv true v=-(v:Int):=rfl
   have hv0:((v:Int):Rat)≠0:=λe=>by simp_all
   rw[e5,e6,Rat.intCast_neg,Rat.intCast_neg]
   grind
def Bar.auy{n k:Nat}{B W W':Nat->Nat->Rat}{p:Rat}(h:Bar n k B W p)(hk:k<=n)(hw:∀i j,i<n->j<=n->W i j=W' i j):Bar n k B W' p:=by obtain⟨h1,h2,h3,X,x1,x2,x3,x4⟩:=h;exact⟨h1,h2,h3,X,x1,x2,λl j hl hj=>by grind,λi j a b c=>by grind⟩
def auz{σ:St}(hW:WF σ){mb n m lo hi:Nat}{S:Nat->Nat->Bool}{U:Nat->Nat->Nat}{bs:Nat->Nat}(hM:Am σ.h mb n m S U bs lo hi)(hn:n<=16)(hm:m<=17){k:Nat}(hk:k<n)(hkm:k<m){c:Cap}{kb:Nat}(hkb:σ.h kb=some ⟨[.int .i64 (.ofNat k)],none⟩)(hex:∃i,k<=i/\i<n/\U i k≠0):
  aC EN 193 [.c (.sl mb (k*1) (n-k) c),.fn 194 [.ptr kb 0]] σ λr σ'=>(∃a,r=.c (.int .i64 (.ofNat a))/\k+a<n/\U (k+a) k≠0)/\Fr σ σ':=by
 refine aP (dN.o _ _) dN.h ?_
 unfold dN
 dsimp only
 have hcl:=λ(args:List V) (σ:St) (K:V->St->Prop)=>lN (E:=EN) (K:=K) (uN.o args σ) uN.h
 unfold uN at hcl
 dsimp only at hcl
 simp(disch:=try exact jz) only[go_sem,z3]
 refine aF (λq tm σ'=>∃j,q=n-k-j/\j<=n-k/\Tr.ah tm 0=.c (.sl mb (k*1) (n-k) c)/\Tr.ah tm 1=.fn 194 [.ptr kb 0]/\Tr.ah tm 7=.c (.int .i64 (.ofNat (n-k)))/\Tr.ah tm 8=.c (.int .i64 (.ofNat j))/\(∀a,a<j->U (k+a) k=0)/\Fr σ σ') (n-k) ?_ ?_
 .refine⟨0,jb,jb,?_⟩
  simp(disch:=try exact jz) only[go_sem,z3,am]
  grind[Fr.refl]
 .rintro q tm σ' ⟨j,rfl,hj,t0,t1,t7,t8,hd,hf⟩
  have lK:=Fr.refl hf.wf
  simp(disch:=try exact jz) only[go_sem,z3,t0,t1,t7,t8,aG]
  refine aH (λhlt=>?_) (λhlt=>?_)
  .have hkj:k+j<n:=jb
   have q0:=hf.get hW hM.o
   have qr:=hf.get hW (hM.r _ hkj).1
   have hkb':=hf.get hW hkb
   have e0:ld σ'.h mb (k*1+j*1) 1 false=some (.c (.sl (bs (k+j)) 0 m (.ex m))):=by rw[au q0,show k*1+j*1=(k+j)*1 by omega];show zO (ones n _) _ 1 false=_;rw[acM n _ (k+j) hkj];rfl
   by_cases h0:U (k+j) k=0
   .have e1:decide (bn (U (k+j) k)=⟨#[]⟩)=true:=be (by rw[h0];rfl)
    simp(disch:=try exact jz) only[go_sem,z3,t0,t1,t7,t8,e0,hcl,au hkb',au qr,e1]
    refine⟨n-k-(j+1),jb,j+1,rfl,jb,rfl,λa ha=>?_,fr⟩
    grind
   .have e1:=ala (show 0<U (k+j) k by omega)
    simp(disch:=try exact jz) only[go_sem,z3,t0,t1,t7,t8,e0,hcl,au hkb',au qr,e1]
    exact⟨⟨j,rfl,hkj,h0⟩,fr⟩
  .exfalso
   obtain⟨i,h1,h2,h3⟩:=hex
   exact h3 (by have:=hd (i-k) jb;grind)
def acf{σ:St}(hW:WF σ){iv:B}{l:List Nat}(hl:Zm σ.h iv l)(hl1:l.length<=1000)(k:Nat):
  aC EN 189 [.c iv,.c (.int .i64 (.ofNat k))] σ λr σ'=>r=.c (.bool (decide (k∈l)))/\Fr σ σ':=by
 refine aP (jy.o _ _) jy.h ?_
 unfold jy
 dsimp only
 have hlen:=hl.len
 have hix:=λ(args:List V) (σ:St) (K:V->St->Prop)=>lN (E:=EN) (K:=K) (l7.o args σ) l7.h
 unfold l7 at hix
 dsimp only at hix
 simp(disch:=try exact jz) only[go_sem,z3,hix,hlen]
 refine aF (λq tm σ'=>∃j,q=l.length-j/\j<=l.length/\Tr.ah tm 0=.c iv/\Tr.ah tm 1=.c (.int .i64 (.ofNat k))/\Tr.ah tm 7=.c (.int .i64 (.ofNat l.length))/\Tr.ah tm 8=.c (.int .i64 (.ofNat j))/\(∀a,a<j->at0 l a≠k)/\Fr σ σ') l.length ?_ ?_
 .refine⟨0,jb,jb,?_⟩
  simp(disch:=try exact jz) only[go_sem,z3,am]
  grind[Fr.refl]
 .rintro q tm σ' ⟨j,rfl,hj,t0,t1,t7,t8,hd,hf⟩
  have lK:=Fr.refl hf.wf
  simp(disch:=try exact jz) only[go_sem,z3,t0,t1,t7,t8,aG]
  refine aH (λhlt=>?_) (λhlt=>?_)
  .obtain⟨bb,o,c,rfl,hld⟩:=hl.one jb
   have hld:=hf.ld hW (hld j hlt)
   by_cases e:k=at0 l j
   .have hin:k∈l:=by grind[jg]
    have e1:decide (k=at0 l j)=true:=be e
    simp(disch:=try exact jz) only[go_sem,z3,t0,t1,t7,t8,hld,e1,show decide (Int.ofNat 0<=Int.ofNat j)=true from be kc]
    grind
   .have e1:decide (k=at0 l j)=false:=az e
    simp(disch:=try exact jz) only[go_sem,z3,t0,t1,t7,t8,hld,e1]
    refine⟨l.length-(j+1),jb,j+1,rfl,jb,rfl,λa ha=>?_,hf⟩
    grind
  .have:j=l.length:=jb
   subst this
   have hin:k∉l:=λh=>by grind[Fz]
   simp(disch:=try exact jz) only[go_sem,z3,t0,Zr]
   grind
def alq{σ:St}(hW:WF σ){p:Nat->Prop}{v:B}{n m:Nat}{A:Nat->Nat->Rat}(hA:dO p σ.h v n (λ_=>m) A)(hn:0<n)(hn2:n<=16)(hm:0<m)(hm2:m<=16){a:Nat}(hz:Es n m a A)(ha:LZ a m<=50000000):
  aC EN 188 [.c v] σ λr σ'=>(∃mb pb,r=.aZ (.c (.sl mb 0 n (.ex n))) (.aZ (.c (aV (ech n A m).2.length pb)) (.aZ (.c (.int .i64 (.ofNat 0))) .tnil))
   /\dO (Lt σ'.aj) σ'.h (.sl mb 0 n (.ex n)) n (λ_=>m) (ech n A m).1/\Zm σ'.h (aV (ech n A m).2.length pb) (ech n A m).2)/\Fr σ σ':=by
 refine aP (wG.o _ _) wG.h ?_
 unfold wG
 dsimp only
 have hlen:=hA.len
 obtain⟨b6,o6,c6,T,rfl,-,bK,hT⟩:=hA.at hn
 have sV:ld σ.h b6 (o6+0*1) 1 false=some (.c T):=bK
 have hlT:=aX.len hT
 have hxa:=ak7 a m
 have hzs:∀i k,i<n->k<m->Sz (A i k):=λi k hi hk=>(hz.rat hi hk).sz jb
 simp(disch:=try exact jz) only[go_sem,z3]
 refine(Zv hW hA hn hn2 hm hm2).mono ?_
 rintro _ σ1 ⟨rfl,hf1⟩
 simp(disch:=try exact jz) only[go_sem,z3,ofNat_eq]
 refine(QA hf1.wf (hA.fr hW hf1) hn2 hm jb hzs).mono ?_
 rintro _ σ2 ⟨⟨mb,bs,rfl,hmb,hM⟩,hf2⟩
 have auA:=hf1.trans hf2
 have sV:=auA.ld hW sV
 have hle2:=auA.le
 have hb:=hM.b
 simp(disch:=try exact jz) only[go_sem,z3,sV,hlT]
 refine(alg hf2.wf hM jp hn2 hm2 jp hz ha).mono ?_
 rintro _ σ3 ⟨⟨bs',pb,rfl,hM3,hN3⟩,hk3⟩
 have hf3:=oZ.fr auA hk3 (by have:=hf1.le;omega)
 have hle3:=hk3.le
 have aoA:=Fr.refl hf3.wf
 simp(disch:=try exact jz) only[go_sem,z3,am]
 have jB:Fr σ3 ⟨hset (hset σ3.h σ3.aj ⟨[.bool (rn 0),.str (rs 0),.str (rd 0)],none⟩) σ3.aj ⟨[.bool (rn (xC n A m)),.str (rs (xC n A m)),.str (rd (xC n A m))],none⟩,σ3.aj+1⟩:=fr
 refine⟨⟨mb,pb,rfl,(hM3.rows (p:=Lt σ3.aj) λb hb=>by show b<σ3.aj;have:=hM.l;omega).keep (λb hb=>jB.old b hb) λb hb=>Nat.lt_succ_of_lt hb,?_⟩,hf3.trans jB⟩
 exact HL.fr hf3.wf jB (aX.hl (hN3.hlp jj (λ_ _=>rfl) (p:=Lt σ3.aj) λb _ h=>h))
def jl(g:fD)(i:Nat):Rat:=(ix g.e i).m.q
def meas(g:fD)(x:Nat->Rat)(t:Rat):Nat:=mu g.e.length (bI g) x+if t=1 then 0 else 1
def uV(g:fD)(x:Nat->Rat)(t:Rat):Prop:=∃B b,60∣B/\0<B/\B<=2^b/\b+400000*meas g x t<=60000000/\(∀i,i<g.e.length->SmB B (x i))/\dV B t
theorem aec{W:Rat}{q:fK->Rat}:∀(t:List fK) (Q:Rat),BM W q Q t<=t.length
 |[],_=>jp
 |l::t,Q=>by have:=aec (W:=W) (q:=q) t (Q+q l);unfold BM;rw[bB];split<;>omega
def aed{g:GL}{q:fK->Rat}{k:Nat}:∀{l:List (Rat×List fK)},(∀d∈l,d.2.length<=k)->RF g q l<=l.length*k
 |[],_=>bp _
 |d::l,h=>by have h1:=aed (g:=g) (q:=q) (l:=l) λe he=>h e (by simp[he]);have h2:=h d kc;grind[aec,RF,Nat.succ_mul]
def ZE{f:Nat->Nat}{k:Nat}:∀n,(∀i,i<n->f i<=k)->Aj n f<=n*k
 |0,_=>bp _
 |n+1,h=>by have h1:=ZE n λi hi=>h i jb;grind[Aj]
section
variable {g:fD} {x d:Nat→Rat} {t v:Rat} {q:Nat}
def jG.ayi(h:jG g)(x:Nat->Rat):mu g.e.length (bI g) x<=140:=by have h1:=ZE (f:=λi=>opn ((bI g).e i) (x i)) (k:=16) g.e.length λi hi=>h.aqB hi (x i);have h2:=aed (g:=bI g) (q:=gq (bI g) x) (k:=4) (l:=(bI g).ds) λd hd=>(h.aks hd).2.1;have h3:=h.n;have h4:=h.d3;grind[yL,mu]
def Un(h:jG g):uV g (λ_=>0) 0:=by have:=h.ayi λ_=>0;refine⟨60,6,im _,jj,jj,?_,λi _=>⟨dV.zero _,aY,show(0:Rat)<=100000 by decide⟩,dV.zero _⟩;grind[meas]
def jG.ayj(h:jG g){least:Bool}(hI:Eo h.L6 (jl g) least x t){i:Nat}(hi:i<g.e.length):0<=x i/\x i<=100000:=by refine⟨hI.nn i hi,?_⟩;have h1:=hI.fix i hi;have h2:=h.ayc hI.nn i;have h3:=(h.m i hi).2.2;have h4:=bj hI.t1 h3.1;have e:(wK h.L6).G x i=gG g.e.length (bI g) x i:=rfl;grind[jl]
def uV.nr(h:jG g)(hP:uV g x t)(hd:∀i,i<g.e.length->0<=d i)(hdz:FU g.e.length q d)(hq:q<=120000):∃D,NrN D g x d:=by obtain⟨B,b,h6,h0,hb,hb2,hx,-⟩:=hP;exact⟨_,(h.nr h0 h6 hb jb hx hd hdz jb).1⟩
def uV.akJ(h:jG g)(hP:uV g x t)(hd:∀i,i<g.e.length->0<=d i)(hdz:FU g.e.length q d)(hq:q<=120000)(hv:v∈kH g.e.length (bI g) (nM g x) x d){least:Bool}{t':Rat}(ht:t'=t\/t'=t+v)(hI:Eo h.L6 (jl g) least (bF x d v) t')(hm:meas g (bF x d v) t'<meas g x t):
  uV g (bF x d v) t'/\Sz v:=by
 obtain⟨B,b,h6,h0,hb,hb2,hx,htD⟩:=hP
 obtain⟨hZ,H,k1,k2,k3,k4⟩:=(h.nr h0 h6 hb jb hx hd hdz jb).2 v hv
 obtain⟨Q,q1,q2,q3⟩:=hdz
 have hBQ:=cf k2 q1
 refine⟨⟨H*Q,b+1100+2*q+q,bL h6 (bL k1 (aR _ _)),hBQ,pY k3 q2,jb,λi hi=>?_,?_⟩,hZ.sz jb⟩
 .obtain⟨z,ez,-⟩:=q3 i hi
  have hf:=h.ayj hI hi
  exact⟨((hx i hi).1.dvd (bL k1 (aR _ _)) hBQ).add (dV.mul k2 q1 k4 ⟨z,ez⟩),hf.1,hf.2⟩
 .have e1:=htD.dvd (bL k1 (aR _ Q)) hBQ
  rcases ht with rfl|rfl
  .exact e1
  .exact e1.add (k4.dvd (aR _ _) hBQ)
def uV.last(h:jG g)(hP:uV g x t)(hdz:FU g.e.length q d)(hq:q<=120000)(ht:t≠1){least:Bool}(hI:Eo h.L6 (jl g) least (bF x d (1-t)) 1)(hm:mu g.e.length (bI g) (bF x d (1-t))<=mu g.e.length (bI g) x):
  uV g (bF x d (1-t)) 1:=by
 obtain⟨B,b,h6,h0,hb,hb2,hx,htD⟩:=hP
 obtain⟨Q,q1,q2,q3⟩:=hdz
 have hBQ:=cf h0 q1
 have hone:dV B (1:Rat):=⟨B,by have:=iI h0;have e:(((B:Nat):Int):Rat)=((B:Nat):Rat):=rfl;grind⟩
 have hlt:meas g (bF x d (1-t)) 1<meas g x t:=by grind[meas]
 refine⟨B*Q,b+q,bL h6 (aR _ _),hBQ,pY hb q2,jb,λi hi=>?_,hone.dvd (aR _ _) hBQ⟩
 obtain⟨z,ez,-⟩:=q3 i hi
 have hf:=h.ayj hI hi
 exact⟨((hx i hi).1.dvd (aR _ _) hBQ).add (dV.mul h0 q1 (hone.sub htD) ⟨z,ez⟩),hf.1,hf.2⟩
def uV.sz(hP:uV g x t)(h0:0<=t)(h1:t<=1):(∀i,i<g.e.length->Sz (x i))/\Sz t/\Sz (1-t):=by
 obtain⟨B,b,h6,hB,hb,hb2,hx,htD⟩:=hP;have hone:dV B (1:Rat):=⟨B,by have:=iI hB;have e:(((B:Nat):Int):Rat)=((B:Nat):Rat):=rfl;rw[e];grind⟩
 exact⟨λi hi=>(Hr hB hb (hx i hi).1 (by have:=(hx i hi).2.1;grind) (hx i hi).2.2).sz jb,(Hr hB hb htD kd kd).sz jb,(Hr hB hb (hone.sub htD) kd kd).sz jb⟩
def uV.ayk(h:jG g)(hP:uV g x t)(hd:∀i,i<g.e.length->0<=d i)(hdz:FU g.e.length q d)(hq:q<=120000)(h0:0<=t)(h1:t<=1)(hv:v∈kH g.e.length (bI g) (nM g x) x d\/v=1-t):Sz v/\∀i,i<g.e.length->Sz (d i)/\Sz (v*d i):=by
 obtain⟨B,b,h6,hB,hb,hb2,hx,htD⟩:=hP;have hone:dV B (1:Rat):=⟨B,by have:=iI hB;have e:(((B:Nat):Int):Rat)=((B:Nat):Rat):=rfl;grind⟩
 have hZ:mF (b+2200+2*q) v:=by
  rcases hv with hv|rfl
  .exact((h.nr hB h6 hb jb hx hd hdz jb).2 v hv).1
  .exact(Hr hB hb (hone.sub htD) kd kd).mono jb
 exact⟨hZ.sz jb,λi hi=>⟨(hdz.rat hi).sz jb,(hZ.mul (hdz.rat hi)).sz jb⟩⟩
def uV.mg(h:jG g)(hP:uV g x t):∃D,Wj D g x:=by obtain⟨B,b,h6,hB,hb,hb2,hx,-⟩:=hP;exact⟨_,h.mg hB h6 hb jb hx⟩
def uV.map(h:jG g)(hP:uV g x t):∃D,at7 60 D g x:=by obtain⟨B,b,h6,hB,hb,hb2,hx,-⟩:=hP;exact⟨_,h.map hB h6 hb jb hx⟩
def jG.mz(h:jG g)(hx:∀i,i<g.e.length->0<=x i):(∀j i,j<g.e.length->i<g.e.length->Sz (gM g.e.length (bI g) x j i))/\(∀i,i<g.e.length->Sz (gM g.e.length (bI g) x i i-1))/\∀i k,i<g.e.length->k<=g.e.length->Sz (aB k λj=>gM g.e.length (bI g) x j i):=by
 obtain⟨p1,p2⟩:=h.gE hx;have hone:dV (Xe.gE g x) (1:Rat):=⟨Xe.gE g x,by have:=iI p1;have e:(((Xe.gE g x:Nat):Int):Rat)=((Xe.gE g x:Nat):Rat):=rfl;grind⟩
 refine⟨λj i hj hi=>?_,λi hi=>?_,λi k hi hk=>?_⟩
 .have:=h.m01 hx hj hi;exact(Hr p1 p2 (h.mD hx hi) kd kd).sz jj
 .have:=h.m01 hx hi hi;exact(Hr p1 p2 ((h.mD hx hi).sub hone) kd kd).sz jj
 .have key:∀k,k<=g.e.length->0<=aB k (λj=>gM g.e.length (bI g) x j i)/\aB k (λj=>gM g.e.length (bI g) x j i)<=(k:Rat):=λk=>by
   induction k with
   |zero=>intro _;exact⟨aY,aY⟩
   |succ k ih=>
    intro hk
    have a:=ih jb
    have b:=h.m01 hx (j:=k) jb hi
    have e:((k+1:Nat):Rat)=(k:Rat)+1:=gb _ _
    grind[aB]
  have hk8:((k:Nat):Rat)<=((8:Nat):Rat):=br.mpr (by have:=h.n;omega);have e8:((8:Nat):Rat)=8:=rfl;have:=key k hk;exact(Hr p1 p2 (abX λj _=>h.mD hx hi) kd kd).sz jj
end
def KF(P:List Nat)(k:Nat):Bool:=!decide (k∈P)
def kvT(m:Nat)(F:Nat->Nat->Rat)(P:List Nat)(j:Nat):Nat->Rat:=kvF F P (at0 (ig (KF P) m) j)
def ayl{m:Nat}{F:Nat->Nat->Rat}{P:List Nat}{f:Nat}:cO m (aN (λ_=>0) f 1)=cO m (kvS F P f 0):=dR λk _=>by rfl
def auB{m:Nat}{F:Nat->Nat->Rat}{P:List Nat}{f r:Nat}:cO m (aN (kvS F P f r) (at0 P r) (-F r f))=cO m (kvS F P f (r+1)):=dR λk _=>by rfl
def alr{σ:St}(hW:WF σ){p:Nat->Prop}{v:B}{n m:Nat}{A:Nat->Nat->Rat}(hA:dO p σ.h v n (λ_=>m) A)(hn:0<n)(hn2:n<=16)(hm:0<m)(hm2:m<=16){a:Nat}(hz:Es n m a A)(ha:LZ a m<=50000000):
  aC EN 151 [.c v] σ λr σ'=>(∃b,r=.aZ (.c (aV (ig (KF (ech n A m).2) m).length b)) (.aZ (.c (.int .i64 (.ofNat 0))) .tnil)/\dO (Lt σ'.aj) σ'.h (aV (ig (KF (ech n A m).2) m).length b) (ig (KF (ech n A m).2) m).length (λ_=>m) (kvT m (ech n A m).1 (ech n A m).2))/\Fr σ σ':=by
 refine aP (wF.o _ _) wF.h ?_
 unfold wF
 dsimp only
 have hng:=λ(args:List V) (σ:St) (K:V->St->Prop)=>lN (E:=EN) (K:=K) (eY.o args σ) eY.h
 unfold eY at hng
 dsimp only at hng
 have hE:=Kz n m A m
 have hFZ:=Uk hz (c:=m) jp
 simp(disch:=try exact jz) only[go_sem,z3]
 refine(alq hW hA hn hn2 hm hm2 hz ha).mono ?_
 rintro _ σ1 ⟨⟨mb,pb,rfl,hF,hI⟩,hf1⟩
 generalize hEP:ech n A m=EP at*
 obtain⟨F,P⟩:=EP
 dsimp only at*
 have hPl:=hE.len
 have hPm:=hE.inc
 have IX:=hI.len
 obtain⟨b0,o0,c0,T0,e0,-,sV,hT0⟩:=hF.at hn
 cases e0
 have sV:ld σ1.h mb (0+0*1) 1 false=some (.c T0):=sV
 have aym:=aX.len hT0
 simp(disch:=try exact jz) only[go_sem,z3,ofNat_eq,sV,aym]
 refine aF (λq tm σ2=>∃f b T,q=m-f/\f<=m/\Tr.ah tm 4=.c (.sl mb 0 n (.ex n))/\Tr.ah tm 5=.c (aV P.length pb)/\Tr.ah tm 7=.c (aV (ig (KF P) f).length b)/\Tr.ah tm 24=.c (.int .i64 (.ofNat m))/\Tr.ah tm 25=.c (.int .i64 (.ofNat f))
   /\abJ T (λ_=>m) (kvT m F P) 30 σ2.h b (ig (KF P) f).length σ1.aj σ2.aj/\Fr σ1 σ2) m ?_ ?_
 .refine⟨0,σ1.aj,λ_=>.aO,jb,jb,?_⟩
  simp(disch:=try exact jz) only[go_sem,z3,am]
  exact⟨rfl,NF.nil (aj2 _),Fr.refl hf1.wf⟩
 .rintro q tm σ2 ⟨f,b,T,rfl,hfm,t4,t5,t7,t24,t25,hN,hf2⟩
  have hle2:=hf2.le
  simp(disch:=try exact jz) only[go_sem,z3,t4,t5,t7,t24,t25,aG]
  refine aH (λhlt=>?_) (λhlt=>?_)
  .simp(disch:=try exact jz) only[go_sem,z3,t4,t5,t7,t24,t25]
   refine(acf hf2.wf (hI.fr hf1.wf hf2) jb f).mono ?_
   rintro _ σ3 ⟨rfl,hf3⟩
   have hle3:=hf3.le
   have hF3:=hf2.trans hf3
   have hN3:=hN.mono (λj _=>Em _ _ _ j) (λb h1 h2=>hf3.old b h2) hle3
   by_cases hfP:f∈P
   .have e:ig (KF P) (f+1)=ig (KF P) f:=ab (by grind[KF])
    simp(disch:=try exact jz) only[go_sem,z3,t4,t5,t7,t24,t25,be hfP]
    exact⟨m-(f+1),jb,f+1,b,T,rfl,jb,by rw[e],rfl,by grind,hF3⟩
   .have hfr:KF P f=true:=by grind[KF]
    have e:ig (KF P) (f+1)=ig (KF P) f++[f]:=ae hfr
    have e2:(ig (KF P) (f+1)).length=(ig (KF P) f).length+1:=by grind
    have hat:=ad1 (KF P) hlt hfr
    have ayn:=hF3.ld hf1.wf sV
    have aoA:=Fr.refl hf3.wf
    have z1:=sz1
    simp(disch:=try exact jz) only[go_sem,z3,t4,t5,t7,t24,t25,az hfP,ayn,aym]
    refine bM.mono (Q:=λex tm σ5=>ex=.exit 2/\Tr.ah tm 4=.c (.sl mb 0 n (.ex n))/\Tr.ah tm 5=.c (aV P.length pb)/\Tr.ah tm 7=.c (aV (ig (KF P) f).length b)/\Tr.ah tm 9=.c (.sl σ3.aj 0 m (.ex m))/\Tr.ah tm 24=.c (.int .i64 (.ofNat m))/\Tr.ah tm 25=.c (.int .i64 (.ofNat f))
      /\σ5.h σ3.aj=some ⟨cO m (kvF F P f),none⟩/\Fr σ3 σ5/\σ3.aj+1<=σ5.aj)
     (aF (λq tm σ5=>∃r,q=P.length-r/\r<=P.length/\Tr.ah tm 4=.c (.sl mb 0 n (.ex n))/\Tr.ah tm 5=.c (aV P.length pb)/\Tr.ah tm 7=.c (aV (ig (KF P) f).length b)/\Tr.ah tm 8=.c (.int .i64 (.ofNat f))/\Tr.ah tm 9=.c (.sl σ3.aj 0 m (.ex m))/\Tr.ah tm 24=.c (.int .i64 (.ofNat m))/\Tr.ah tm 25=.c (.int .i64 (.ofNat f))/\Tr.ah tm 40=.c (aV P.length pb)/\Tr.ah tm 41=.c (.int .i64 (.ofNat P.length))/\Tr.ah tm 42=.c (.int .i64 (.ofNat r))
      /\σ5.h σ3.aj=some ⟨cO m (kvS F P f r),none⟩/\Fr σ3 σ5/\σ3.aj+1<=σ5.aj) P.length ?_ ?_) ?_
    .refine⟨0,jb,jb,?_⟩
     simp(disch:=try exact jz) only[go_sem,z3,am,t4,t5,t7,t24,t25,IX,ayl]
     exact⟨rfl,fr,jb⟩
    .rintro q tm5 σ5 ⟨r,rfl,hr,t4,t5,t7,t8,t9,t24,t25,t40,t41,t42,q9,hf5,hn5⟩
     have Jh:=Fr.refl hf5.wf
     simp(disch:=try exact jz) only[go_sem,z3,t4,t5,t7,t8,t9,t24,t25,t40,t41,t42,aG]
     refine aH (λaoF=>?_) (λaoF=>?_)
     .obtain⟨bi,oi,ci,ei,RI⟩:=hI.one jb
      have fZ:=hF3.trans hf5
      have RI:=fZ.ld hf1.wf (RI r aoF)
      have ai:V.c (.sl bi oi P.length ci)=V.c (aV P.length pb):=by rw[ei]
      rw[ei]at t40
      obtain⟨b0,o0,c0,Tr',e0,-,apo,hTr⟩:=hF.at (show r<n by omega)
      cases e0
      obtain⟨b7,o7,c7,rfl,-,dA⟩:=aX.at3 hTr hlt
      have apo:=fZ.ld hf1.wf apo
      rw[cK]at apo
      have dA:=fZ.ld hf1.wf dA
      have hin:=hPm r aoF
      have z2:Sz (F r f):=(hFZ.rat (show r<n by omega) hlt).sz jb
      have hl9:=hf5.wf.lt q9
      simp(disch:=try exact jz) only[go_sem,z3,t4,t5,t7,t8,t9,t24,t25,t40,t41,t42,RI,apo,dA,hng,q9,aI q9,auB]
      exact⟨P.length-(r+1),jb,r+1,rfl,jb,ai,rfl,rfl,fr,jb⟩
     .have:r=P.length:=jb
      subst this
      simp(disch:=try exact jz) only[go_sem,z3,am]
      exact⟨t4,t5,t7,t9,t24,t25,q9,hf5,hn5⟩
    .rintro _ tm5 σ5 ⟨rfl,t4,t5,t7,t9,t24,t25,q9,hf5,hn5⟩
     have vO:=hf5.le
     have Jh:=Fr.refl hf5.wf
     have hN5:=hN3.mono (λj _=>Em _ _ _ j) (λb h1 h2=>hf5.old b h2) jp
     have hg:=hN5.g
     have hL:=hN5.L
     have hl1:=hN5.l1
     have hl2:=hN5.l2
     have hlb:=Jo (KF P) f
     simp(disch:=try exact jz) only[go_sem,z3,t4,t5,t7,t9,t24,t25,hg]
     have ekv:kvT m F P (ig (KF P) f).length=kvF F P f:=by unfold kvT;rw[hat]
     rw[<-ekv]at q9
     have fZ:=hF3.trans hf5
     refine⟨m-(f+1),jb,f+1,σ5.aj+1,aN T (ig (KF P) f).length (.sl σ3.aj 0 m (.ex m)),rfl,jb,by rw[e2];rfl,rfl,?_,fr⟩
     rw[e2]
     refine abJ.push hN3 (hi1:=σ5.aj) (h1:=σ5.h) (bD _ q9 rfl ⟨jp,hn5⟩ (λ_=>rfl) jj λ_ _=>rfl) (λb h1 h2=>hf5.old b h2) jb (eg _) (bO _) jb (aA _ _ _) λc h1 h2 h3=>?_
     rw[ak _ _ _ _ jb,iq _ _ _ _ jb,ak _ _ _ _ jb]
  .have:f=m:=jb
   subst this
   simp(disch:=try exact jz) only[go_sem,z3,t7]
   exact⟨⟨b,rfl,hN.hrows λb _ h=>h⟩,hf1.trans hf2⟩
end Go.Proofs.Xe
