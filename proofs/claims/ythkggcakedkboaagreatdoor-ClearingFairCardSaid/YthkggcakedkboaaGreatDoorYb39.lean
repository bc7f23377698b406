import Derived.Test.YthkggcakedkboaaGreatDoorYb38
set_option linter.all false
set_option maxRecDepth 100000
set_option maxHeartbeats 8000000
namespace Go.Proofs.Xe
open Go.RowKit Go.Proofs.Ins
def iv(s:Bool)(u:Nat):Int:=if s=true then-(u:Int)else(u:Int)
theorem zi(s:Bool)(u:Nat):(iv s u).natAbs=u:=by cases s<;>simp[iv]
def aj7(s:Bool){u:Nat}:iv s u=0↔u=0:=by cases s<;>simp[iv]
def aj8(s t:Bool)(u v:Nat):iv (false==(s==t)) (u*v)=iv s u*iv t v:=by cases s<;>cases t<;>simp[iv]<;>grind
def anY{s t:Bool}(h:s≠t)(u v:Nat):iv s (u+v)=iv s u-iv t v:=by cases s<;>cases t<;>simp_all [iv]<;>omega
def ade(s:Bool){u v:Nat}(h:v<=u):iv s (u-v)=iv s u-iv s v:=by cases s<;>simp[iv]<;>omega
def anZ(s:Bool){u v:Nat}(h:¬v<=u):iv (!s) (v-u)=iv s u-iv s v:=by cases s<;>simp[iv]<;>omega
def asU{s t:Bool}{u v:Nat}{q:Int}(h:iv s u=q*iv t v)(hv:v≠0):iv (false==(s==t)) (u/v)=q:=by
 have ha:u=q.natAbs*v:=by have:=bV Int.natAbs h;rwa[zi,fY,zi]at this
 have hq:u/v=q.natAbs:=by rw[ha];exact Nat.mul_div_cancel _ jb
 rw[hq];have h2:iv (false==(s==t)) q.natAbs*(v:Int)=q*(v:Int):=by
  have e:(u:Int)=(q.natAbs:Int)*(v:Int):=by rw[ha,fg]
  cases s<;>cases t<;>simp[iv]at h⊢ <;>grind
 exact Int.eq_of_mul_eq_mul_right jb h2
def kvS(F:Nat->Nat->Rat)(P:List Nat)(f:Nat):Nat->Nat->Rat
 |0,k=>if k=f then 1 else 0
 |r+1,k=>if k=at0 P r then-F r f else kvS F P f r k
def kvF(F:Nat->Nat->Rat)(P:List Nat)(f:Nat):Nat->Rat:=kvS F P f P.length
def aa8{F:Nat->Nat->Rat}{P:List Nat}{f k:Nat}:∀r,(∀a,a<r->k≠at0 P a)->kvS F P f r k=if k=f then 1 else 0
 |0,_=>rfl
 |r+1,h=>by unfold kvS;rw[ae (h r jb)];exact aa8 r λa ha=>h a jb
def aj9{F:Nat->Nat->Rat}{P:List Nat}{f:Nat}(hlt:∀a b,b<a->a<P.length->at0 P b<at0 P a){a:Nat}:∀r,r<=P.length->a<r->kvS F P f r (at0 P a)=-F a f
 |0,_,h=>jb
 |r+1,hr,ha=>by
  unfold kvS;by_cases e:a=r
  .subst e;rw[ab rfl]
  .have:=hlt r a jb jb;rw[ae jb];exact aj9 hlt r jb jb
def awg{F:Nat->Nat->Rat}{P:List Nat}{f:Nat}(hlt:∀a b,b<a->a<P.length->at0 P b<at0 P a)(hf:f∉P):kvF F P f f=1/\(∀a,a<P.length->kvF F P f (at0 P a)=-F a f)/\∀k,k∉P->k≠f->kvF F P f k=0:=by
 refine⟨?_,λa ha=>aj9 hlt _ jp ha,λk hk hne=>?_⟩
 .have:=aa8 (F:=F) (P:=P) (f:=f) (k:=f) P.length λa ha e=>hf (by grind[iZ]);rwa[ab rfl]at this
 .have:=aa8 (F:=F) (P:=P) (f:=f) (k:=k) P.length λa ha e=>hk (by grind[iZ]);rwa[ae hne]at this
section
variable {n:Nat} {M:Nat→Nat→Rat} {l:List Nat}
def sub_one(M:Nat->Nat->Rat)(l:List Nat)(a b:Nat):nV M l a b=1*(vI M l a b-if a=b then 1 else 0):=by unfold nV;grind
def akb(hl:IJ n M l):∃f,f<l.length/\f∉(ech l.length (nV M l) l.length).2:=
 anC (JE _ _ _ _) (afk hl.nodup hl.lt hl.anL hl.ne hl.col _ 1 λa b _ _=>sub_one M l a b)
def an0(hM:Kq n M)(hl:IJ n M l){f:Nat}(hf:f<l.length)(hfP:f∉(ech l.length (nV M l) l.length).2):
  (∀j,j<n->pU l (kvF (ech l.length (nV M l) l.length).1 (ech l.length (nV M l) l.length).2 f) j=mv n M (pU l (kvF (ech l.length (nV M l) l.length).1 (ech l.length (nV M l) l.length).2 f)) j)/\∀i∈l,0<pU l (kvF (ech l.length (nV M l) l.length).1 (ech l.length (nV M l) l.length).2 f) i:=by
 have hE:=JE l.length l.length (nV M l) l.length
 obtain⟨k1,k2,k3⟩:=awg (F:=(ech l.length (nV M l) l.length).1) hE.lt hfP
 have hs:=anB hE hf hfP k1 k2 λk _ h1 h2=>k3 k h1 h2
 exact afj hM hl.nodup hl.lt hl.anL hl.min hf k1 (afl (s:=1) jj (λa b _ _=>sub_one M l a b) hs)
def ayp{m a:Nat}{F:Nat->Nat->Rat}{P:List Nat}{f:Nat}(hP:P.length<=m)(hf:f<m)(h:DI m m a F)(hl:l.length=m):EL n a (pU l (kvF F P f)):=by
 obtain⟨Q,h1,h2,h3⟩:=h;have key:∀r,r<=P.length->∀k,∃z:Int,kvS F P f r k=(z:Rat)/(Q:Rat)/\z.natAbs<=2^a:=λr=>by
  induction r with
  |zero=>
   intro _ k
   unfold kvS
   split
   .refine⟨Q,?_,jb⟩
    have:=iG h1
    have e:(((Q:Nat):Int):Rat)=(Q:Rat):=rfl
    grind
   .exact⟨0,by grind,bw _⟩
  |succ r ih=>
   intro hr k
   unfold kvS
   split
   .obtain⟨z,e,hz⟩:=h3 r f jb hf
    exact⟨-z,by grind,jb⟩
   .exact ih jb k
 refine⟨Q,h1,h2,λi _=>?_⟩;unfold pU;split
 .exact key _ jp _
 .exact⟨0,by grind,bw _⟩
def afx(hM:Kq n M)(hn:l.Nodup)(hl:∀i∈l,i<n)(hc:Va n M l)(hno:∀S:Nat->Prop,(∃i,i<n/\S i)->(∀i,i<n->S i->i∈l)->¬Ins.Shut n M S)
  {B:Nat->Nat->Rat}{s:Nat->Rat}(hs:∀i,i<l.length->s i≠0) (hB:∀i j,i<l.length->j<l.length->B i j=s i*nV M l i j) (z:Nat->Rat) (hz:∀i,i<l.length->aB l.length (λj=>B i j*z j)=0):∀j,j<l.length->z j=0:=by
 refine ajB hM hn hl hc hno λa ha=>?_
 have h:=hz a ha
 have e:aB l.length (λj=>B a j*z j)=s a*aB l.length (λj=>vI M l a j*z j-if j=a then z a else 0):=by rw[<-gB];grind[Go.Proofs.Ins.aK,Go.Proofs.Xe.nV]
 rw[e,iF,jv ha]at h
 grind
def akc{B:Nat->Nat->Rat}{s v c:Nat->Rat}(hs:∀i,i<l.length->s i≠0)(hB:∀i j,i<l.length->j<l.length->B i j=s i*nV M l i j)(hBn:∀i,i<l.length->B i l.length=s i* -(c (at0 l i)))(hv:∀i,i<l.length->aB l.length (λj=>B i j*v j)=B i l.length):
  ∀a,a<l.length->v a=aB l.length (λb=>vI M l a b*v b)+c (at0 l a):=by
 intro a ha
 have h:=hv a ha
 have e:aB l.length (λj=>B a j*v j)=s a*aB l.length (λj=>vI M l a j*v j-if j=a then v a else 0):=by rw[<-gB];grind[Go.Proofs.Ins.aK,Go.Proofs.Xe.nV]
 rw[e,hBn a ha,iF,jv ha]at h
 grind
def KA(n a:Nat)(W:Nat->Nat->Rat):Prop:=∀i j,i<n->j<=n->∃z:Int,W i j=(z:Rat)/\z.natAbs<=2^a
def KA.step{a k:Nat}{W:Nat->Nat->Rat}{p:Rat}(h:KA n a W)(hk:k<n)(hp:Fj p)(p0:p≠0)(hi:∀i j,i<n->j<=n->Fj (JG W k p i j)):KA n (2*a+1) (JG W k p):=λi j hin hj=>by
 obtain⟨z,ez⟩:=hi i j hin hj;refine⟨z,ez,?_⟩;have e2:(2:Nat)^(2*a+1)=2^a*2^a+2^a*2^a:=by rw[eh,Nat.two_mul a,eJ];omega
 have h1:1<=2^a:=ik;have h2:2^a<=2^a*2^a:=gp _ h1;unfold JG at ez;by_cases e:i=k
 .rw[ab e]at ez;obtain⟨y,ey,hy⟩:=h k j hk hj;rw[ey]at ez;have:=fE.mp ez;omega
 .rw[ae e]at ez;obtain⟨q,rfl⟩:=hp;obtain⟨y1,e1,hy1⟩:=h k k hk jb;obtain⟨y2,e3,hy2⟩:=h i j hin hj;obtain⟨y3,e4,hy3⟩:=h i k hin jb;obtain⟨y4,e5,hy4⟩:=h k j hk hj;rw[e1,e3,e4,e5]at ez;have e6:((y1*y2-y3*y4:Int):Rat)=((z*q:Int):Rat):=by grind
  have e7:=fE.mp e6;have hq:1<=q.natAbs:=by have:q≠0:=λe=>p0 (by simp_all);omega
  have k1:=cI hy1 hy2;have k2:=cI hy3 hy4;have k3:(z*q).natAbs<=(y1*y2).natAbs+(y3*y4).natAbs:=jb;rw[fY,fY,fY]at k3;have k4:z.natAbs<=z.natAbs*q.natAbs:=gp _ hq;omega
def awh{m a:Nat}{W:Nat->Nat->Rat}{p:Rat}(h:KA m a W)(hd:∀i,i<m->W i i=p)(p0:p≠0)(hm:0<m)(hl:l.length=m)(hnd:l.Nodup):EL n a (pU l λi=>W i m/W i i):=by
 obtain⟨q,eq,hq⟩:=h 0 0 hm jb;rw[hd 0 hm]at eq;have hq0:q≠0:=λe=>p0 (by simp_all);obtain⟨s,hs,es⟩:=Ve q;have hss:=aa1 hs;refine⟨q.natAbs,jb,hq,λi _=>?_⟩;by_cases hi:i∈l
 .obtain⟨k,hk,rfl⟩:=Et hi;rw[Eu hnd _ hk];obtain⟨z,ez,hz⟩:=h k m jb jp;refine⟨s*z,?_,?_⟩
  .grind
  grind
 .rw[uh hi];exact⟨0,by grind,bw _⟩
def Bar.diag{W B:Nat->Nat->Rat}{p:Rat}(h:Bar n n B W p):∀i,i<n->W i i=p:=by obtain⟨X,-,h2,h3,-⟩:=h.ex;grind
end
def iP(g:iw)(i:Nat):Rat:=(ix g.e i).m.q
def meas(g:iw)(x:Nat->Rat)(t:Rat):Nat:=mu g.e.length (bC g) x+if t=1 then 0 else 1
def sD(g:iw)(x:Nat->Rat)(t:Rat):Prop:=∃B b,60∣B/\0<B/\B<=2^b/\b+400000*meas g x t<=180000000/\(∀i,i<g.e.length->SmB B (x i))/\dX B t
theorem adf{W:Rat}{q:eX->Rat}:∀(t:List eX) (Q:Rat),AL W q Q t<=t.length
 |[],_=>jp
 |l::t,Q=>by have:=adf (W:=W) (q:=q) t (Q+q l);unfold AL;rw[bO];split<;>omega
def adg{g:GL}{q:eX->Rat}{k:Nat}:∀{l:List (Rat×List eX)},(∀d∈l,d.2.length<=k)->Qm g q l<=l.length*k
 |[],_=>bw _
 |d::l,h=>by have h1:=adg (g:=g) (q:=q) (l:=l) λe he=>h e (by simp[he]);have h2:=h d kc;grind[adf,Qm,Nat.succ_mul]
def YI{f:Nat->Nat}{k:Nat}:∀n,(∀i,i<n->f i<=k)->xY n f<=n*k
 |0,_=>bw _
 |n+1,h=>by have h1:=YI n λi hi=>h i jb;grind[xY]
section
variable {g:iw} {x d:Nat→Rat} {t v:Rat} {q:Nat}
def jS.awi(h:jS g)(x:Nat->Rat):mu g.e.length (bC g) x<=140:=by have h1:=YI (f:=λi=>opn ((bC g).e i) (x i)) (k:=16) g.e.length λi hi=>h.apa hi (x i);have h2:=adg (g:=bC g) (q:=gq (bC g) x) (k:=4) (l:=(bC g).ds) λd hd=>(h.aaG hd).2.1;have h3:=h.n;have h4:=h.d3;grind[xK,mu]
def JK(h:jS g):sD g (λ_=>0) 0:=by have:=h.awi λ_=>0;refine⟨60,6,iN _,jj,jj,?_,λi _=>⟨dX.zero _,aM,show(0:Rat)<=100000 by decide⟩,dX.zero _⟩;grind[meas]
def jS.awj(h:jS g){least:Bool}(hI:BF h.JH (iP g) least x t){i:Nat}(hi:i<g.e.length):0<=x i/\x i<=100000:=by refine⟨hI.nn i hi,?_⟩;have h1:=hI.fix i hi;have h2:=h.awd hI.nn i;have h3:=(h.m i hi).2.2;have h4:=bh hI.t1 h3.1;have e:(vH h.JH).G x i=gG g.e.length (bC g) x i:=rfl;grind[iP]
def sD.nr(h:jS g)(hP:sD g x t)(hd:∀i,i<g.e.length->0<=d i)(hdz:EL g.e.length q d)(hq:q<=120000):∃D,NrN D g x d:=by obtain⟨B,b,h6,h0,hb,hb2,hx,-⟩:=hP;exact⟨_,(h.nr h0 h6 hb jb hx hd hdz jb).1⟩
def sD.ajv(h:jS g)(hP:sD g x t)(hd:∀i,i<g.e.length->0<=d i)(hdz:EL g.e.length q d)(hq:q<=120000)(hv:v∈jR g.e.length (bC g) (mJ g x) x d){least:Bool}{t':Rat}(ht:t'=t\/t'=t+v)(hI:BF h.JH (iP g) least (aY x d v) t')(hm:meas g (aY x d v) t'<meas g x t):
  sD g (aY x d v) t'/\Sz v:=by
 obtain⟨B,b,h6,h0,hb,hb2,hx,htD⟩:=hP
 obtain⟨hZ,H,k1,k2,k3,k4⟩:=(h.nr h0 h6 hb jb hx hd hdz jb).2 v hv
 obtain⟨Q,q1,q2,q3⟩:=hdz
 have hBQ:=cw k2 q1
 refine⟨⟨H*Q,b+1000+2*q+q,bL h6 (bL k1 (aR _ _)),hBQ,oJ k3 q2,jb,λi hi=>?_,?_⟩,hZ.sz jb⟩
 .obtain⟨z,ez,-⟩:=q3 i hi
  have hf:=h.awj hI hi
  exact⟨((hx i hi).1.dvd (bL k1 (aR _ _)) hBQ).add (dX.mul k2 q1 k4 ⟨z,ez⟩),hf.1,hf.2⟩
 .have e1:=htD.dvd (bL k1 (aR _ Q)) hBQ
  rcases ht with rfl|rfl
  .exact e1
  .exact e1.add (k4.dvd (aR _ _) hBQ)
def sD.last(h:jS g)(hP:sD g x t)(hdz:EL g.e.length q d)(hq:q<=120000)(ht:t≠1){least:Bool}(hI:BF h.JH (iP g) least (aY x d (1-t)) 1)(hm:mu g.e.length (bC g) (aY x d (1-t))<=mu g.e.length (bC g) x):
  sD g (aY x d (1-t)) 1:=by
 obtain⟨B,b,h6,h0,hb,hb2,hx,htD⟩:=hP
 obtain⟨Q,q1,q2,q3⟩:=hdz
 have hBQ:=cw h0 q1
 have hone:dX B (1:Rat):=⟨B,by have:=iG h0;have e:(((B:Nat):Int):Rat)=((B:Nat):Rat):=rfl;grind⟩
 have hlt:meas g (aY x d (1-t)) 1<meas g x t:=by grind[meas]
 refine⟨B*Q,b+q,bL h6 (aR _ _),hBQ,oJ hb q2,jb,λi hi=>?_,hone.dvd (aR _ _) hBQ⟩
 obtain⟨z,ez,-⟩:=q3 i hi
 have hf:=h.awj hI hi
 exact⟨((hx i hi).1.dvd (aR _ _) hBQ).add (dX.mul h0 q1 (hone.sub htD) ⟨z,ez⟩),hf.1,hf.2⟩
def sD.sz(hP:sD g x t)(h0:0<=t)(h1:t<=1):(∀i,i<g.e.length->Sz (x i))/\Sz t/\Sz (1-t):=by
 obtain⟨B,b,h6,hB,hb,hb2,hx,htD⟩:=hP;have hone:dX B (1:Rat):=⟨B,by have:=iG hB;have e:(((B:Nat):Int):Rat)=((B:Nat):Rat):=rfl;rw[e];grind⟩
 exact⟨λi hi=>(Gf hB hb (hx i hi).1 (by have:=(hx i hi).2.1;grind) (hx i hi).2.2).sz jb,(Gf hB hb htD kd kd).sz jb,(Gf hB hb (hone.sub htD) kd kd).sz jb⟩
def sD.awk(h:jS g)(hP:sD g x t)(hd:∀i,i<g.e.length->0<=d i)(hdz:EL g.e.length q d)(hq:q<=120000)(h0:0<=t)(h1:t<=1)(hv:v∈jR g.e.length (bC g) (mJ g x) x d\/v=1-t):Sz v/\∀i,i<g.e.length->Sz (d i)/\Sz (v*d i):=by
 obtain⟨B,b,h6,hB,hb,hb2,hx,htD⟩:=hP;have hone:dX B (1:Rat):=⟨B,by have:=iG hB;have e:(((B:Nat):Int):Rat)=((B:Nat):Rat):=rfl;grind⟩
 have hZ:lJ (b+2000+2*q) v:=by
  rcases hv with hv|rfl
  .exact((h.nr hB h6 hb jb hx hd hdz jb).2 v hv).1
  .exact(Gf hB hb (hone.sub htD) kd kd).mono jb
 exact⟨hZ.sz jb,λi hi=>⟨(hdz.rat hi).sz jb,(hZ.mul (hdz.rat hi)).sz jb⟩⟩
def sD.mg(h:jS g)(hP:sD g x t):∃D,U5 D g x:=by obtain⟨B,b,h6,hB,hb,hb2,hx,-⟩:=hP;exact⟨_,h.mg hB h6 hb jb hx⟩
def sD.map(h:jS g)(hP:sD g x t):∃D,asl 60 D g x:=by obtain⟨B,b,h6,hB,hb,hb2,hx,-⟩:=hP;exact⟨_,h.map hB h6 hb jb hx⟩
def jS.mz(h:jS g)(hx:∀i,i<g.e.length->0<=x i):(∀j i,j<g.e.length->i<g.e.length->Sz (gM g.e.length (bC g) x j i))/\(∀i,i<g.e.length->Sz (gM g.e.length (bC g) x i i-1))/\∀i k,i<g.e.length->k<=g.e.length->Sz (aB k λj=>gM g.e.length (bC g) x j i):=by
 obtain⟨p1,p2⟩:=h.gE hx;have hone:dX (Xe.gE g x) (1:Rat):=⟨Xe.gE g x,by have:=iG p1;have e:(((Xe.gE g x:Nat):Int):Rat)=((Xe.gE g x:Nat):Rat):=rfl;grind⟩
 refine⟨λj i hj hi=>?_,λi hi=>?_,λi k hi hk=>?_⟩
 .have:=h.m01 hx hj hi;exact(Gf p1 p2 (h.mD hx hi) kd kd).sz jj
 .have:=h.m01 hx hi hi;exact(Gf p1 p2 ((h.mD hx hi).sub hone) kd kd).sz jj
 .have key:∀k,k<=g.e.length->0<=aB k (λj=>gM g.e.length (bC g) x j i)/\aB k (λj=>gM g.e.length (bC g) x j i)<=(k:Rat):=λk=>by
   induction k with
   |zero=>intro _;exact⟨aM,aM⟩
   |succ k ih=>
    intro hk
    have a:=ih jb
    have b:=h.m01 hx (j:=k) jb hi
    have e:((k+1:Nat):Rat)=(k:Rat)+1:=gL _ _
    grind[aB]
  have hk8:((k:Nat):Rat)<=((8:Nat):Rat):=bo.mpr (by have:=h.n;omega);have e8:((8:Nat):Rat)=8:=rfl;have:=key k hk;exact(Gf p1 p2 (aaX λj _=>h.mD hx hi) kd kd).sz jj
end
structure ayq(D:Nat)(g:iw)(x:Nat->Rat):Prop where
 d:Bv D
 nn:∀i,i<g.e.length->0<=x i
 xz:∀i,i<g.e.length->Zk D 1 (x i)
 gz:∀i,i<g.e.length->∀c,c<kE g.e i->Zk D 1 (grF g x i c)
 vz:∀i,i<g.e.length->∀c,c<kE g.e i->Zk D 1 (BH g x i c)
 nz:∀i,i<g.e.length->∀c,c<kE g.e i->Zk D 5001 (ql (bC g) x (i,c))
 sz:∀i,i<g.e.length->Zk D 2 (suF g x i)
 rz:∀i,i<g.e.length->Zk D 9 (rsF g x i)
section
variable {g:iw} {x:Nat→Rat}
def jS.all(h:jS g)(hx:∀i,i<g.e.length->0<=x i){i:Nat}(hi:i<g.e.length):aB (kE g.e i) (BH g x i)+(suF g x i+rsF g x i)=x i:=by obtain⟨h1,h2⟩:=yK ((Ir h.z).e i hi);exact anS (h.bld.e i hi) h1 h2 (hx i hi)
def sD.ayr(h:jS g)(hP:sD g x 1):∃D,ayq D g x:=by
 obtain⟨B,b,h6,hB,hb,hb2,hx,-⟩:=hP;have hx0:∀i,i<g.e.length->0<=x i:=λi hi=>(hx i hi).2.1;have hM:=h.mg hB h6 hb jb hx;have hD:=h.dok hB hb jb hx0;have hu:=tH;have hxZ:∀i,i<g.e.length->Zk (B*Xe.gE g x) 1 (x i):=λi hi=>nY hD (aR _ _) (hx i hi).1 (hx i hi).2.1 (hx i hi).v;have hq:=hM.A.s.q;have hsZ:∀i,i<g.e.length->Zk (B*Xe.gE g x) 2 (suF g x i):=λi hi=>by obtain⟨s1,s2,s3⟩:=Px (h.cap i hi) (kE g.e i);have hk6:=h.k6 i hi;have h4:((kE g.e i:Nat):Rat)<=((6:Nat):Rat):=bo.mpr jb;have e6:((6:Nat):Rat)=6:=rfl;have hv:=OE (k:=1000001) jj;have ev:((1000001:Nat):Rat)=1000001:=rfl;rw[ev]at hv;have hT:Zk (B*Xe.gE g x) 1 (nM (ix g.e i) (kE g.e i)):=nY hD (bL h6 (aR _ _)) s1 s2 (by unfold nM;grind);unfold suF;rw[OV];exact((hxZ i hi).sub hT).pq
 refine⟨_,hD,hx0,hxZ,λi hi c hc=>?_,λi hi c hc=>(hq i hi c hc).2,λi hi c hc=>?_,hsZ,λi hi=>?_⟩
 .obtain⟨h1,h2⟩:=yK ((Ir h.z).e i hi);refine nY hD (cH _ (bL (aR _ _) (Pv x hi))) (aiy jj hB h6 (h.ed i hi) (hx i hi).1 (hx i hi).2.1 c) (aaq h1 (hx i hi).2.1 c) ?_;exact cL (LV (h.bld.e i hi) h1 (hx i hi).2.1 hc) (ajU (h.cap i hi c))
 .unfold ql;exact((hq i hi c hc).2.sub (hM.A.r i hi c hc)).mono jb
 .have e:rsF g x i=x i-aB (kE g.e i) (BH g x i)-suF g x i:=by have:=h.all hx0 hi;grind
  rw[e];have hk6:=h.k6 i hi;exact(((hxZ i hi).sub (Zk.xY λc hc=>(hq i hi c hc).2)).sub (hsZ i hi)).mono jb
def jS.net(h:jS g)(hx:∀i,i<g.e.length->0<=x i){i c:Nat}(hi:i<g.e.length)(hc:c<kE g.e i):0<=ql (bC g) x (i,c)/\ql (bC g) x (i,c)<=BH g x i c/\BH g x i c<=(ix (ix g.e i).c c).a.q:=by obtain⟨h1,h2⟩:=yK ((Ir h.z).e i hi);obtain⟨a1,a2⟩:=asT h.JH hx (l:=(i,c)) hi;exact⟨a1,a2,anR (h.bld.e i hi) h1 h2 (hx i hi) hc⟩
def jS.sen(h:jS g)(hx:∀i,i<g.e.length->0<=x i){i c k:Nat}(hi:i<g.e.length)(hc:c<kE g.e i)(hk:k<kE g.e i)(hr:(ix (ix g.e i).c c).r<(ix (ix g.e i).c k).r)(hp:0<grF g x i k):grF g x i c=(ix (ix g.e i).c c).a.q:=by obtain⟨h1,h2⟩:=yK ((Ir h.z).e i hi);exact anV (h.bld.e i hi) h1 (hx i hi) hc hk hr hp
def jS.whole(h:jS g)(hx:∀i,i<g.e.length->0<=x i){d:Nat}(hd:d<g.d.length):aB (ix g.d d).l.length (λk=>ql (bC g) x (uM (ix (ix g.d d).l k)))<=(ix g.d d).w.q:=by have hm:((ix g.d d).w.q,(ix g.d d).l.map uM)∈(bC g).ds:=cT.mpr ⟨_,kN hd,rfl⟩;have:=afr h.JH hx hm;dsimp only at this;rw[anU,anT]at this;exact this
end
noncomputable def asV(g:iw)(i:Nat):Bool:=decide (0<(ix g.e i).m.q)
def akd{σ:St}(hW:WF σ){sb:Nat}{g:iw}(hs:EH (Lt σ.aj) σ.h sb g)(hn:g.e.length<=1000)(hm:∀i,i<g.e.length->(ix g.e i).m.fits 1000000):
  aC EN 66 [.c (.ptr sb 0)] σ λr σ'=>(∃b,r=.c (.sl b 0 g.e.length (.ex g.e.length))/\σ'.h b=some ⟨bls g.e.length (asV g),none⟩/\σ.aj<=b/\b<σ'.aj)/\Fr σ σ':=by
 refine aP (jW.o _ _) jW.h ?_
 unfold jW
 dsimp only
 obtain⟨⟨ev,gv,lv,bv,hsb,hg,⟨R,P,hL1,hL2⟩,hB⟩,hsl⟩:=hs
 have hlk:=hL1.kn
 have hll:=hL1.len
 have hlE:=hg.e.len
 have hek:=hg.e.kn
 have hsl:sb<σ.aj:=hsl
 have hFr:=Fr.refl hW
 simp(disch:=try exact jz) only[go_sem,z3,ak hsb,hll,hlk,hlE,hek]
 refine aF (λq tm σ'=>∃i,q=g.e.length-i/\i<=g.e.length/\Tr.ah tm 3=.c (.sl σ.aj 0 g.e.length (.ex g.e.length))/\Tr.ah tm 16=.c ev/\Tr.ah tm 17=.c (.int .i64 (.ofNat g.e.length))/\Tr.ah tm 18=.c (.int .i64 (.ofNat i))
   /\σ'.h σ.aj=some ⟨ones g.e.length (λk=>.bool (if k<i then asV g k else false)),none⟩/\Fr σ σ'/\σ.aj+1<=σ'.aj) g.e.length ?_ ?_
 .refine⟨0,jb,jb,?_⟩
  simp(disch:=try exact jz) only[go_sem,z3,am]
  exact⟨bV (λl=>some (Bk.mk l none)) (dU λk _=>by rfl),fr,jb⟩
 .rintro q tm σ' ⟨i,rfl,hi,t3,t16,t17,nJ,q3,hf,hnx⟩
  have hle:=hf.le
  have lI:=Fr.refl hf.wf
  simp(disch:=try exact jz) only[go_sem,z3,t3,t16,t17,nJ,aG]
  refine aH (λhlt=>?_) (λhlt=>?_)
  .obtain⟨b5,o5,c5,rfl,C1,A1,dw,-,hC,hA1⟩:=hg.e.at hlt
   have dw:=hf.ld hW dw
   have Qe:=aZ.kn hC
   have hAk:=hA1.kn
   have hw:=ru (hm i hlt)
   simp(disch:=try exact jz) only[go_sem,z3,t3,t16,t17,nJ,dw,Qe,hAk,q3,aJ q3]
   refine⟨g.e.length-(i+1),jb,i+1,rfl,jb,rfl,bV (λl=>some (Bk.mk l none)) (dU λk hk=>?_),fr,jb⟩
   unfold aO
   by_cases e:k=i
   .rw[ab e,ab jb,e];rfl
   grind
  .have:i=g.e.length:=jb
   subst this
   simp(disch:=try exact jz) only[go_sem,z3,t3]
   refine⟨⟨_,rfl,?_,jb,jb⟩,hf⟩
   rw[q3]
   exact bV (λl=>some (Bk.mk l none)) (dU λk hk=>by grind)
def afy(q:Rat):decide (rs q=⟨#[]⟩)=decide (q=0):=by
 by_cases h:q=0
 .rw[bj h];exact bj (jJ.mpr h)
 .rw[aw h];exact aw λe=>h (jJ.mp e)
def an1{σ:St}(hW:WF σ){p:Nat->Prop}{v:B}{n m:Nat}{A:Nat->Nat->Rat}(hA:dR p σ.h v n (λ_=>m) A)(hn:n<=1000){f c:Nat}(hf:f<=n)(hc:c<m):
  aC EN 204 [.c v,.c (.int .i64 (.ofNat f)),.c (.int .i64 (.ofNat c))] σ λr σ'=>r=.c (.int .i64 (if f+uJ A c f (n-f)<n then .ofNat (f+uJ A c f (n-f))else .negSucc 0))/\Fr σ σ':=by
 refine aP (xq.o _ _) xq.h ?_
 unfold xq
 dsimp only
 have hlen:=hA.len
 have hz:=λ(args:List V) (σ:St) (K:V->St->Prop)=>kJ (E:=EN) (K:=K) (gQ.o args σ) gQ.h
 unfold gQ at hz
 dsimp only at hz
 simp(disch:=try exact jz) only[go_sem,z3,hlen]
 refine aF (λq tm σ'=>∃i,q=n-i/\f<=i/\i<=n/\Tr.ah tm 0=.c v/\Tr.ah tm 2=.c (.int .i64 (.ofNat c))/\Tr.ah tm 7=.c (.int .i64 (.ofNat i))/\f+uJ A c f (n-f)=i+uJ A c i (n-i)/\Fr σ σ') (n-f) ?_ ?_
 .refine⟨f,rfl,jp,hf,?_⟩
  simp(disch:=try exact jz) only[go_sem,z3,am]
  exact Fr.refl hW
 .rintro q tm σ' ⟨i,rfl,hi1,hi,t0,t2,t7,hfs,hf'⟩
  have hFr:=Fr.refl hf'.wf
  simp(disch:=try exact jz) only[go_sem,z3,t0,t2,t7,hlen,aG]
  refine aH (λhlt=>?_) (λhlt=>?_)
  .obtain⟨b6,o6,c6,T,rfl,-,dh,hT⟩:=hA.at hlt
   obtain⟨b7,o7,c7,rfl,-,dO⟩:=aZ.at3 hT hc
   have dh:=hf'.ld hW dh
   have dO:=hf'.ld hW dO
   have hs:n-i=(n-(i+1))+1:=jb
   have hst:uJ A c i (n-i)=if A i c=0 then uJ A c (i+1) (n-(i+1))+1 else 0:=by grind[uJ]
   by_cases h0:A i c=0
   .simp(disch:=try exact jz) only[go_sem,z3,t0,t2,t7,dh,dO,hz,afy,h0,gS]
    rw[ab h0]at hst
    exact⟨n-(i+1),jb,i+1,rfl,jb,jb,rfl,jb,fr⟩
   .simp(disch:=try exact jz) only[go_sem,z3,t0,t2,t7,dh,dO,hz,afy,h0,decide_false]
    rw[ae h0]at hst
    rw[ab jb]
    exact⟨by grind,fr⟩
  .have:i=n:=jb
   subst this
   have:uJ A c i (i-i)=0:=by rw[Nat.sub_self];rfl
   simp(disch:=try exact jz) only[go_sem,z3,t0]
   grind
def minS(a b:Nat->Rat)(f:Rat)(j k:Nat):Rat:=if k<j then a k-f*b k else a k
def an2{σ:St}(hW:WF σ){p:Nat->Prop}{ba m:Nat}{ca:Cap}{o:Option (Nat×Nat)}{a b:Nat->Rat}{bv:B}{f:Rat}(h1:σ.h ba=some ⟨cZ m a,o⟩)(hpl:plo o=true)(hrd:YU o=true)(hb:kF p σ.h bv m b)(hp:∀x,p x->x≠ba)(hm:m<=1000)
  (z0:Sz f) (za:∀k,k<m->Sz (a k)) (zb:∀k,k<m->Sz (b k)) (zm:∀k,k<m->Sz (f*b k)) (zs:∀k,k<m->Sz (a k-f*b k)):
  aC EN 206 [.c (.sl ba 0 m ca),.c bv,.agg [.bool (rn f),.str (rs f),.str (rd f)]] σ λ_ σ'=>σ'.h ba=some ⟨cZ m λk=>a k-f*b k,o⟩/\aU [ba] σ σ':=by
 refine aP (xu.o _ _) xu.h ?_
 unfold xu
 dsimp only
 have hba:=hW.lt h1
 have hFr:=aU.refl (ex:=[ba]) hW
 have hz:=λ(args:List V) (σ:St) (K:V->St->Prop)=>kJ (E:=EN) (K:=K) (gQ.o args σ) gQ.h
 unfold gQ at hz
 dsimp only at hz
 simp(disch:=try exact jz) only[go_sem,z3,am]
 refine aF (λq tm σ'=>∃j,q=m-j/\j<=m/\Tr.ah tm 0=.c (.sl ba 0 m ca)/\Tr.ah tm 1=.c bv/\Tr.ah tm 5=.c (.ptr σ.aj 0)/\Tr.ah tm 8=.c (.int .i64 (.ofNat m))/\Tr.ah tm 9=.c (.int .i64 (.ofNat j))
  /\σ'.h σ.aj=some ⟨[.bool (rn f),.str (rs f),.str (rd f)],none⟩/\σ'.h ba=some ⟨cZ m (minS a b f j),o⟩/\aU [ba] σ σ'/\σ.aj+1<=σ'.aj) m ?_ ?_
 .refine⟨0,jb,jb,?_⟩
  simp(disch:=try exact jz) only[go_sem,z3,am,h1]
  exact⟨bV (λl=>some (Bk.mk l o)) (dQ λk _=>(ae jb).symm),by repeat(first|assumption|exact aU.refl (by assumption)|exact aU.up (by assumption) kf|exact aU.up (aU.refl (by assumption)) kf|refine aU.set1 ?_ kg kf|refine aU.kM ?_ kg|refine aU.nC ?_ kg|refine aU.ou ?_ kf),jb⟩
 .rintro q tm σ' ⟨j,rfl,hj,t0,t1,t5,t8,t9,q5,q1,hf,hnx⟩
  have hle:=hf.le
  have lI:=aU.refl (ex:=[ba]) hf.wf
  simp(disch:=try exact jz) only[go_sem,z3,t0,t1,t5,t8,t9,aG]
  refine aH (λhlt=>?_) (λhlt=>?_)
  .obtain⟨b7,o7,c7,rfl,hp7,dO⟩:=aZ.at3 hb hlt
   have hne:=hp _ hp7
   have dO:=hf.ld hW kd dO
   have y1:=za j hlt
   have y2:=zb j hlt
   have y3:=zm j hlt
   have y4:=zs j hlt
   have e1:minS a b f j j=a j:=ae jb
   have hb7:=hf.wf.bH dO
   have hb1:=hf.wf.lt q1
   by_cases h0:b j=0
   .simp(disch:=try exact jz) only[go_sem,z3,t0,t1,t5,t8,t9,dO,hz,afy,h0,gS]
    refine⟨m-(j+1),jb,j+1,rfl,jb,rfl,q5,?_,by repeat(first|assumption|exact aU.refl (by assumption)|exact aU.up (by assumption) kf|exact aU.up (aU.refl (by assumption)) kf|refine aU.set1 ?_ kg kf|refine aU.kM ?_ kg|refine aU.nC ?_ kg|refine aU.ou ?_ kf),jb⟩
    grind[Go.Proofs.Xe.dQ,Go.Proofs.Xe.minS]
   .simp(disch:=try exact jz) only[go_sem,z3,t0,t1,t5,t8,t9,dO,hz,afy,h0,decide_false,ak q5,ak q1,q1,hrd,hpl,aJ q1,e1]
    refine⟨m-(j+1),jb,j+1,rfl,jb,rfl,q5,bV (λl=>some (Bk.mk l o)) (dQ λk _=>?_),by repeat(first|assumption|exact aU.refl (by assumption)|exact aU.up (by assumption) kf|exact aU.up (aU.refl (by assumption)) kf|refine aU.set1 ?_ kg kf|refine aU.kM ?_ kg|refine aU.nC ?_ kg|refine aU.ou ?_ kf),jb⟩
    grind[aO,minS]
  .have:j=m:=jb
   subst this
   simp(disch:=try exact jz) only[go_sem,z3,am]
   refine⟨?_,hf⟩
   rw[q1]
   exact bV (λl=>some (Bk.mk l o)) (dQ λk hk=>ab hk)
def SA{n:Nat}(h:0<n):decide (n=0)=false:=aw jb
def PE{n:Nat}(h:n<=16):decide (16<n)=false:=aw jb
def YJ{σ:St}(hW:WF σ){p:Nat->Prop}{v:B}{n m:Nat}{A:Nat->Nat->Rat}(hA:dR p σ.h v n (λ_=>m) A)(hn:0<n)(hn2:n<=16)(hm:0<m)(hm2:m<=16):
  aC EN 175 [.c v] σ λr σ'=>r=.c (.int .i64 (.ofNat 0))/\Fr σ σ':=by
 refine aP (xg.o _ _) xg.h ?_
 unfold xg
 dsimp only
 have hFr:=Fr.refl hW
 have hlen:=hA.len
 obtain⟨b6,o6,c6,T,rfl,-,dh,hT⟩:=hA.at hn
 have vC:ld σ.h b6 (o6+0*1) 1 false=some (.c T):=dh
 have hlT:=aZ.len hT
 simp(disch:=try exact jz) only[go_sem,z3,hlen,dh,vC,hlT,SA hn,SA hm]
 refine aF (λq tm σ'=>∃i,q=n-i/\i<=n/\Tr.ah tm 0=.c (.sl b6 o6 n c6)/\Tr.ah tm 15=.c (.sl b6 o6 n c6)/\Tr.ah tm 16=.c (.int .i64 (.ofNat n))/\Tr.ah tm 17=.c (.int .i64 (.ofNat i))/\Fr σ σ') n ?_ ?_
 .refine⟨0,jb,jb,?_⟩
  simp(disch:=try exact jz) only[go_sem,z3,am]
  exact hFr
 .rintro q tm σ' ⟨i,rfl,hi,t0,t15,t16,t17,hf⟩
  have vC:=hf.ld hW vC
  simp(disch:=try exact jz) only[go_sem,z3,t0,t15,t16,t17,aG]
  refine aH (λhlt=>?_) (λhlt=>?_)
  .obtain⟨b7,o7,c7,T2,e7,-,dO,hT2⟩:=hA.at hlt
   cases e7
   have dO:=hf.ld hW dO
   have ayt:=aZ.len hT2
   simp(disch:=try exact jz) only[go_sem,z3,t0,t15,t16,t17,vC,dO,hlT,ayt,RU]
   exact⟨n-(i+1),jb,i+1,rfl,jb,rfl,hf⟩
  .have:i=n:=jb
   subst this
   simp(disch:=try exact jz) only[go_sem,z3,t0,hlen,vC,hlT,PE hn2,PE hm2,aG]
   exact hf
def PN(n:Nat)(s:Nat->Bool)(u:Nat->Nat):List B:=bP n λi=>[.bool (s i),.str (bn (u i))]
def z2:[B.bool false,s0]=[.bool false,.str (bn 0)]:=rfl
def an3(n:Nat):rep [.bool false,.str (bn 0)] n=PN n (λ_=>false) λ_=>0:=KJ _ n
def asW(n:Nat)(s:Nat->Bool)(u:Nat->Nat)(i:Nat)(h:i<n):zH (PN n s u) (i*2) 2 true=some (.agg [.bool (s i),.str (bn (u i))]):=by unfold PN;have:=yS (e:=2) (k:=0) (m:=2) (G:=λi=>[B.bool (s i),.str (bn (u i))]) true (λ_=>rfl) h jj jj;rw[cE]at this;rw[this];rfl
def an4(n:Nat)(s:Nat->Bool)(u:Nat->Nat)(i:Nat)(h:i<n):zH (PN n s u) (i*2) 1 false=some (.c (.bool (s i))):=by unfold PN;have:=yS (e:=2) (k:=0) (m:=1) (G:=λi=>[B.bool (s i),.str (bn (u i))]) false (λ_=>rfl) h jj jj;rw[cE]at this;rw[this];rfl
def an5(n:Nat)(s:Nat->Bool)(u:Nat->Nat)(i:Nat)(h:i<n):zH (PN n s u) (i*2+1) 1 false=some (.c (.str (bn (u i)))):=by unfold PN;have:=yS (e:=2) (k:=1) (m:=1) (G:=λi=>[B.bool (s i),.str (bn (u i))]) false (λ_=>rfl) h jj jj;rw[this];rfl
def asX(n:Nat)(s:Nat->Bool)(u:Nat->Nat)(i:Nat)(t:Bool)(v:Nat)(h:i<n):yj (PN n s u) (i*2) [.bool t,.str (bn v)]=some (PN n (aO s i t) (aO u i v)):=by unfold PN;have:=Aq (e:=2) (k:=0) (vs:=[.bool t,.str (bn v)]) (G:=λi=>[B.bool (s i),.str (bn (u i))]) (λ_=>rfl) h (cU 2);rw[cE]at this;rw[this];show some _=some _;congr 1;refine cO λj _=>?_;grind[ji,aO]
theorem Ag{n:Nat}{s t:Nat->Bool}{u v:Nat->Nat}(h:∀i,i<n->s i=t i/\u i=v i):PN n s u=PN n t v:=cO λi hi=>by grind
def awl:(false==(true==true))=false:=rfl
def awm:(false==(false==false))=false:=rfl
def awn:(false==(true==false))=true:=rfl
def awo:(false==(false==true))=true:=rfl
attribute [go_sem] z2 an3 asW an4 an5 asX awl awm awn awo
def asY{q:Rat}(h:q.den=1):rd q=⟨#[]⟩:=ab h
def asZ{q:Rat}(h:q.den≠1):rd q=bn q.den:=ae h
def ake{n:Nat}(h:0<n):decide (bn n=⟨#[]⟩)=false:=aw λe=>by grind[BJ]
def mX{b u:Nat}(h:u<=2^b)(hb:b<=400000000):D7 u:=by have:=mZ (da h acW);unfold D7;omega
def adh{σ:St}(hW:WF σ)(q:Rat):aC EN 178 [.agg [.bool (rn q),.str (rs q),.str (rd q)]] σ λr σ'=>r=.c (.str (bn q.den))/\Fr σ σ':=by
 refine aP (nH.o _ _) nH.h ?_;unfold nH;dsimp only;have hFr:=Fr.refl hW;by_cases h:q.den=1
 .have e:=asY h;simp(disch:=try exact jz) only[go_sem,z3,e,gS];exact⟨by rw[h],fr⟩
 .have e:=asZ h;have hp:=q.den_pos;simp(disch:=try exact jz) only[go_sem,z3,e,ake hp];exact fr
def YK{σ:St}(hW:WF σ)(s t:Bool){u v:Nat}(hu:D7 u)(hv:D7 v):aC EN 179 [.agg [.bool s,.str (bn u)],.agg [.bool t,.str (bn v)]] σ λr σ'=>r=.agg [.bool (false==(s==t)),.str (bn (u*v))]/\Fr σ σ':=by refine aP (lX.o _ _) lX.h ?_;unfold lX;dsimp only;have hFr:=Fr.refl hW;simp(disch:=try exact jz) only[go_sem,z3];exact fr
def akf{σ:St}(hW:WF σ)(s t:Bool){u v:Nat}(hu:D7 u)(hv:D7 v):aC EN 180 [.agg [.bool s,.str (bn u)],.agg [.bool t,.str (bn v)]] σ λr σ'=>(∃w x,r=.agg [.bool w,.str (bn x)]/\iv w x=iv s u-iv t v)/\Fr σ σ':=by
 refine aP (lY.o _ _) lY.h ?_;unfold lY;dsimp only;have hFr:=Fr.refl hW;by_cases hst:s=t
 .subst hst;have e0:(false==(s==s))=false:=by simp
  by_cases h:v<=u
  .have:=ade s h;simp(disch:=try exact jz) only[go_sem,z3,e0,h,if_true,if_false];exact⟨⟨_,_,rfl,ade s h⟩,fr⟩
  .have h2:u<=v:=jb;simp(disch:=try exact jz) only[go_sem,z3,e0,h,h2,if_true,if_false];exact⟨⟨_,_,rfl,anZ s h⟩,fr⟩
 .have e0:(false==(s==t))=true:=by grind
  simp(disch:=try exact jz) only[go_sem,z3,e0];exact⟨⟨_,_,rfl,anY hst u v⟩,fr⟩
def an6{σ:St}(hW:WF σ)(s t:Bool){u v:Nat}(hu:D7 u)(hv:D7 v)(h0:0<v):aC EN 181 [.agg [.bool s,.str (bn u)],.agg [.bool t,.str (bn v)]] σ λr σ'=>r=.agg [.bool (false==(s==t)),.str (bn (u/v))]/\Fr σ σ':=by refine aP (mV.o _ _) mV.h ?_;unfold mV;dsimp only;have hFr:=Fr.refl hW;simp(disch:=try exact jz) only[go_sem,z3];exact fr
def SB{q:Rat}{z:Int}{Q:Nat}(hQ:0<Q)(h:q=(z:Rat)/(Q:Rat)):q.den∣Q/\q.num.natAbs<=z.natAbs:=by
 have e:q=Ins.fr (!(decide (z<0)==decide ((Q:Int)<0))) z.natAbs (Q:Int).natAbs:=by rw[Ny z Q jb];exact h
 rw[il]at e;obtain⟨h1,h2⟩:=Za (n:=!(decide (z<0)==decide ((Q:Int)<0))) (x:=z.natAbs) hQ;rw[<-e]at h1 h2;exact⟨by grind[Nat.div_dvd_of_dvd,Nat.gcd_dvd_right],by simp_all[oU,gi]⟩
def as1(q:Rat){c:Nat}(h:q.den∣c):((iv (rn q) (q.num.natAbs*(c/q.den)):Int):Rat)=(c:Rat)*q:=by
 obtain⟨k,rfl⟩:=h;have hd:=q.den_pos;rw[Nat.mul_div_cancel_left _ hd];have e1:iv (rn q) (q.num.natAbs*k)=q.num*k:=by grind[iv,rn]
 have e2:(q.num:Rat)=q*(q.den:Rat):=by grind[iG,Rat.mkRat_self,Rat.mkRat_eq_div]
 have e3:((k:Int):Rat)=(k:Rat):=rfl;rw[e1,di,e2,fw,e3];grind
theorem aa9(c d:Nat):c*(d/Nat.gcd c d)=Nat.lcm c d:=by simp_all[Nat.lcm,Nat.mul_div_assoc,Nat.gcd_dvd_right]
def an7(s:Nat->Bool)(j k:Nat):Bool:=if k<j then s k else false
def an8(u:Nat->Nat)(j k:Nat):Nat:=if k<j then u k else 0
def akg{m j:Nat}{s:Nat->Bool}{u:Nat->Nat}:PN m (aO (an7 s j) j (s j)) (aO (an8 u j) j (u j))=PN m (an7 s (j+1)) (an8 u (j+1)):=Ag λk _=>by grind[aO,an7,an8]
def abb{σ:St}(hW:WF σ){p:Nat->Prop}{v:B}{m:Nat}{r:Nat->Rat}(hr:kF p σ.h v m r)(hm:m<=17){Q b:Nat}(hQ:0<Q)(hQb:Q<=2^b)(hb:b<=50000000)(hz:∀k,k<m->∃z:Int,r k=(z:Rat)/(Q:Rat)/\z.natAbs<=2^b):
  aC EN 147 [.c v] σ λx σ'=>(∃nb c,x=.c (.sl nb 0 m (.ex m))/\σ'.h nb=some ⟨PN m (λk=>rn (r k)) (λk=>(r k).num.natAbs*(c/(r k).den)),none⟩/\σ.aj<=nb/\nb<σ'.aj/\0<c/\c∣Q/\∀k,k<m->(r k).den∣c)/\Fr σ σ':=by
 refine aP (qW.o _ _) qW.h ?_
 unfold qW
 dsimp only
 have hFr:=Fr.refl hW
 have hlen:=aZ.len hr
 simp(disch:=try exact jz) only[go_sem,z3,hlen]
 refine bJ.mono (Q:=λex tm σ1=>ex=.exit 0/\∃c,Tr.ah tm 0=.c v/\Tr.ah tm 3=.c (.str (bn c))/\0<c/\c∣Q/\(∀k,k<m->(r k).den∣c)/\Fr σ σ1)
  (aF (λq tm σ1=>∃j c,q=m-j/\j<=m/\Tr.ah tm 0=.c v/\Tr.ah tm 3=.c (.str (bn c))/\Tr.ah tm 17=.c v/\Tr.ah tm 18=.c (.int .i64 (.ofNat m))/\Tr.ah tm 19=.c (.int .i64 (.ofNat j))/\0<c/\c∣Q/\(∀k,k<j->(r k).den∣c)/\Fr σ σ1) m ?_ ?_) ?_
 .refine⟨0,1,jb,jb,?_⟩
  simp(disch:=try exact jz) only[go_sem,z3,am]
  exact⟨jj,Nat.one_dvd _,λk h=>absurd h jb,fr⟩
 .rintro q tm σ1 ⟨j,c,rfl,hj,t0,t3,t17,nJ,t19,hc,hcQ,hcd,hf⟩
  have lI:=Fr.refl hf.wf
  simp(disch:=try exact jz) only[go_sem,z3,t0,t3,t17,nJ,t19,aG]
  refine aH (λhlt=>?_) (λhlt=>?_)
  .obtain⟨b7,o7,c7,e7,-,dO⟩:=aZ.at3 hr hlt
   have dO:=hf.ld hW dO
   have a7:V.c (.sl b7 o7 m c7)=V.c v:=by rw[e7]
   rw[e7]at t17
   obtain⟨z,ez,hz1⟩:=hz j hlt
   obtain⟨hd,hnum⟩:=SB hQ ez
   have hdp:=(r j).den_pos
   have zc:D7 c:=mX (av (ii hQ hcQ) hQb) jb
   have zd:D7 (r j).den:=mX (av (ii hQ hd) hQb) jb
   simp(disch:=try exact jz) only[go_sem,z3,t0,t3,t17,nJ,t19,dO]
   refine aC.st (Fr σ1) (fr) λhF=>?_
   refine(adh hF.wf (r j)).mono ?_
   rintro _ σ2 ⟨rfl,hf2⟩
   have hF2:=(hf.trans hF).trans hf2
   have hgp:0<Nat.gcd c (r j).den:=Nat.gcd_pos_of_pos_left _ hc
   have zg:D7 (Nat.gcd c (r j).den):=mX (av (av (Nat.gcd_le_left _ hc) (ii hQ hcQ)) hQb) jb
   have zq:D7 ((r j).den/Nat.gcd c (r j).den):=mX (av (av (gi _ _) (ii hQ hd)) hQb) jb
   simp(disch:=try exact jz) only[go_sem,z3,t0,t3,t17,nJ,t19]
   refine⟨m-(j+1),jb,j+1,_,rfl,jb,rfl,a7,rfl,?_,?_,λk hk=>?_,hF2⟩
   .grind[aa9,Nat.lcm_pos]
   .grind[aa9,Nat.lcm_dvd]
   grind[aa9,Nat.dvd_lcm_right]
  .have:j=m:=jb
   subst this
   simp(disch:=try exact jz) only[go_sem,z3,am]
   grind
 .rintro _ tm σ1 ⟨rfl,c,t0,t3,hc,hcQ,hcd,hf1⟩
  have ae2:=Fr.refl hf1.wf
  have hle1:=hf1.le
  have zc:D7 c:=mX (av (ii hQ hcQ) hQb) jb
  simp(disch:=try exact jz) only[go_sem,z3,t0,t3,hlen]
  refine aF (λq tm σ2=>∃j,q=m-j/\j<=m/\Tr.ah tm 3=.c (.str (bn c))/\Tr.ah tm 10=.c (.sl σ1.aj 0 m (.ex m))/\Tr.ah tm 41=.c v/\Tr.ah tm 42=.c (.int .i64 (.ofNat m))/\Tr.ah tm 43=.c (.int .i64 (.ofNat j))
   /\σ2.h σ1.aj=some ⟨PN m (an7 (λk=>rn (r k)) j) (an8 (λk=>(r k).num.natAbs*(c/(r k).den)) j),none⟩/\Fr σ1 σ2/\σ1.aj+1<=σ2.aj) m ?_ ?_
  .refine⟨0,jb,jb,?_⟩
   simp(disch:=try exact jz) only[go_sem,z3,am,t3]
   exact⟨bV (λl=>some (Bk.mk l none)) (Ag λk _=>⟨(ae jb).symm,(ae jb).symm⟩),fr,jb⟩
  .rintro q tm σ2 ⟨j,rfl,hj,t3,t10,t41,t42,t43,q10,hf2,hnx⟩
   have aaR:=Fr.refl hf2.wf
   have hle2:=hf2.le
   simp(disch:=try exact jz) only[go_sem,z3,t3,t10,t41,t42,t43,aG]
   refine aH (λhlt=>?_) (λhlt=>?_)
   .obtain⟨b7,o7,c7,e7,-,dO⟩:=aZ.at3 hr hlt
    have dO:=(hf1.trans hf2).ld hW dO
    have a7:V.c (.sl b7 o7 m c7)=V.c v:=by rw[e7]
    rw[e7]at t41
    obtain⟨z,ez,hz1⟩:=hz j hlt
    obtain⟨hd,hnum⟩:=SB hQ ez
    have hdp:=(r j).den_pos
    have zd:D7 (r j).den:=mX (av (ii hQ hd) hQb) jb
    have zn:D7 (r j).num.natAbs:=mX (av hnum hz1) jb
    have zq:D7 (c/(r j).den):=mX (av (av (gi _ _) (ii hQ hcQ)) hQb) jb
    simp(disch:=try exact jz) only[go_sem,z3,t3,t10,t41,t42,t43,dO]
    refine aC.st (Fr σ2) (fr) λhF=>?_
    refine(adh hF.wf (r j)).mono ?_
    rintro _ σ3 ⟨rfl,hf3⟩
    have awp:=hf3.get hF.wf (hF.get hf2.wf q10)
    have q12:σ3.h σ2.aj=some ⟨[.bool (rn (r j)),.str (rs (r j)),.str (rd (r j))],none⟩:=hf3.get hF.wf (aA _ _ _)
    have hle3:σ2.aj+1<=σ3.aj:=hf3.le
    have hrs:rs (r j)=bn (r j).num.natAbs:=rfl
    have hF3:=(hf2.trans hF).trans hf3
    have hst:=akg (m:=m) (j:=j) (s:=λk=>rn (r k)) (u:=λk=>(r k).num.natAbs*(c/(r k).den))
    simp(disch:=try exact jz) only[go_sem,z3,t3,t10,t41,t42,t43,ak q12,q12,hrs,awp,aJ awp,hst]
    exact⟨m-(j+1),jb,j+1,rfl,jb,a7,rfl,rfl,fr,jb⟩
   .have:j=m:=jb
    subst this
    simp(disch:=try exact jz) only[go_sem,z3,t10]
    refine⟨⟨_,c,rfl,?_,jb,jb,hc,hcQ,hcd⟩,hf1.trans hf2⟩
    rw[q10]
    exact bV (λl=>some (Bk.mk l none)) (Ag λk hk=>⟨ab hk,ab hk⟩)
end Go.Proofs.Xe
