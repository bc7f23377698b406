import Derived.Test.YthkggcakedkboaaGreatDoorY32
set_option linter.all false
set_option maxRecDepth 100000
set_option maxHeartbeats 8000000
namespace Go.Proofs.Xe
open Go.RowKit Go.Proofs.Ins
def Qp(W:Rat)(q r:Nat->Rat)(k:Nat):Rat:=nR W (aB (k+1) q) (aB (k+1) r)-nR W (aB k q) (aB k r)
def abe(W:Rat):nR W 0 0=0:=by grind[nR]
theorem L6(W:Rat)(q r:Nat->Rat):∀m,aB m (Qp W q r)=nR W (aB m q) (aB m r)
 |0=>(abe W).symm
 |m+1=>by rw[aB,L6 W q r m];unfold Qp;grind
def SA{W:Rat}{q r:fD->Rat}{a:fD}(j:Nat):∀{t:List fD}{Q R:Rat},jl W q r Q R (nR W Q R) (t++[a]) j=jl W q r Q R (nR W Q R) t j+if a.1=j then nR W (Q+aI t q+q a) (R+aI t r+r a)-nR W (Q+aI t q) (R+aI t r)else 0
 |[],Q,R=>by show(if a.1=j then nR W (Q+q a) (R+r a)-nR W Q R else 0)+0=0+if a.1=j then nR W (Q+0+q a) (R+0+r a)-nR W (Q+0) (R+0)else 0;grind
 |b::t,Q,R=>by rw[gx];unfold jl;rw[SA];show _=_+if a.1=j then nR W (Q+(q b+aI t q)+q a) (R+(r b+aI t r)+r a)-nR W (Q+(q b+aI t q)) (R+(r b+aI t r))else 0;rw[show Q+(q b+aI t q)=Q+q b+aI t q by grind,show R+(r b+aI t r)=R+r b+aI t r by grind];grind
section
variable (g:fP) (x:Nat→Rat)
def KJ(i c:Nat):Rat:=xQ (cO (ix g.e i)) (x i) c
def Pj(j i c:Nat):Rat:=if wI (aY g) j i c then KJ g x i c else 0
def Qq(i c j b:Nat):Rat:=if b<i then aB (kE g.e b) (Pj g x j b)else if b=i then aB c (Pj g x j i)else 0
def mgP(t j b:Nat):Rat:=aB (kE g.e b) (Pj g x j b)+aI ((aY g).ds.take t) (dM (aY g) x j b)
def JK(t i:Nat)(u:Nat->Rat)(j b:Nat):Rat:=mgP g x t j b+if b<i then dM (aY g) x j b (dW g t,dL g t)else if b=i then u j else 0
def SB(t i k j:Nat):Rat:=jl (dW g t) (gq (aY g) x) (gs (aY g) x i) 0 0 0 ((dL g t).take k) j
def SC(t k:Nat):Rat:=gq (aY g) x (uX (ix (ix g.d t).l k))
def IQ(t i k:Nat):Rat:=gs (aY g) x i (uX (ix (ix g.d t).l k))
end
section
variable {g:fP} {x:Nat→Rat}
def ajB:Qq g x 0 0=λ_ _=>0:=by funext j b;unfold Qq;rw[ae jb];split<;>rfl
def ajC(i:Nat):Qq g x i (kE g.e i)=Qq g x (i+1) 0:=by
 funext j b;unfold Qq;by_cases h:b<i
 .grind
 .rw[ae h];by_cases h2:b=i
  .grind
  .rw[ae h2,ae jb];split<;>rfl
def anT{i c hh:Nat}(hl:(aY g).fA.contains (i,c)=false)(hk:apH g i c=(hh:Int)):rF (rC (Qq g x i c)) hh i (eH (Qq g x i c hh i+KJ g x i c))=rC (Qq g x i (c+1)):=by
 funext j b;have ho:Pj g x j i c=if j=hh then KJ g x i c else 0:=by unfold Pj wI;grind[aY,apH]
 grind[rF,rC,Qq,aB]
def Yx{i c:Nat}(h:(aY g).fA.contains (i,c)=true\/apH g i c=-1):Qq g x i c=Qq g x i (c+1):=by
 funext j b;have ho:Pj g x j i c=0:=by unfold Pj wI;grind[aY,apH]
 grind[Qq,aB]
def anU{n j b:Nat}(hb:b<n):Qq g x n 0 j b=mgP g x 0 j b:=by unfold Qq mgP;rw[ab hb,cC];exact(de _).symm
def ajD(t:Nat):mgP g x t=JK g x t 0 λ_=>0:=by grind[JK]
def Pm(t i:Nat):(JK g x t i λj=>dM (aY g) x j i (dW g t,dL g t))=JK g x t (i+1) λ_=>0:=by grind[JK]
theorem ajE{t j b:Nat}(h:t<g.d.length):mgP g x (t+1) j b=mgP g x t j b+dM (aY g) x j b (dW g t,dL g t):=by grind[mgP,bC,xX,mM,O7]
def anV{t n j b:Nat}(h:t<g.d.length)(hb:b<n):JK g x t n (λ_=>0) j b=mgP g x (t+1) j b:=by grind[ajE,JK]
def anW{j b:Nat}:mgP g x g.d.length j b=gM g.e.length (aY g) x j b:=by unfold mgP gM;rw[<-xX,bP];congr 1;refine aK λc _=>?_;unfold Pj;have e:gs (aY g) x b (b,c)=KJ g x b c:=ab rfl;rw[e]
def ajF(t i:Nat):(λ_:Nat=>(0:Rat))=SB g x t i 0:=by rfl
theorem JL(g:fP)(t:Nat):(dL g t).length=(ix g.d t).l.length:=cU _
theorem ajG{t k:Nat}(hk:k<(ix g.d t).l.length):ix (dL g t) k=uX (ix (ix g.d t).l k):=X6 uX hk
def Vm(f:fD->Rat){t m:Nat}(hm:m<=(ix g.d t).l.length):aB m (λk=>f (uX (ix (ix g.d t).l k)))=aI ((dL g t).take m) f:=by grind[O8,JL,aK,ajG]
def ajH{t i k j:Nat}(hk:k<(ix g.d t).l.length):SB g x t i (k+1) j=SB g x t i k j+if(uX (ix (ix g.d t).l k)).1=j then Qp (dW g t) (SC g x t) (IQ g x t i) k else 0:=by unfold SB;rw[bC (by grind[JL]),ajG hk];have h:=SA (W:=dW g t) (q:=gq (aY g) x) (r:=gs (aY g) x i) (a:=uX (ix (ix g.d t).l k)) j (t:=(dL g t).take k) (Q:=0) (R:=0);rw[abe,fY,fY]at h;rw[h];unfold Qp;have e1:∀m,m<=(ix g.d t).l.length->aB m (SC g x t)=aI ((dL g t).take m) (gq (aY g) x):=λm hm=>Vm (gq (aY g) x) hm;have e2:∀m,m<=(ix g.d t).l.length->aB m (IQ g x t i)=aI ((dL g t).take m) (gs (aY g) x i):=λm hm=>Vm (gs (aY g) x i) hm;rw[aB,aB,e1 k jb,e2 k jb];rfl
def anX{t i k e c:Nat}(hk:k<(ix g.d t).l.length)(EO:ix (ix g.d t).l k=⟨.ofNat e,.ofNat c⟩):rF (rC (JK g x t i (SB g x t i k))) e i (eH (JK g x t i (SB g x t i k) e i+Qp (dW g t) (SC g x t) (IQ g x t i) k))=rC (JK g x t i (SB g x t i (k+1))):=by funext j b;have h:=ajH (x:=x) (i:=i) (j:=j) hk;rw[EO]at h;have h:SB g x t i (k+1) j=SB g x t i k j+if e=j then Qp (dW g t) (SC g x t) (IQ g x t i) k else 0:=h;grind[rF,rC,JK]
theorem ada{t i:Nat}(j:Nat):dM (aY g) x j i (dW g t,dL g t)=(if KF (aY g) (dW g t,dL g t)=(j:Int)then aB (ix g.d t).l.length (IQ g x t i)-aB (ix g.d t).l.length (Qp (dW g t) (SC g x t) (IQ g x t i))else 0)+SB g x t i (ix g.d t).l.length j:=by unfold dM SB;have e1:aB (ix g.d t).l.length (SC g x t)=aI ((dL g t).take (ix g.d t).l.length) (gq (aY g) x):=Vm (gq (aY g) x) jp;have e2:aB (ix g.d t).l.length (IQ g x t i)=aI ((dL g t).take (ix g.d t).l.length) (gs (aY g) x i):=Vm (gs (aY g) x i) jp;grind[L6,JL]
def anY{t i hh:Nat}(hd:KF (aY g) (dW g t,dL g t)=(hh:Int)):rF (rC (JK g x t i (SB g x t i (ix g.d t).l.length))) hh i (eH (JK g x t i (SB g x t i (ix g.d t).l.length) hh i+(aB (ix g.d t).l.length (IQ g x t i)-aB (ix g.d t).l.length (Qp (dW g t) (SC g x t) (IQ g x t i)))))=rC (JK g x t i λj=>dM (aY g) x j i (dW g t,dL g t)):=by grind[rF,rC,JK,ada]
def Yy{t i:Nat}(hd:KF (aY g) (dW g t,dL g t)=-1):JK g x t i (SB g x t i (ix g.d t).l.length)=JK g x t i λj=>dM (aY g) x j i (dW g t,dL g t):=by
 have e:SB g x t i (ix g.d t).l.length=λj=>dM (aY g) x j i (dW g t,dL g t):=by grind[ada]
 rw[e]
end
structure Vo(D:Nat)(g:fP)(x:Nat->Rat):Prop where
 A:awm D g x
 r:∀i,i<g.e.length->ROk D (cO (ix g.e i)) (x i)
 s:∀i,i<g.e.length->∀c,c<kE g.e i->0<=KJ g x i c/\Zk D 1 (KJ g x i c)
def Vp{D:Nat}{W:Rat}{q r:fD->Rat}{j:Nat}:∀(t:List fD){Q R B:Rat}{K M:Nat},(∀a∈t,Zk D 1 (r a))->Zk D K R->Zk D K B->K+t.length<=M->Zk D (t.length*(2*M)) (jl W q r Q R B t j)
 |[],_,_,_,_,_,_,_,_,_=>Zk.zero.mono (bw _)
 |a::t,Q,R,B,K,M,hr,hR,hB,hM=>by
  rw[bR]at hM⊢;have ho:Zk D (K+1) (nR W (Q+q a) (R+r a)):=by
   unfold nR;split
   .exact hR.add (hr a kc)
   .exact Zk.zero.mono (bw _)
  have h1:=Vp (W:=W) (q:=q) (j:=j) (Q:=Q+q a) t (λb hb=>hr b (by simp[hb])) (hR.add (hr a kc)) ho (by omega:K+1+t.length<=M);rw[cg,fg];unfold jl;refine Zk.add ?_ h1;split
  .exact(ho.sub hB).mono jb
  .exact Zk.zero.mono (bw _)
section
variable {D:Nat} {g:fP} {x:Nat→Rat}
theorem Vo.gs(h:Vo D g x){t:Nat}(ht:t<g.d.length)(i:Nat):∀a∈dL g t,Zk D 1 (gs (aY g) x i a)/\0<=gs (aY g) x i a:=λa ha=>by
 obtain⟨y,hy,rfl⟩:=cB.mp ha;obtain⟨k,hk,rfl⟩:=aL hy;rw[<-dX hk];obtain⟨e,c,h1,h2,h3⟩:=(h.A.s.l t ht).2 k hk;rw[h1];unfold Ins.gs;obtain⟨h4,h5⟩:=h.s e h2 c h3;split
 .exact⟨h5,h4⟩
 .exact⟨Zk.zero.mono (bw _),aR⟩
def Vo.own(h:Vo D g x){j b c:Nat}(hb:b<g.e.length)(hc:c<kE g.e b):Zk D 1 (Pj g x j b c):=by
 unfold Pj;split
 .exact(h.s b hb c hc).2
 .exact Zk.zero.mono (bw _)
def Vo.A'(h:Vo D g x){i c j b:Nat}(hb:b<g.e.length)(hc:b=i->c<=kE g.e b):Zk D 1000 (Qq g x i c j b):=by
 have hk:=h.A.s.k b hb;unfold Qq;split
 .exact(Zk.zC λc hc=>h.own hb hc).mono hk
 .split
  .next e=>
   subst e;exact(Zk.zC λc' hc'=>h.own hb jb).mono jb
  .exact Zk.zero.mono (bw _)
theorem Vo.dM(h:Vo D g x){t:Nat}(ht:t<g.d.length)(j i:Nat):Zk D 2002000 (dM (aY g) x j i (dW g t,dL g t)):=by
 have hl:=(h.A.s.l t ht).1;have hlen:=JL g t;have hz:Zk D 1000 (aI (dL g t) (Ins.gs (aY g) x i)):=(U4 λa ha=>(h.gs ht i a ha).1).mono jb;have hr:=Vp (W:=dW g t) (q:=gq (aY g) x) (j:=j) (Q:=0) (K:=0) (M:=1000) (dL g t) (λa ha=>(h.gs ht i a ha).1) Zk.zero Zk.zero jb;unfold Ins.dM;refine Zk.mono (Zk.add (k:=2000) (l:=2000000) ?_ (hr.mono ?_)) jb
 .split
  .refine(hz.sub (l:=1000) ?_).mono jb;unfold nR;split
   .exact hz
   .exact Zk.zero.mono (bw _)
  .exact Zk.zero.mono (bw _)
 omega
def Vo.U(h:Vo D g x){t:Nat}(ht:t<g.d.length)(i k j:Nat):Zk D 2002000 (SB g x t i k j):=by have hl:=(h.A.s.l t ht).1;have hlen:=JL g t;have hr:=Vp (W:=dW g t) (q:=gq (aY g) x) (j:=j) (Q:=0) (K:=0) (M:=1000) ((dL g t).take k) (λa ha=>(h.gs ht i a (dT ha)).1) Zk.zero Zk.zero kd;refine hr.mono ?_;grind
def Vo.P(h:Vo D g x){t j b:Nat}(ht:t<=g.d.length)(hb:b<g.e.length):Zk D 2002001000 (mgP g x t j b):=by
 have hk:=h.A.s.k b hb;have hd:=h.A.s.d;have h1:Zk D 1000 (aB (kE g.e b) (Pj g x j b)):=(Zk.zC λc hc=>h.own hb hc).mono hk;have h2:∀t,t<=g.d.length->Zk D (t*2002000) (aI ((aY g).ds.take t) (Ins.dM (aY g) x j b)):=λt=>by
  induction t with
  |zero=>intro _;exact Zk.zero.mono (bw _)
  |succ t ih=>
   intro ht
   rw[bC (by grind[xX]),mM,O7 ht,cg]
   exact(ih jb).add (h.dM ht j b)
 exact(h1.add (h2 t ht)).mono jb
def Vo.D'(h:Vo D g x){t i j b:Nat}{u:Nat->Rat}(ht:t<g.d.length)(hb:b<g.e.length)(hu:Zk D 2002000 (u j)):Zk D 2004003000 (JK g x t i u j b):=by
 unfold JK;refine Zk.mono (Zk.add (l:=2002000) (h.P (gw ht) hb) ?_) jb;split
 .exact h.dM ht j b
 .split
  .exact hu
  .exact Zk.zero.mono (bw _)
end
def SE{g:fP}{d k:Nat}(h:aaj g d k=0):∃a b:Nat,ix (ix g.d d).l k=⟨.ofNat a,.ofNat b⟩/\a<g.e.length/\b<(ix g.e a).c.length/\nI (gK g.d d k) ⟨.ofNat a,.ofNat b⟩=false/\holdL g.e ⟨.ofNat a,.ofNat b⟩=holdL g.e (ix (ix g.d d).l 0):=by
 unfold aaj at h;dsimp only at h;split at h
 .cases h
 .next h1=>
  split at h
  .cases h
  .next h2=>
   split at h
   .cases h
   .next h3=>
    generalize ix (ix g.d d).l k=x at*;obtain⟨xe,xk⟩:=x;dsimp only at h1;obtain⟨a,rfl⟩:=cj (show 0<=xe by omega);obtain⟨b,rfl⟩:=cj (show 0<=xk by omega);rw[gh]at h1;exact⟨a,b,rfl,jb,jb,by simpa using h2,by simpa using h3⟩
def abf{l:List uV}{d k:Nat}(hk:k<(ix l d).l.length):gK l d (k+1)=gK l d k++[ix (ix l d).l k]:=by unfold gK;rw[bC hk,gj]
def Pn{l:List uV}{d:Nat}(hd:d<l.length):gK l d (ix l d).l.length=gK l (d+1) 0:=by unfold gK;rw[bP,cC,cV,bC hd,cH];simp
def SG{σ:St}(hW:WF σ){p:Nat->Prop}{ev dv:B}{g:fP}(hg:sN p σ.h ev dv g){a b:Nat}(ha:a<g.e.length)(hb:b<(ix g.e a).c.length)(hn:g.e.length<=1000)(hc:(ix g.e a).c.length<=1000):
  aC EN 92 [.agg [ev,dv],.agg [.int .i64 (.ofNat a),.int .i64 (.ofNat b)]] σ λr σ'=>r=.c (.int .i64 (holdL g.e ⟨.ofNat a,.ofNat b⟩))/\Fr σ σ':=by
 refine aN (pG.o _ _) pG.h ?_
 unfold pG
 dsimp only
 have hdk:=hg.d.kn
 obtain⟨b5,o5,c5,rfl,C1,A1,bF,-,hC,hA1⟩:=hg.e.at ha
 obtain⟨b8,o8,c8,rfl,-,jO⟩:=bf.pos hC jb
 have jO:=jO b hb
 unfold Uw at jO
 have l3:=nY bF 3 1 false jj jj
 have l4:=Aq jO 1 false jj jj
 have m2:=hW.bU l3
 have m3:=hW.bU l4
 have hFr:=Fr.refl hW
 simp(disch:=try exact jz) only[go_sem,z3,hdk,l3,l4]
 exact⟨rfl,fr⟩
def asQ{σ:St}(hW:WF σ){p p':Nat->Prop}{ev dv:B}{g:fP}(hg:sN p σ.h ev dv g){d mb:Nat}(hp:∀b,p b->b<mb)(hp':∀b,p' b->b<mb){Lv:B}(hL:CS p' σ.h Lv (ix g.d d).l)(hm:σ.h mb=some ⟨Qk (gK g.d d 0),some (0,0)⟩)(hz:NW g d=0)(hw:(ix g.d d).w.fits 1000000)(hn:g.e.length<=1000)(hc:∀i,i<g.e.length->(ix g.e i).c.length<=1000)(hl5:∀k,k<=(ix g.d d).l.length->(gK g.d d k).length<=500):
  aC EN 53 [.agg [ev,dv],.agg [.bool (ix g.d d).w.n,.str (ix g.d d).w.s,.str (ix g.d d).w.d,Lv],.c (.mp mb)] σ λr σ'=>r=.c (.int .i64 (.ofNat 0))/\σ'.h mb=some ⟨Qk (gK g.d d (ix g.d d).l.length),some (0,0)⟩/\aT [mb] σ σ':=by
 refine aN (mQ.o _ _) mQ.h ?_
 unfold mQ
 dsimp only
 unfold NW at hz
 split at hz
 .cases hz
 .next h1=>
  split at hz
  .cases hz
  .next h2=>
   have h3:=dY hz
   have hek:=hg.e.kn
   have hdk:=hg.d.kn
   have hLk:=bf.kn hL
   have hLl:=bf.len hL
   have hml:=hW.lt hm
   have hFr:=Fr.refl hW
   have hfit:=rE hw jj
   have hraw:rq (ix g.d d).w.n (ix g.d d).w.s (ix g.d d).w.d=(ix g.d d).w.q:=rfl
   have hsg:decide (sg (ix g.d d).w.q<Int.ofNat 0)=false:=ap h2
   have d1:decide ((Int.ofNat 8:Int)<Int.ofNat (ix g.d d).l.length)=false:=ap (by show¬((8:Int)<((ix g.d d).l.length:Int));omega)
   simp(disch:=try exact jz) only[go_sem,z3,hek,hdk,hLk,hLl,hsg,hraw,d1]
   refine aF (λq tm σ'=>∃k,q=(ix g.d d).l.length-k/\k<=(ix g.d d).l.length/\Tr.ah tm 2=.c (.mp mb)/\Tr.ah tm 3=.c (.ptr σ.aj 0)/\Tr.ah tm 4=.c (.ptr (σ.aj+1) 0)/\Tr.ah tm 20=.c Lv/\Tr.ah tm 21=.c (.int .i64 (.ofNat (ix g.d d).l.length))/\Tr.ah tm 22=.c (.int .i64 (.ofNat k))
    /\σ'.h mb=some ⟨Qk (gK g.d d k),some (0,0)⟩/\σ'.h σ.aj=some ⟨[ev,dv],none⟩/\σ'.h (σ.aj+1)=some ⟨[.bool (ix g.d d).w.n,.str (ix g.d d).w.s,.str (ix g.d d).w.d,Lv],none⟩/\aT [mb] σ σ'/\σ.aj+1+1<=σ'.aj) (ix g.d d).l.length ?_ ?_
   .refine⟨0,jb,jb,?_⟩
    simp(disch:=try exact jz) only[go_sem,z3,am]
    exact⟨hm,Fr.ex (fr) _,jp⟩
   .rintro q tm σ' ⟨k,rfl,hk,t2,t3,t4,t20,t21,t22,qm,q3,q4,hf,hnx⟩
    simp(disch:=try exact jz) only[go_sem,z3,t2,t3,t4,t20,t21,t22,aG]
    refine aH (λhlt=>?_) (λhlt=>?_)
    .obtain⟨a,b,ex,ha,hb,hh,hho⟩:=SE (h3 k hlt)
     obtain⟨a0,b0,ex0,ha0,hb0,-,-⟩:=SE (h3 0 jb)
     have hko:∀b,b<mb->σ'.h b=σ.h b:=λb hb=>hf.old b jb (by simp;omega)
     have hg':sN (Lt mb) σ'.h ev dv g:=hg.keep (λb hb=>hko b (hp b hb)) hp
     have hL':CS (Lt mb) σ'.h Lv (ix g.d d).l:=bf.keep hL (λb hb=>hko b (hp' b hb)) hp'
     obtain⟨b6,o6,c6,rfl,hb6,cZ⟩:=bf.pos hL' jb
     have Yz:=cZ 0 jb
     have cZ:=cZ k hlt
     unfold Ld at cZ Yz
     rw[ex]at cZ
     rw[ex0]at Yz
     obtain⟨b5,o5,c5,rfl,C1,A1,bF,-,hC,-⟩:=hg'.e.at ha
     have hCl:=bf.len hC
     obtain⟨b8,o8,c8,rfl,-,-⟩:=bf.pos hC jb
     have l3:=nY bF 3 1 false jj jj
     have m2:=hf.wf.bU l3
     have m6:=hf.wf.bU cZ
     have hnn:=hn
     have hca:=hc a ha
     have ayD:=hc a0 ha0
     have e1:decide (Int.ofNat a<Int.ofNat 0)=false:=ap (by show¬((a:Int)<0);omega)
     have e2:decide (Int.ofNat g.e.length<=Int.ofNat a)=false:=ap (by show¬((g.e.length:Int)<=(a:Int));omega)
     have e3:decide (Int.ofNat b<Int.ofNat 0)=false:=ap (by show¬((b:Int)<0);omega)
     have e4:decide (Int.ofNat (ix g.e a).c.length<=Int.ofNat b)=false:=ap (by show¬(((ix g.e a).c.length:Int)<=(b:Int));omega)
     have hle:=hf.le
     have jE:=Fr.refl hf.wf
     have hlm:=hf.wf.lt qm
     simp(disch:=try exact jz) only[go_sem,z3,t2,t3,t4,t20,t21,t22,cZ,Yz,ak q3,ak q4,q3,q4,l3,hCl,e1,e2,e3,e4,qm,hh,hek,hdk]
     refine aC.st (Fr σ') (fr) λhF=>?_
     refine(SG hF.wf (hg'.fr hf.wf hF) ha hb hn hca).mono ?_
     rintro _ σ2 ⟨rfl,hf2⟩
     have hF2:=hF.trans hf2
     have q32:=hF2.get hf.wf q3
     have q42:=hF2.get hf.wf q4
     have q82:=hf2.get hF.wf (aA _ _ _)
     have qZ:=hF2.ld hf.wf Yz
     have abd:=Fr.refl hf2.wf
     simp(disch:=try exact jz) only[go_sem,z3,t2,t3,t4,ak q32,ak q42,ak q82,q32,q42,qZ,hek,hdk]
     refine(SG hf2.wf (hg'.fr hf.wf hF2) ha0 hb0 hn ayD).mono ?_
     rintro _ σ3 ⟨rfl,hf3⟩
     have hF3:=hF2.trans hf3
     have q33:=hF3.get hf.wf q3
     have q43:=hF3.get hf.wf q4
     have q83:=hf3.get hf2.wf q82
     have qm3:=hF3.get hf.wf qm
     have pJ:=hF3.ld hf.wf Yz
     have hle3:=hF3.le
     rw[ex0]at hho
     have d5:decide (holdL g.e ⟨.ofNat a,.ofNat b⟩=holdL g.e ⟨.ofNat a0,.ofNat b0⟩)=true:=be hho
     have az3:=hl5 k hk
     have azu:(ix g.d d).l.length<=8:=jb
     have hFE:aT [mb] σ σ3:=hf.trans (hF3.ex _)
     have az4:mb<σ3.aj:=jb
     simp(disch:=try exact jz) only[go_sem,z3,t2,t3,t4,t20,t21,t22,ak q33,ak q43,ak q83,q33,q43,q83,qm3,pJ,d5]
     refine⟨(ix g.d d).l.length-(k+1),jb,k+1,rfl,jb,rfl,?_,by repeat(first|assumption|exact aT.refl (by assumption)|exact aT.up (by assumption) kf|exact aT.up (aT.refl (by assumption)) kf|refine aT.set1 ?_ kg kf|refine aT.kZ ?_ kg|refine aT.nH ?_ kg|refine aT.nZ ?_ kf),jb⟩
     rw[abf hlt,ex]
    .have:k=(ix g.d d).l.length:=jb
     subst this
     simp(disch:=try exact jz) only[go_sem,z3,am]
     exact⟨qm,hf⟩
def afC{g:fP}(h:FY g=0):g.e.length<=8/\g.d.length<=16/\(∀i,i<g.e.length->EI (ix g.e i)=0)/\(∀i,i<g.e.length->∀k,k<(ix g.e i).c.length->(ix (ix g.e i).c k).h<(g.e.length:Int)/\(ix (ix g.e i).c k).h≠(i:Int))/\∀d,d<g.d.length->NW g d=0:=by
 unfold FY at h;split at h
 .cases h
 .split at h
  .next h2=>exact absurd h h2
  .split at h
   .next h3=>exact absurd h h3
   .next h1 h2 h3=>
    refine⟨jb,jb,dY (by simpa using h2),λi hi k hk=>?_,dY h⟩;have h3:FX (λi=>FX (Xj g i) (ix g.e i).c.length) g.e.length=0:=by simpa using h3
    have:=dY (dY h3 i hi) k hk;unfold Xj at this;split at this
    .cases this
    .next h4=>exact⟨jb,λe=>h4 (.inr e)⟩
def Po{g:fP}(h:∀d,d<g.d.length->NW g d=0):∀d k,d<=g.d.length->k<=8->(gK g.d d k).length<=8*d+k
 |0,k,_,hk=>by unfold gK;rw[cC,List.flatMap_nil,List.nil_append,cN];omega
 |d+1,k,hd,hk=>by
  have h1:=h d jb;have h2:(ix g.d d).l.length<=8:=by
   unfold NW at h1;split at h1
   .cases h1
   .omega
  have h3:=Po h d (ix g.d d).l.length jb h2;rw[Pn jb]at h3;have:(gK g.d (d+1) k).length<=(gK g.d (d+1) 0).length+k:=by unfold gK;rw[az,az,cN,cN];omega
  omega
def adb{σ:St}(hW:WF σ){p:Nat->Prop}{ev dv:B}{g:fP}(hg:sN p σ.h ev dv g)(hz:FY g=0){D:Nat}(hB:Yr D g)(hm:∀i,i<g.e.length->(ix g.e i).m.fits 1000000)(hw:∀d,d<g.d.length->(ix g.d d).w.fits 1000000):
  aC EN 30 [.agg [ev,dv]] σ λr σ'=>r=.c (.int .i64 (.ofNat 0))/\Fr σ σ':=by
 refine aN (qM.o _ _) qM.h ?_
 unfold qM
 dsimp only
 obtain⟨h1,h2,h3,h4,h5⟩:=afC hz
 have hek:=hg.e.kn
 have hdk:=hg.d.kn
 have hel:=hg.e.len
 have hdl:=hg.d.choose_spec.1.len
 have hFr:=Fr.refl hW
 have hg0:=hg.fr hW hFr
 have d1:decide ((Int.ofNat 8:Int)<Int.ofNat g.e.length)=false:=ap (by show¬((8:Int)<(g.e.length:Int));omega)
 have d2:decide ((Int.ofNat 16:Int)<Int.ofNat g.d.length)=false:=ap (by show¬((16:Int)<(g.d.length:Int));omega)
 have d0:decide ((0:Int)=Int.ofNat 0)=true:=rfl
 simp(disch:=try exact jz) only[go_sem,z3,hek,hdk,hel,hdl,d1,d2]
 refine bH.mono (Q:=λex tm σ'=>ex=.exit 0/\Tr.ah tm 1=.c (.ptr σ.aj 0)/\σ'.h σ.aj=some ⟨[ev,dv],none⟩/\Fr σ σ'/\σ.aj+1<=σ'.aj)
  (aF (λq tm σ'=>∃i,q=g.e.length-i/\i<=g.e.length/\Tr.ah tm 1=.c (.ptr σ.aj 0)/\Tr.ah tm 25=.c ev/\Tr.ah tm 26=.c (.int .i64 (.ofNat g.e.length))/\Tr.ah tm 27=.c (.int .i64 (.ofNat i))/\σ'.h σ.aj=some ⟨[ev,dv],none⟩/\Fr σ σ'/\σ.aj+1<=σ'.aj) g.e.length ?_ ?_) ?_
 .refine⟨0,jb,jb,?_⟩
  simp(disch:=try exact jz) only[go_sem,z3,am]
  exact⟨fr,jp⟩
 .rintro q tm σ' ⟨i,rfl,hi,t1,t25,t26,t27,q1,hf,hnx⟩
  simp(disch:=try exact jz) only[go_sem,z3,t1,t25,t26,t27,aG]
  refine aH (λhlt=>?_) (λhlt=>?_)
  .obtain⟨b5,o5,c5,rfl,C,A,hld,ayE,hC,hA⟩:=(hg.fr hW hf).e.at hlt
   have IK:=bf.kn hC
   have hAk:=hA.kn
   have hE:=hB.e i hlt
   have hle:=hf.le
   have jE:=Fr.refl hf.wf
   simp(disch:=try exact jz) only[go_sem,z3,t1,t25,t26,t27,hld,IK,hAk]
   refine aC.st (Fr σ') (fr) λhF=>?_
   have hg':=((hg.fr hW hf).fr hf.wf hF).e
   refine(avX (p:=Lt σ.aj) hF.wf (bf.keep hC (λb hb=>hF.old b (by have:b<σ.aj:=hb;omega)) λ_ h=>h) (hA.keep (λb hb=>hF.old b (by have:b<σ.aj:=hb;omega)) λ_ h=>h) (h3 i hlt) (hm i hlt) hE.fc λj hj=>?_).mono ?_
   .have hL:=hE.a j hj
    refine⟨hL.na,hL.nf,λk hk=>?_,λt ht x hx=>(hL.p t ht x hx).1⟩
    obtain⟨t,ht,hx⟩:=List.mem_flatten.mp (iR hk)
    obtain⟨a,ha,rfl⟩:=aL ht
    obtain⟨l,hl,e⟩:=aL hx
    have:=hL.fp a ha l (by rw[dX ha];exact hl)
    rw[dX ha,dX hl,e]at this
    exact this
   rintro _ σ2 ⟨rfl,hf2⟩
   have hF2:=hF.trans hf2
   have q12:=hF2.get hf.wf q1
   have hle2:=hF2.le
   simp(disch:=try exact jz) only[go_sem,z3,t1,t25,t26,t27,d0]
   exact⟨g.e.length-(i+1),jb,i+1,rfl,jb,rfl,q12,hf.trans hF2,jb⟩
  .simp(disch:=try exact jz) only[go_sem,z3,am]
   exact⟨t1,q1,hf,hnx⟩
 .rintro _ H6 σ1 ⟨rfl,t1,q1,hf1,hn1⟩
  have hl1:=hf1.wf.lt q1
  have afo:=Fr.refl hf1.wf
  simp(disch:=try exact jz) only[go_sem,z3,t1,ak q1,hek,hdk,hel,hdl]
  refine bH.mono (Q:=λex tm σ'=>ex=.exit 2/\Tr.ah tm 1=.c (.ptr σ.aj 0)/\σ'.h σ.aj=some ⟨[ev,dv],none⟩/\Fr σ σ'/\σ.aj+1<=σ'.aj)
   (aF (λq tm σ'=>∃i,q=g.e.length-i/\i<=g.e.length/\Tr.ah tm 1=.c (.ptr σ.aj 0)/\Tr.ah tm 38=.c ev/\Tr.ah tm 39=.c (.int .i64 (.ofNat g.e.length))/\Tr.ah tm 40=.c (.int .i64 (.ofNat i))/\σ'.h σ.aj=some ⟨[ev,dv],none⟩/\Fr σ σ'/\σ.aj+1<=σ'.aj) g.e.length ?_ ?_) ?_
  .refine⟨0,jb,jb,?_⟩
   simp(disch:=try exact jz) only[go_sem,z3,t1,am]
   exact⟨q1,hf1,hn1⟩
  .rintro q tm σ' ⟨i,rfl,hi,t1,t38,t39,t40,q1,hf,hnx⟩
   simp(disch:=try exact jz) only[go_sem,z3,t1,t38,t39,t40,aG]
   refine aH (λhlt=>?_) (λhlt=>?_)
   .obtain⟨b5,o5,c5,rfl,C,A,hld,ayE,hC,hA⟩:=(hg.fr hW hf).e.at hlt
    have IK:=bf.kn hC
    have hCl:=bf.len hC
    have hAk:=hA.kn
    have hle:=hf.le
    have jE:=Fr.refl hf.wf
    have hcn:=(hB.e i hlt).nc
    simp(disch:=try exact jz) only[go_sem,z3,t1,t38,t39,t40,hld,IK,hAk,hCl]
    refine bH.mono (Q:=λex tm σ4=>ex=.exit 4/\Tr.ah tm 1=.c (.ptr σ.aj 0)/\Tr.ah tm 38=.c (.sl b5 o5 g.e.length c5)/\Tr.ah tm 39=.c (.int .i64 (.ofNat g.e.length))/\Tr.ah tm 40=.c (.int .i64 (.ofNat i))/\σ4.h σ.aj=some ⟨[.sl b5 o5 g.e.length c5,dv],none⟩/\Fr σ σ4/\σ.aj+1<=σ4.aj)
     (aF (λq tm σ4=>∃k,q=(ix g.e i).c.length-k/\k<=(ix g.e i).c.length/\Tr.ah tm 1=.c (.ptr σ.aj 0)/\Tr.ah tm 6=.c (.int .i64 (.ofNat i))/\Tr.ah tm 38=.c (.sl b5 o5 g.e.length c5)/\Tr.ah tm 39=.c (.int .i64 (.ofNat g.e.length))/\Tr.ah tm 40=.c (.int .i64 (.ofNat i))/\Tr.ah tm 46=.c C/\Tr.ah tm 47=.c (.int .i64 (.ofNat (ix g.e i).c.length))/\Tr.ah tm 48=.c (.int .i64 (.ofNat k))/\σ4.h σ.aj=some ⟨[.sl b5 o5 g.e.length c5,dv],none⟩/\Fr σ σ4/\σ.aj+1<=σ4.aj) (ix g.e i).c.length ?_ ?_) ?_
    .refine⟨0,jb,jb,?_⟩
     simp(disch:=try exact jz) only[go_sem,z3,t1,t38,t39,t40,am]
     exact⟨q1,fr,jb⟩
    .rintro q tm σ4 ⟨k,rfl,hk,t1,t6,t38,t39,t40,t46,t47,t48,JI,hf4,hn4⟩
     simp(disch:=try exact jz) only[go_sem,z3,t1,t6,t38,t39,t40,t46,t47,t48,aG]
     refine aH (λhltk=>?_) (λhltk=>?_)
     .have hC4:=bf.keep (q:=Lt σ.aj) (h':=σ4.h) hC (λb hb=>by have hb:b<σ.aj:=hb;rw[hf4.old b hb,hf.old b hb]) λ_ h=>h
      obtain⟨b8,o8,c8,rfl,-,jO⟩:=bf.pos hC4 jb
      have jO:=jO k hltk
      unfold Uw at jO
      obtain⟨g1,g2⟩:=h4 i hlt k hltk
      have e1:decide ((ix (ix g.e i).c k).h=Int.ofNat i)=false:=ap g2
      have e2:decide (Int.ofNat g.e.length<=(ix (ix g.e i).c k).h)=false:=ap (by show¬((g.e.length:Int)<=_);omega)
      have hl4:=hf4.wf.lt JI
      have DC:=Fr.refl hf4.wf
      have uO:=hf4.le
      simp(disch:=try exact jz) only[go_sem,z3,t1,t6,t38,t39,t40,t46,t47,t48,jO,e1,e2,ak JI,JI]
      exact⟨(ix g.e i).c.length-(k+1),jb,k+1,rfl,jb,rfl,fr,jb⟩
     .simp(disch:=try exact jz) only[go_sem,z3,am]
      exact⟨t1,t38,t39,t40,JI,hf4,hn4⟩
    .rintro _ tm4 σ4 ⟨rfl,t1,t38,t39,t40,JI,hf4,hn4⟩
     simp(disch:=try exact jz) only[go_sem,z3,t1,t38,t39,t40]
     exact⟨g.e.length-(i+1),jb,i+1,rfl,jb,rfl,JI,hf4,hn4⟩
   .simp(disch:=try exact jz) only[go_sem,z3,am]
    exact⟨t1,q1,hf,hnx⟩
  .rintro _ VU σ2 ⟨rfl,t1,q1,hf2,hn2⟩
   have hl2:=hf2.wf.lt q1
   have hle2:=hf2.le
   have abd:=Fr.refl hf2.wf
   have hLz:gK g.d 0 0=[]:=by unfold gK;simp
   simp(disch:=try exact jz) only[go_sem,z3,t1,ak q1,q1,hek,hdk,hel,hdl]
   refine aF (λq tm σ'=>∃d,q=g.d.length-d/\d<=g.d.length/\Tr.ah tm 1=.c (.ptr σ.aj 0)/\Tr.ah tm 10=.c (.mp σ2.aj)/\Tr.ah tm 68=.c dv/\Tr.ah tm 69=.c (.int .i64 (.ofNat g.d.length))/\Tr.ah tm 70=.c (.int .i64 (.ofNat d))/\σ'.h σ.aj=some ⟨[ev,dv],none⟩/\σ'.h σ2.aj=some ⟨Qk (gK g.d d 0),some (0,0)⟩/\Fr σ σ'/\σ2.aj+1<=σ'.aj) g.d.length ?_ ?_
   .refine⟨0,jb,jb,?_⟩
    rw[hLz]
    simp(disch:=try exact jz) only[go_sem,z3,t1,am]
    exact⟨q1,rfl,fr,jp⟩
   .rintro q tm σ' ⟨d,rfl,hd,t1,t10,t68,t69,t70,q1,qm,hf,hnx⟩
    simp(disch:=try exact jz) only[go_sem,z3,t1,t10,t68,t69,t70,aG]
    refine aH (λhlt=>?_) (λhlt=>?_)
    .obtain⟨L,hD1,hD2⟩:=(hg.fr hW hf).d
     have hL0:=hD2 d hlt
     have hLk:=bf.kn hL0
     obtain⟨b5,o5,c5,rfl,hb5,hld⟩:=bf.pos hD1 jb
     have hld:=hld d hlt
     have hle:=hf.le
     have hl1:=hf.wf.lt q1
     have hlm:=hf.wf.lt qm
     have jE:=Fr.refl hf.wf
     simp(disch:=try exact jz) only[go_sem,z3,t1,t10,t68,t69,t70,hld,hLk,ak q1,q1,qm,hek]
     refine aC.st (Fr σ') (fr) λhF=>?_
     have hgF:=(hg.fr hW hf).fr hf.wf hF
     have hgF:sN (Lt σ.aj) _ ev (.sl b5 o5 g.d.length c5) g:=(hg.fr hW (hf.trans hF))
     have hLF:CS (Lt σ.aj) _ (L d) (ix g.d d).l:=bf.keep hL0 (λb hb=>hF.old b (by have:b<σ.aj:=hb;omega)) λ_ h=>h
     have h8:=Po h5
     have hd8:(ix g.d d).l.length<=8:=by
      have:=h5 d hlt;unfold NW at this;split at this
      .cases this
      .omega
     refine(asQ hF.wf hgF (mb:=σ2.aj) (λb hb=>by have:b<σ.aj:=hb;omega) (λb hb=>by have:b<σ.aj:=hb;omega) hLF (hF.get hf.wf qm) (h5 d hlt) (hw d hlt) hB.n (λi hi=>(hB.e i hi).nc) λk hk=>by have:=h8 d k hd jb;omega).mono ?_
     rintro _ σ3 ⟨rfl,qm3,hf3⟩
     rw[Pn hlt]at qm3
     have hle3:=hf3.le
     have az5:=hF.le
     have q13:σ3.h σ.aj=some ⟨[ev,.sl b5 o5 g.d.length c5],none⟩:=(hf3.old _ jb (by simp;omega)).trans (hF.get hf.wf q1)
     have hfx:Fr σ σ3:=⟨jb,hf3.wf,λb hb=>by rw[hf3.old b jb (by simp;omega)];exact(hf.trans hF).old b hb⟩
     simp(disch:=try exact jz) only[go_sem,z3,t1,t10,t68,t69,t70,d0]
     exact⟨g.d.length-(d+1),jb,d+1,rfl,jb,rfl,q13,qm3,hfx,jb⟩
    .simp(disch:=try exact jz) only[go_sem,z3,am]
     exact hf
structure asR(A D:Nat)(g:fP)(x:Nat->Rat):Prop where
 a:BD A
 B:Yr A g
 N:awm D g x
 s:aak 134217728 g
 z:FY g=0
 x:∀i,i<g.e.length->0<=x i/\Sz (x i)
def ajI{σ:St}(hW:WF σ){p p':Nat->Prop}{wn:Bool}{ws wd:ByteArray}{W:Rat}(hw:rq wn ws wd=W)(hws:ws.size+wd.size<=130000000){v w:B}{m:Nat}{q r:Nat->Rat}(hv:jX p σ.h v m q)(hr:jX p' σ.h w m r)(hm:m<=1000)(hq:∀k,k<m->0<=q k/\0<=r k)(h0:0<=W){D:Nat}(hD:BD D)(hWz:Zk D 1 W)(hqz:∀k,k<m->Zk D 1 (q k)/\Zk D 1 (r k)):
  aC EN 103 [.agg [.bool wn,.str ws,.str wd],.c v,.c w] σ λx σ'=>Yo σ σ' x m (Qp W q r)/\Fr σ σ':=by
 refine aN (qQ.o _ _) qQ.h ?_
 unfold qQ
 dsimp only
 have hlen:=bf.len hv
 have hlen2:=bf.len hr
 have hFr:=Fr.refl hW
 have hu:=ajs
 have hp:=λ(args:List V) (σ:St) (K:V->St->Prop)=>kT (E:=EN) (K:=K) (gY.o args σ) gY.h
 unfold gY at hp
 dsimp only at hp
 simp(disch:=try exact jz) only[go_sem,z3,hlen]
 refine aF (λx tm σ'=>∃k,x=m-k/\k<=m/\Tr.ah tm 2=.c w/\Tr.ah tm 3=.c (.ptr σ.aj 0)/\Tr.ah tm 7=.c (.sl (σ.aj+1) 0 m (.ex m))/\Tr.ah tm 8=.c (.ptr (σ.aj+1+1) 0)/\Tr.ah tm 9=.c (.ptr (σ.aj+1+1+1) 0)/\Tr.ah tm 10=.c (.ptr (σ.aj+1+1+1+1) 0)/\Tr.ah tm 20=.c v/\Tr.ah tm 21=.c (.int .i64 (.ofNat m))/\Tr.ah tm 22=.c (.int .i64 (.ofNat k))
  /\σ'.h σ.aj=some ⟨[.bool wn,.str ws,.str wd],none⟩/\σ'.h (σ.aj+1)=some ⟨bZ m (λi=>if i<k then Qp W q r i else 0),none⟩/\σ'.h (σ.aj+1+1)=some ⟨[.bool (rn (aB k q)),.str (rs (aB k q)),.str (rd (aB k q))],none⟩/\σ'.h (σ.aj+1+1+1)=some ⟨[.bool (rn (aB k r)),.str (rs (aB k r)),.str (rd (aB k r))],none⟩
  /\σ'.h (σ.aj+1+1+1+1)=some ⟨[.bool (rn (nR W (aB k q) (aB k r))),.str (rs (nR W (aB k q) (aB k r))),.str (rd (nR W (aB k q) (aB k r)))],none⟩/\Fr σ σ'/\σ.aj+1+1+1+1+1<=σ'.aj) m ?_ ?_
 .refine⟨0,jb,jb,?_⟩
  simp(disch:=try exact jz) only[go_sem,z3,am]
  refine⟨?_,rfl,rfl,?_,fr,jb⟩
  .rw[xW]
  .show _=some (Bk.mk [.bool (rn (nR W 0 0)),.str (rs (nR W 0 0)),.str (rd (nR W 0 0))] none)
   rw[abe]
 .rintro x tm σ' ⟨k,rfl,hk,t2,t3,t7,t8,t9,t10,t20,t21,t22,q3,q7,q8,q9,q10,hf,hnx⟩
  have hle:=hf.le
  simp(disch:=try exact jz) only[go_sem,z3,t2,t3,t7,t8,t9,t10,t20,t21,t22,aG]
  refine aH (λhlt=>?_) (λhlt=>?_)
  .obtain⟨b5,o5,c5,rfl,-,bF⟩:=bf.at3 hv hlt
   obtain⟨b6,o6,c6,rfl,-,cZ⟩:=bf.at3 hr hlt
   have hb6:=hW.bU cZ
   have bF:=hf.ld hW bF
   have cZ:=hf.ld hW cZ
   obtain⟨hqk,hrk⟩:=hq k hlt
   obtain⟨hzk,hyk⟩:=hqz k hlt
   have hzs:Zk D k (aB k q):=Zk.zC λi hi=>(hqz i jb).1
   have hys:Zk D k (aB k r):=Zk.zC λi hi=>(hqz i jb).2
   have z1:Sz (q k):=hzk.sz hD jb
   have y1:Sz (r k):=hyk.sz hD jb
   have z2:Sz (aB k q):=hzs.sz hD jb
   have y2:Sz (aB k r):=hys.sz hD jb
   have z4:Sz (aB k q+q k):=(hzs.add hzk).sz hD jb
   have y4:Sz (aB k r+r k):=(hys.add hyk).sz hD jb
   have z5:Sz W:=hWz.sz hD jb
   have z8:Sz (nR W (aB k q) (aB k r)):=by unfold nR;split;exact y2;exact Sz.zero
   have z9:=Sz.zero
   have z10:=Sz.zero.two
   have e1:oD (q k)=q k:=JH hqk
   have e3:oD (r k)=r k:=JH hrk
   have e2:oD W=W:=JH h0
   have jE:=Fr.refl hf.wf
   have hst:=rM m k (Qp W q r)
   simp(disch:=try exact jz) only[go_sem,z3,t2,t3,t7,t8,t9,t10,t20,t21,t22,bF,cZ,ak q3,ak q8,aJ q8,ak q9,aJ q9,ak q10,q3,q7,q8,q9,q10,O4,e1,e2,e3,hw,hp,aG,hlt]
   refine aH (λhc=>?_) (λhc=>?_)
   .have hc:W<=aB k q+q k:=LY.mp hc
    have e5:nR W (aB (k+1) q) (aB (k+1) r)=aB k r+r k:=ab hc
    have e4:Qp W q r k=aB k r+r k-nR W (aB k q) (aB k r):=by unfold Qp;rw[e5]
    rw[e4]at hst
    simp(disch:=try exact jz) only[go_sem,z3,t2,t3,t7,t8,t9,t10,t20,t21,t22,q3,q7,q8,q9,ak q10,q10,aJ q10,aJ q7,hst]
    refine⟨m-(k+1),jb,k+1,rfl,jb,rfl,rfl,rfl,rfl,?_,fr,jb⟩
    rw[e5]
   .have hc:¬W<=aB k q+q k:=λh=>hc (LY.mpr h)
    have e5:nR W (aB (k+1) q) (aB (k+1) r)=0:=ae hc
    have e4:Qp W q r k=0-nR W (aB k q) (aB k r):=by unfold Qp;rw[e5]
    rw[e4]at hst
    simp(disch:=try exact jz) only[go_sem,z3,t2,t3,t7,t8,t9,t10,t20,t21,t22,q3,q7,q8,q9,ak q10,q10,aJ q10,aJ q7,hst]
    refine⟨m-(k+1),jb,k+1,rfl,jb,rfl,rfl,rfl,rfl,?_,fr,jb⟩
    rw[e5]
  .have:k=m:=jb
   subst this
   simp(disch:=try exact jz) only[go_sem,z3,t7]
   exact⟨⟨_,rfl,by rw[q7,yN],jb,jb⟩,hf⟩
structure ou(h:Tr Bk)(mb n:Nat)(C:Nat->Nat->List B)(bs:Nat->Nat)(lo hi:Nat):Prop where
 o:h mb=some ⟨ones n λi=>yc (λ_=>n) bs i,none⟩
 r:lM h n (λ_=>n) C bs lo hi
 b:mb<lo
 l:lo<=hi
def ou.keep{h h':Tr Bk}{mb n lo hi:Nat}{C:Nat->Nat->List B}{bs:Nat->Nat}(hM:ou h mb n C bs lo hi)(hh:∀b,mb<=b->b<hi->h' b=h b):ou h' mb n C bs lo hi:=
 ⟨by rw[hh _ jp (aE hM.b hM.l)];exact hM.o,hM.r.mono (λb h1 h2=>hh b (by have:=hM.b;omega) h2) jp jp,hM.b,hM.l⟩
theorem ou.fr{σ σ':St}(hf:Fr σ σ'){mb n lo hi:Nat}{C:Nat->Nat->List B}{bs:Nat->Nat}(hM:ou σ.h mb n C bs lo hi)(hn:hi<=σ.aj):ou σ'.h mb n C bs lo hi:=hM.keep λb _ hb=>hf.old b jb
def YB{σ:St}(hW:WF σ){n:Nat}(hn:n<=1000):
  aC EN 101 [.c (.int .i64 (.ofNat n))] σ λr σ'=>(∃bs,r=.c (.sl σ.aj 0 n (.ex n))/\ou σ'.h σ.aj n (rC λ_ _=>0) bs (σ.aj+1) σ'.aj)/\Fr σ σ':=by
 refine aN (qP.o _ _) qP.h ?_
 unfold qP
 dsimp only
 have hFr:=Fr.refl hW
 simp(disch:=try exact jz) only[go_sem,z3]
 refine aF (λx tm σ'=>∃j bs,x=n-j/\j<=n/\Tr.ah tm 0=.c (.int .i64 (.ofNat n))/\Tr.ah tm 3=.c (.sl σ.aj 0 n (.ex n))/\Tr.ah tm 7=.c (.sl σ.aj 0 n (.ex n))/\Tr.ah tm 8=.c (.int .i64 (.ofNat n))/\Tr.ah tm 9=.c (.int .i64 (.ofNat j))
  /\σ'.h σ.aj=some ⟨ones n (λi=>if i<j then yc (λ_=>n) bs i else .aX),none⟩/\lM σ'.h j (λ_=>n) (rC λ_ _=>0) bs (σ.aj+1) σ'.aj/\Fr σ σ'/\σ.aj+1<=σ'.aj) n ?_ ?_
 .refine⟨0,λ_=>0,jb,jb,?_⟩
  simp(disch:=try exact jz) only[go_sem,z3,am]
  exact⟨by congr 2,lM.nil _ _ _ _ _ _,fr,jb⟩
 .rintro x tm σ' ⟨j,bs,rfl,hj,t0,t3,t7,t8,t9,q3,hR,hf,hnx⟩
  have hle:=hf.le
  simp(disch:=try exact jz) only[go_sem,z3,t0,t3,t7,t8,t9,aG]
  refine aH (λhlt=>?_) (λhlt=>?_)
  .have jE:=Fr.refl hf.wf
   simp(disch:=try exact jz) only[go_sem,z3,t0,t3,t7,t8,t9,q3,aJ q3]
   refine⟨n-(j+1),jb,j+1,aP bs j σ'.aj,rfl,jb,rfl,?_,?_,fr,jb⟩
   .refine bY (λl=>some (Bk.mk l none)) (dU λi hi=>?_)
    unfold aP yc
    dsimp only
    by_cases e:i=j
    .subst e;rw[ab rfl,ab jb,ab rfl]
    .rw[ae e]
     by_cases e2:i<j
     .rw[ab e2,ab jb,ae e]
     .rw[ae e2,ae jb]
   .refine hR.push (nb:=σ'.aj) ?_ rfl jp (ce _) jb λb h1 h2 _=>?_
    .rw[au _ _ _ _ jb,aA];rfl
    .rw[au _ _ _ _ jb,au _ _ _ _ jb]
  .have:j=n:=jb
   subst this
   simp(disch:=try exact jz) only[go_sem,z3,t3]
   refine⟨⟨bs,?_,hR,jb,jb⟩,hf⟩
   rw[q3]
   exact bY (λl=>some (Bk.mk l none)) (dU λi hi=>ab hi)
def abg{σ:St}(hW:WF σ){mb n lo hi:Nat}{M:Nat->Nat->Rat}{bs:Nat->Nat}(hM:ou σ.h mb n (rC M) bs lo hi)(hn:n<=1000)(hhi:hi<=σ.aj){j i:Nat}(hj:j<n)(hi1:i<n){q:Rat}(z1:Sz (M j i))(z2:Sz q):
  aC EN 102 [.c (.sl mb 0 n (.ex n)),.c (.int .i64 (.ofNat j)),.c (.int .i64 (.ofNat i)),.agg [.bool (rn q),.str (rs q),.str (rd q)]] σ λ_ σ'=>ou σ'.h mb n (rF (rC M) j i (eH (M j i+q))) bs lo hi/\aT [bs j] σ σ':=by
 refine aN (vG.o _ _) vG.h ?_
 unfold vG
 dsimp only
 obtain⟨q0,hR,hb,hl⟩:=hM
 obtain⟨q1,h1,h2⟩:=hR.r j hj
 have q1:σ.h (bs j)=some ⟨bZ n (M j),none⟩:=q1
 have hFr:=aT.refl (ex:=[bs j]) hW
 unfold yc at q0
 simp(disch:=try exact jz) only[go_sem,z3,ak q0,q0,ak q1,q1,aJ q1]
 refine⟨⟨?_,?_,hb,hl⟩,by repeat(first|assumption|exact aT.refl (by assumption)|exact aT.up (by assumption) kf|exact aT.up (aT.refl (by assumption)) kf|refine aT.set1 ?_ kg kf|refine aT.kZ ?_ kg|refine aT.nH ?_ kg|refine aT.nZ ?_ kf)⟩
 .rw[au _ _ _ _ jb,au _ _ _ _ jb];exact q0
 .refine lM.set (h:=hset σ.h σ.aj _) (hR.mono (λb _ hb=>au _ _ _ _ jb) jp jp) hj ?_
  refine bW λc _=>?_
  unfold jk aP rC
  split<;>rfl
def YC{σ:St}(hW:WF σ){sb:Nat}{g:fP}(hs:ER (Lt σ.aj) σ.h sb g){p:Nat->Prop}{w1 w2 w3 L:B}{fA:List Ins.Lg}(hL:CS p σ.h L fA)(h1:w1.kn=true)(h2:w2.kn=true)(h3:w3.kn=true)(h0:0<fA.length){e c:Nat}(EO:ix fA 0=⟨.ofNat e,.ofNat c⟩)(he:e<g.e.length)(hc:c<kE g.e e)(hn:g.e.length<=1000)(hk:kE g.e e<=1000):
  aC EN 104 [.c (.ptr sb 0),.agg [w1,w2,w3,L]] σ λr σ'=>r=.c (.int .i64 (apH g e c))/\Fr σ σ':=by
 refine aN (kF.o _ _) kF.h ?_
 unfold kF
 dsimp only
 obtain⟨⟨ev,dvv,lv,bv,hsb,hg,-,-⟩,hsl⟩:=hs
 have hsl:sb<σ.aj:=hsl
 obtain⟨b5,o5,c5,rfl,C1,A1,bF,-,hC,hA1⟩:=hg.e.at he
 have hc':c<(ix g.e e).c.length:=hc
 obtain⟨b8,o8,c8,rfl,-,jO⟩:=bf.pos hC jb
 obtain⟨b6,o6,c6,rfl,-,cZ⟩:=bf.pos hL h0
 have cZ:=cZ 0 h0
 have jO:=jO c hc'
 unfold Ld at cZ
 rw[EO]at cZ
 unfold Uw at jO
 have l1:=Aq cZ 1 false jj jj
 have l2:=nY cZ 1 1 false jj jj
 have l3:=nY bF 3 1 false jj jj
 have l4:=Aq jO 1 false jj jj
 have m1:=hW.bU l1
 have m2:=hW.bU l3
 have m3:=hW.bU l4
 have hk':(ix g.e e).c.length<=1000:=hk
 have hFr:=Fr.refl hW
 simp(disch:=try exact jz) only[go_sem,z3,h1,h2,h3,ak hsb,l1,l2,l3,l4]
 exact⟨rfl,fr⟩
end Go.Proofs.Xe
