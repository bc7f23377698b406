import Derived.Test.YthkggcakedkboaaGreatDoorYa32
set_option linter.all false
set_option maxRecDepth 100000
set_option maxHeartbeats 8000000
namespace Go.Proofs.Xe
open Go.RowKit Go.Proofs.Ins
def Qo(W:Rat)(q r:Nat->Rat)(k:Nat):Rat:=nS W (aB (k+1) q) (aB (k+1) r)-nS W (aB k q) (aB k r)
def abo(W:Rat):nS W 0 0=0:=by grind[nS]
theorem Mc(W:Rat)(q r:Nat->Rat):∀m,aB m (Qo W q r)=nS W (aB m q) (aB m r)
 |0=>(abo W).symm
 |m+1=>by rw[aB,Mc W q r m];unfold Qo;grind
def SB{W:Rat}{q r:fC->Rat}{a:fC}(j:Nat):∀{t:List fC}{Q R:Rat},jk W q r Q R (nS W Q R) (t++[a]) j=jk W q r Q R (nS W Q R) t j+if a.1=j then nS W (Q+aI t q+q a) (R+aI t r+r a)-nS W (Q+aI t q) (R+aI t r)else 0
 |[],Q,R=>by show(if a.1=j then nS W (Q+q a) (R+r a)-nS W Q R else 0)+0=0+if a.1=j then nS W (Q+0+q a) (R+0+r a)-nS W (Q+0) (R+0)else 0;grind
 |b::t,Q,R=>by rw[gA];unfold jk;rw[SB];show _=_+if a.1=j then nS W (Q+(q b+aI t q)+q a) (R+(r b+aI t r)+r a)-nS W (Q+(q b+aI t q)) (R+(r b+aI t r))else 0;rw[show Q+(q b+aI t q)=Q+q b+aI t q by grind,show R+(r b+aI t r)=R+r b+aI t r by grind];grind
section
variable (g:fP) (x:Nat→Rat)
def KP(i c:Nat):Rat:=xQ (bW (ix g.e i)) (x i) c
def Pm(j i c:Nat):Rat:=if wI (aZ g) j i c then KP g x i c else 0
def Qp(i c j b:Nat):Rat:=if b<i then aB (kE g.e b) (Pm g x j b)else if b=i then aB c (Pm g x j i)else 0
def mgP(t j b:Nat):Rat:=aB (kE g.e b) (Pm g x j b)+aI ((aZ g).ds.take t) (dM (aZ g) x j b)
def JQ(t i:Nat)(u:Nat->Rat)(j b:Nat):Rat:=mgP g x t j b+if b<i then dM (aZ g) x j b (dW g t,dL g t)else if b=i then u j else 0
def SC(t i k j:Nat):Rat:=jk (dW g t) (gq (aZ g) x) (gs (aZ g) x i) 0 0 0 ((dL g t).take k) j
def SE(t k:Nat):Rat:=gq (aZ g) x (vN (ix (ix g.d t).l k))
def IY(t i k:Nat):Rat:=gs (aZ g) x i (vN (ix (ix g.d t).l k))
end
section
variable {g:fP} {x:Nat→Rat}
def ajJ:Qp g x 0 0=λ_ _=>0:=by funext j b;unfold Qp;rw[ae jb];split<;>rfl
def ajK(i:Nat):Qp g x i (kE g.e i)=Qp g x (i+1) 0:=by
 funext j b;unfold Qp;by_cases h:b<i
 .grind
 .rw[ae h];by_cases h2:b=i
  .grind
  .rw[ae h2,ae jb];split<;>rfl
def an0{i c hh:Nat}(hl:(aZ g).eY.contains (i,c)=false)(hk:apH g i c=(hh:Int)):rH (rC (Qp g x i c)) hh i (fE (Qp g x i c hh i+KP g x i c))=rC (Qp g x i (c+1)):=by
 funext j b;have ho:Pm g x j i c=if j=hh then KP g x i c else 0:=by unfold Pm wI;grind[aZ,apH]
 grind[rH,rC,Qp,aB]
def YD{i c:Nat}(h:(aZ g).eY.contains (i,c)=true\/apH g i c=-1):Qp g x i c=Qp g x i (c+1):=by
 funext j b;have ho:Pm g x j i c=0:=by unfold Pm wI;grind[aZ,apH]
 grind[Qp,aB]
def an1{n j b:Nat}(hb:b<n):Qp g x n 0 j b=mgP g x 0 j b:=by unfold Qp mgP;rw[ab hb,cE];exact(df _).symm
def ajL(t:Nat):mgP g x t=JQ g x t 0 λ_=>0:=by grind[JQ]
def Pn(t i:Nat):(JQ g x t i λj=>dM (aZ g) x j i (dW g t,dL g t))=JQ g x t (i+1) λ_=>0:=by grind[JQ]
theorem ajM{t j b:Nat}(h:t<g.d.length):mgP g x (t+1) j b=mgP g x t j b+dM (aZ g) x j b (dW g t,dL g t):=by grind[mgP,bC,xX,mM,O8]
def an2{t n j b:Nat}(h:t<g.d.length)(hb:b<n):JQ g x t n (λ_=>0) j b=mgP g x (t+1) j b:=by grind[ajM,JQ]
def an3{j b:Nat}:mgP g x g.d.length j b=gM g.e.length (aZ g) x j b:=by unfold mgP gM;rw[<-xX,bR];congr 1;refine aK λc _=>?_;unfold Pm;have e:gs (aZ g) x b (b,c)=KP g x b c:=ab rfl;rw[e]
def ajN(t i:Nat):(λ_:Nat=>(0:Rat))=SC g x t i 0:=by rfl
theorem JR(g:fP)(t:Nat):(dL g t).length=(ix g.d t).l.length:=cV _
theorem ajO{t k:Nat}(hk:k<(ix g.d t).l.length):ix (dL g t) k=vN (ix (ix g.d t).l k):=Ya vN hk
def Vp(f:fC->Rat){t m:Nat}(hm:m<=(ix g.d t).l.length):aB m (λk=>f (vN (ix (ix g.d t).l k)))=aI ((dL g t).take m) f:=by grind[O9,JR,aK,ajO]
def ajP{t i k j:Nat}(hk:k<(ix g.d t).l.length):SC g x t i (k+1) j=SC g x t i k j+if(vN (ix (ix g.d t).l k)).1=j then Qo (dW g t) (SE g x t) (IY g x t i) k else 0:=by unfold SC;rw[bC (by grind[JR]),ajO hk];have h:=SB (W:=dW g t) (q:=gq (aZ g) x) (r:=gs (aZ g) x i) (a:=vN (ix (ix g.d t).l k)) j (t:=(dL g t).take k) (Q:=0) (R:=0);rw[abo,ga,ga]at h;rw[h];unfold Qo;have e1:∀m,m<=(ix g.d t).l.length->aB m (SE g x t)=aI ((dL g t).take m) (gq (aZ g) x):=λm hm=>Vp (gq (aZ g) x) hm;have e2:∀m,m<=(ix g.d t).l.length->aB m (IY g x t i)=aI ((dL g t).take m) (gs (aZ g) x i):=λm hm=>Vp (gs (aZ g) x i) hm;rw[aB,aB,e1 k jb,e2 k jb];rfl
def an4{t i k e c:Nat}(hk:k<(ix g.d t).l.length)(EW:ix (ix g.d t).l k=⟨.ofNat e,.ofNat c⟩):rH (rC (JQ g x t i (SC g x t i k))) e i (fE (JQ g x t i (SC g x t i k) e i+Qo (dW g t) (SE g x t) (IY g x t i) k))=rC (JQ g x t i (SC g x t i (k+1))):=by funext j b;have h:=ajP (x:=x) (i:=i) (j:=j) hk;rw[EW]at h;have h:SC g x t i (k+1) j=SC g x t i k j+if e=j then Qo (dW g t) (SE g x t) (IY g x t i) k else 0:=h;grind[rH,rC,JQ]
theorem adn{t i:Nat}(j:Nat):dM (aZ g) x j i (dW g t,dL g t)=(if KL (aZ g) (dW g t,dL g t)=(j:Int)then aB (ix g.d t).l.length (IY g x t i)-aB (ix g.d t).l.length (Qo (dW g t) (SE g x t) (IY g x t i))else 0)+SC g x t i (ix g.d t).l.length j:=by unfold dM SC;have e1:aB (ix g.d t).l.length (SE g x t)=aI ((dL g t).take (ix g.d t).l.length) (gq (aZ g) x):=Vp (gq (aZ g) x) jp;have e2:aB (ix g.d t).l.length (IY g x t i)=aI ((dL g t).take (ix g.d t).l.length) (gs (aZ g) x i):=Vp (gs (aZ g) x i) jp;grind[Mc,JR]
def an5{t i hh:Nat}(hd:KL (aZ g) (dW g t,dL g t)=(hh:Int)):rH (rC (JQ g x t i (SC g x t i (ix g.d t).l.length))) hh i (fE (JQ g x t i (SC g x t i (ix g.d t).l.length) hh i+(aB (ix g.d t).l.length (IY g x t i)-aB (ix g.d t).l.length (Qo (dW g t) (SE g x t) (IY g x t i)))))=rC (JQ g x t i λj=>dM (aZ g) x j i (dW g t,dL g t)):=by grind[rH,rC,JQ,adn]
def YE{t i:Nat}(hd:KL (aZ g) (dW g t,dL g t)=-1):JQ g x t i (SC g x t i (ix g.d t).l.length)=JQ g x t i λj=>dM (aZ g) x j i (dW g t,dL g t):=by
 have e:SC g x t i (ix g.d t).l.length=λj=>dM (aZ g) x j i (dW g t,dL g t):=by grind[adn]
 rw[e]
end
structure Vq(D:Nat)(g:fP)(x:Nat->Rat):Prop where
 A:awp D g x
 r:∀i,i<g.e.length->ROk D (bW (ix g.e i)) (x i)
 s:∀i,i<g.e.length->∀c,c<kE g.e i->0<=KP g x i c/\Zk D 1 (KP g x i c)
def Vr{D:Nat}{W:Rat}{q r:fC->Rat}{j:Nat}:∀(t:List fC){Q R B:Rat}{K M:Nat},(∀a∈t,Zk D 1 (r a))->Zk D K R->Zk D K B->K+t.length<=M->Zk D (t.length*(2*M)) (jk W q r Q R B t j)
 |[],_,_,_,_,_,_,_,_,_=>Zk.zero.mono (bz _)
 |a::t,Q,R,B,K,M,hr,hR,hB,hM=>by
  rw[bX]at hM⊢;have ho:Zk D (K+1) (nS W (Q+q a) (R+r a)):=by
   unfold nS;split
   .exact hR.add (hr a kc)
   .exact Zk.zero.mono (bz _)
  have h1:=Vr (W:=W) (q:=q) (j:=j) (Q:=Q+q a) t (λb hb=>hr b (by simp[hb])) (hR.add (hr a kc)) ho (by omega:K+1+t.length<=M);rw[ck,fh];unfold jk;refine Zk.add ?_ h1;split
  .exact(ho.sub hB).mono jb
  .exact Zk.zero.mono (bz _)
section
variable {D:Nat} {g:fP} {x:Nat→Rat}
theorem Vq.gs(h:Vq D g x){t:Nat}(ht:t<g.d.length)(i:Nat):∀a∈dL g t,Zk D 1 (gs (aZ g) x i a)/\0<=gs (aZ g) x i a:=λa ha=>by
 obtain⟨y,hy,rfl⟩:=cC.mp ha;obtain⟨k,hk,rfl⟩:=aM hy;rw[<-dV hk];obtain⟨e,c,h1,h2,h3⟩:=(h.A.s.l t ht).2 k hk;rw[h1];unfold Ins.gs;obtain⟨h4,h5⟩:=h.s e h2 c h3;split
 .exact⟨h5,h4⟩
 .exact⟨Zk.zero.mono (bz _),be⟩
def Vq.own(h:Vq D g x){j b c:Nat}(hb:b<g.e.length)(hc:c<kE g.e b):Zk D 1 (Pm g x j b c):=by
 unfold Pm;split
 .exact(h.s b hb c hc).2
 .exact Zk.zero.mono (bz _)
def Vq.A'(h:Vq D g x){i c j b:Nat}(hb:b<g.e.length)(hc:b=i->c<=kE g.e b):Zk D 1000 (Qp g x i c j b):=by
 have hk:=h.A.s.k b hb;unfold Qp;split
 .exact(Zk.zC λc hc=>h.own hb hc).mono hk
 .split
  .next e=>
   subst e;exact(Zk.zC λc' hc'=>h.own hb jb).mono jb
  .exact Zk.zero.mono (bz _)
theorem Vq.dM(h:Vq D g x){t:Nat}(ht:t<g.d.length)(j i:Nat):Zk D 2002000 (dM (aZ g) x j i (dW g t,dL g t)):=by
 have hl:=(h.A.s.l t ht).1;have hlen:=JR g t;have hz:Zk D 1000 (aI (dL g t) (Ins.gs (aZ g) x i)):=(U6 λa ha=>(h.gs ht i a ha).1).mono jb;have hr:=Vr (W:=dW g t) (q:=gq (aZ g) x) (j:=j) (Q:=0) (K:=0) (M:=1000) (dL g t) (λa ha=>(h.gs ht i a ha).1) Zk.zero Zk.zero jb;unfold Ins.dM;refine Zk.mono (Zk.add (k:=2000) (l:=2000000) ?_ (hr.mono ?_)) jb
 .split
  .refine(hz.sub (l:=1000) ?_).mono jb;unfold nS;split
   .exact hz
   .exact Zk.zero.mono (bz _)
  .exact Zk.zero.mono (bz _)
 omega
def Vq.U(h:Vq D g x){t:Nat}(ht:t<g.d.length)(i k j:Nat):Zk D 2002000 (SC g x t i k j):=by have hl:=(h.A.s.l t ht).1;have hlen:=JR g t;have hr:=Vr (W:=dW g t) (q:=gq (aZ g) x) (j:=j) (Q:=0) (K:=0) (M:=1000) ((dL g t).take k) (λa ha=>(h.gs ht i a (ec ha)).1) Zk.zero Zk.zero kd;refine hr.mono ?_;grind
def Vq.P(h:Vq D g x){t j b:Nat}(ht:t<=g.d.length)(hb:b<g.e.length):Zk D 2002001000 (mgP g x t j b):=by
 have hk:=h.A.s.k b hb;have hd:=h.A.s.d;have h1:Zk D 1000 (aB (kE g.e b) (Pm g x j b)):=(Zk.zC λc hc=>h.own hb hc).mono hk;have h2:∀t,t<=g.d.length->Zk D (t*2002000) (aI ((aZ g).ds.take t) (Ins.dM (aZ g) x j b)):=λt=>by
  induction t with
  |zero=>intro _;exact Zk.zero.mono (bz _)
  |succ t ih=>
   intro ht
   rw[bC (by grind[xX]),mM,O8 ht,ck]
   exact(ih jb).add (h.dM ht j b)
 exact(h1.add (h2 t ht)).mono jb
def Vq.D'(h:Vq D g x){t i j b:Nat}{u:Nat->Rat}(ht:t<g.d.length)(hb:b<g.e.length)(hu:Zk D 2002000 (u j)):Zk D 2004003000 (JQ g x t i u j b):=by
 unfold JQ;refine Zk.mono (Zk.add (l:=2002000) (h.P (gx ht) hb) ?_) jb;split
 .exact h.dM ht j b
 .split
  .exact hu
  .exact Zk.zero.mono (bz _)
end
def SG{g:fP}{d k:Nat}(h:aat g d k=0):∃a b:Nat,ix (ix g.d d).l k=⟨.ofNat a,.ofNat b⟩/\a<g.e.length/\b<(ix g.e a).c.length/\nK (gK g.d d k) ⟨.ofNat a,.ofNat b⟩=false/\holdL g.e ⟨.ofNat a,.ofNat b⟩=holdL g.e (ix (ix g.d d).l 0):=by
 unfold aat at h;dsimp only at h;split at h
 .cases h
 .next h1=>
  split at h
  .cases h
  .next h2=>
   split at h
   .cases h
   .next h3=>
    generalize ix (ix g.d d).l k=x at*;obtain⟨xe,xk⟩:=x;dsimp only at h1;obtain⟨a,rfl⟩:=cn (show 0<=xe by omega);obtain⟨b,rfl⟩:=cn (show 0<=xk by omega);rw[gi]at h1;exact⟨a,b,rfl,jb,jb,by simpa using h2,by simpa using h3⟩
def abp{l:List uU}{d k:Nat}(hk:k<(ix l d).l.length):gK l d (k+1)=gK l d k++[ix (ix l d).l k]:=by unfold gK;rw[bC hk,gl]
def Po{l:List uU}{d:Nat}(hd:d<l.length):gK l d (ix l d).l.length=gK l (d+1) 0:=by unfold gK;rw[bR,cE,cW,bC hd,cK];simp
def SH{σ:St}(hW:WF σ){p:Nat->Prop}{ev dv:B}{g:fP}(hg:sS p σ.h ev dv g){a b:Nat}(ha:a<g.e.length)(hb:b<(ix g.e a).c.length)(hn:g.e.length<=1000)(hc:(ix g.e a).c.length<=1000):
  aC EN 92 [.agg [ev,dv],.agg [.int .i64 (.ofNat a),.int .i64 (.ofNat b)]] σ λr σ'=>r=.c (.int .i64 (holdL g.e ⟨.ofNat a,.ofNat b⟩))/\Fr σ σ':=by
 refine aN (pJ.o _ _) pJ.h ?_
 unfold pJ
 dsimp only
 have hdk:=hg.d.kn
 obtain⟨b5,o5,c5,rfl,C1,A1,bF,-,hC,hA1⟩:=hg.e.at ha
 obtain⟨b8,o8,c8,rfl,-,jO⟩:=aY.pos hC jb
 have jO:=jO b hb
 unfold Uy at jO
 have l3:=og bF 3 1 false jj jj
 have l4:=Aw jO 1 false jj jj
 have m2:=hW.bV l3
 have m3:=hW.bV l4
 have hFr:=Fr.refl hW
 simp(disch:=try exact jz) only[go_sem,z3,hdk,l3,l4]
 exact⟨rfl,fr⟩
def asY{σ:St}(hW:WF σ){p p':Nat->Prop}{ev dv:B}{g:fP}(hg:sS p σ.h ev dv g){d mb:Nat}(hp:∀b,p b->b<mb)(hp':∀b,p' b->b<mb){Lv:B}(hL:CX p' σ.h Lv (ix g.d d).l)(hm:σ.h mb=some ⟨Qj (gK g.d d 0),some (0,0)⟩)(hz:N7 g d=0)(hw:(ix g.d d).w.fits 1000000)(hn:g.e.length<=1000)(hc:∀i,i<g.e.length->(ix g.e i).c.length<=1000)(hl5:∀k,k<=(ix g.d d).l.length->(gK g.d d k).length<=500):
  aC EN 53 [.agg [ev,dv],.agg [.bool (ix g.d d).w.n,.str (ix g.d d).w.s,.str (ix g.d d).w.d,Lv],.c (.mp mb)] σ λr σ'=>r=.c (.int .i64 (.ofNat 0))/\σ'.h mb=some ⟨Qj (gK g.d d (ix g.d d).l.length),some (0,0)⟩/\aT [mb] σ σ':=by
 refine aN (mV.o _ _) mV.h ?_
 unfold mV
 dsimp only
 unfold N7 at hz
 split at hz
 .cases hz
 .next h1=>
  split at hz
  .cases hz
  .next h2=>
   have h3:=dY hz
   have hek:=hg.e.kn
   have hdk:=hg.d.kn
   have hLk:=aY.kn hL
   have hLl:=aY.len hL
   have hml:=hW.lt hm
   have hFr:=Fr.refl hW
   have hfit:=rF hw jj
   have hraw:rq (ix g.d d).w.n (ix g.d d).w.s (ix g.d d).w.d=(ix g.d d).w.q:=rfl
   have hsg:decide (sg (ix g.d d).w.q<Int.ofNat 0)=false:=ap h2
   have d1:decide ((Int.ofNat 8:Int)<Int.ofNat (ix g.d d).l.length)=false:=ap (by show¬((8:Int)<((ix g.d d).l.length:Int));omega)
   simp(disch:=try exact jz) only[go_sem,z3,hek,hdk,hLk,hLl,hsg,hraw,d1]
   refine aF (λq tm σ'=>∃k,q=(ix g.d d).l.length-k/\k<=(ix g.d d).l.length/\Tr.ah tm 2=.c (.mp mb)/\Tr.ah tm 3=.c (.ptr σ.aj 0)/\Tr.ah tm 4=.c (.ptr (σ.aj+1) 0)/\Tr.ah tm 20=.c Lv/\Tr.ah tm 21=.c (.int .i64 (.ofNat (ix g.d d).l.length))/\Tr.ah tm 22=.c (.int .i64 (.ofNat k))
    /\σ'.h mb=some ⟨Qj (gK g.d d k),some (0,0)⟩/\σ'.h σ.aj=some ⟨[ev,dv],none⟩/\σ'.h (σ.aj+1)=some ⟨[.bool (ix g.d d).w.n,.str (ix g.d d).w.s,.str (ix g.d d).w.d,Lv],none⟩/\aT [mb] σ σ'/\σ.aj+1+1<=σ'.aj) (ix g.d d).l.length ?_ ?_
   .refine⟨0,jb,jb,?_⟩
    simp(disch:=try exact jz) only[go_sem,z3,am]
    exact⟨hm,Fr.ex (fr) _,jp⟩
   .rintro q tm σ' ⟨k,rfl,hk,t2,t3,t4,t20,t21,t22,qm,q3,q4,hf,hnx⟩
    simp(disch:=try exact jz) only[go_sem,z3,t2,t3,t4,t20,t21,t22,aG]
    refine aH (λhlt=>?_) (λhlt=>?_)
    .obtain⟨a,b,ex,ha,hb,hh,hho⟩:=SG (h3 k hlt)
     obtain⟨a0,b0,ex0,ha0,hb0,-,-⟩:=SG (h3 0 jb)
     have hko:∀b,b<mb->σ'.h b=σ.h b:=λb hb=>hf.old b jb (by simp;omega)
     have hg':sS (Lt mb) σ'.h ev dv g:=hg.keep (λb hb=>hko b (hp b hb)) hp
     have hL':CX (Lt mb) σ'.h Lv (ix g.d d).l:=aY.keep hL (λb hb=>hko b (hp' b hb)) hp'
     obtain⟨b6,o6,c6,rfl,hb6,bZ⟩:=aY.pos hL' jb
     have YF:=bZ 0 jb
     have bZ:=bZ k hlt
     unfold Ll at bZ YF
     rw[ex]at bZ
     rw[ex0]at YF
     obtain⟨b5,o5,c5,rfl,C1,A1,bF,-,hC,-⟩:=hg'.e.at ha
     have hCl:=aY.len hC
     obtain⟨b8,o8,c8,rfl,-,-⟩:=aY.pos hC jb
     have l3:=og bF 3 1 false jj jj
     have m2:=hf.wf.bV l3
     have m6:=hf.wf.bV bZ
     have hnn:=hn
     have hca:=hc a ha
     have ayK:=hc a0 ha0
     have e1:decide (Int.ofNat a<Int.ofNat 0)=false:=ap (by show¬((a:Int)<0);omega)
     have e2:decide (Int.ofNat g.e.length<=Int.ofNat a)=false:=ap (by show¬((g.e.length:Int)<=(a:Int));omega)
     have e3:decide (Int.ofNat b<Int.ofNat 0)=false:=ap (by show¬((b:Int)<0);omega)
     have e4:decide (Int.ofNat (ix g.e a).c.length<=Int.ofNat b)=false:=ap (by show¬(((ix g.e a).c.length:Int)<=(b:Int));omega)
     have hle:=hf.le
     have jM:=Fr.refl hf.wf
     have hlm:=hf.wf.lt qm
     simp(disch:=try exact jz) only[go_sem,z3,t2,t3,t4,t20,t21,t22,bZ,YF,ak q3,ak q4,q3,q4,l3,hCl,e1,e2,e3,e4,qm,hh,hek,hdk]
     refine aC.st (Fr σ') (fr) λhF=>?_
     refine(SH hF.wf (hg'.fr hf.wf hF) ha hb hn hca).mono ?_
     rintro _ σ2 ⟨rfl,hf2⟩
     have hF2:=hF.trans hf2
     have q32:=hF2.get hf.wf q3
     have q42:=hF2.get hf.wf q4
     have q82:=hf2.get hF.wf (aA _ _ _)
     have ru:=hF2.ld hf.wf YF
     have abn:=Fr.refl hf2.wf
     simp(disch:=try exact jz) only[go_sem,z3,t2,t3,t4,ak q32,ak q42,ak q82,q32,q42,ru,hek,hdk]
     refine(SH hf2.wf (hg'.fr hf.wf hF2) ha0 hb0 hn ayK).mono ?_
     rintro _ σ3 ⟨rfl,hf3⟩
     have hF3:=hF2.trans hf3
     have q33:=hF3.get hf.wf q3
     have q43:=hF3.get hf.wf q4
     have q83:=hf3.get hf2.wf q82
     have qm3:=hF3.get hf.wf qm
     have pR:=hF3.ld hf.wf YF
     have hle3:=hF3.le
     rw[ex0]at hho
     have d5:decide (holdL g.e ⟨.ofNat a,.ofNat b⟩=holdL g.e ⟨.ofNat a0,.ofNat b0⟩)=true:=bh hho
     have az4:=hl5 k hk
     have azz:(ix g.d d).l.length<=8:=jb
     have hFE:aT [mb] σ σ3:=hf.trans (hF3.ex _)
     have az5:mb<σ3.aj:=jb
     simp(disch:=try exact jz) only[go_sem,z3,t2,t3,t4,t20,t21,t22,ak q33,ak q43,ak q83,q33,q43,q83,qm3,pR,d5]
     refine⟨(ix g.d d).l.length-(k+1),jb,k+1,rfl,jb,rfl,?_,by repeat(first|assumption|exact aT.refl (by assumption)|exact aT.up (by assumption) kf|exact aT.up (aT.refl (by assumption)) kf|refine aT.set1 ?_ kg kf|refine aT.kZ ?_ kg|refine aT.nJ ?_ kg|refine aT.oh ?_ kf),jb⟩
     rw[abp hlt,ex]
    .have:k=(ix g.d d).l.length:=jb
     subst this
     simp(disch:=try exact jz) only[go_sem,z3,am]
     exact⟨qm,hf⟩
def afM{g:fP}(h:F6 g=0):g.e.length<=8/\g.d.length<=16/\(∀i,i<g.e.length->EM (ix g.e i)=0)/\(∀i,i<g.e.length->∀k,k<(ix g.e i).c.length->(ix (ix g.e i).c k).h<(g.e.length:Int)/\(ix (ix g.e i).c k).h≠(i:Int))/\∀d,d<g.d.length->N7 g d=0:=by
 unfold F6 at h;split at h
 .cases h
 .split at h
  .next h2=>exact absurd h h2
  .split at h
   .next h3=>exact absurd h h3
   .next h1 h2 h3=>
    refine⟨jb,jb,dY (by simpa using h2),λi hi k hk=>?_,dY h⟩;have h3:F5 (λi=>F5 (Xn g i) (ix g.e i).c.length) g.e.length=0:=by simpa using h3
    have:=dY (dY h3 i hi) k hk;unfold Xn at this;split at this
    .cases this
    .next h4=>exact⟨jb,λe=>h4 (.inr e)⟩
def Pq{g:fP}(h:∀d,d<g.d.length->N7 g d=0):∀d k,d<=g.d.length->k<=8->(gK g.d d k).length<=8*d+k
 |0,k,_,hk=>by unfold gK;rw[cE,List.flatMap_nil,List.nil_append,cP];omega
 |d+1,k,hd,hk=>by
  have h1:=h d jb;have h2:(ix g.d d).l.length<=8:=by
   unfold N7 at h1;split at h1
   .cases h1
   .omega
  have h3:=Pq h d (ix g.d d).l.length jb h2;rw[Po jb]at h3;have:(gK g.d (d+1) k).length<=(gK g.d (d+1) 0).length+k:=by unfold gK;rw[aD,aD,cP,cP];omega
  omega
def ado{σ:St}(hW:WF σ){p:Nat->Prop}{ev dv:B}{g:fP}(hg:sS p σ.h ev dv g)(hz:F6 g=0){D:Nat}(hB:Yw D g)(hm:∀i,i<g.e.length->(ix g.e i).m.fits 1000000)(hw:∀d,d<g.d.length->(ix g.d d).w.fits 1000000):
  aC EN 30 [.agg [ev,dv]] σ λr σ'=>r=.c (.int .i64 (.ofNat 0))/\Fr σ σ':=by
 refine aN (qN.o _ _) qN.h ?_
 unfold qN
 dsimp only
 obtain⟨h1,h2,h3,h4,h5⟩:=afM hz
 have hek:=hg.e.kn
 have hdk:=hg.d.kn
 have hel:=hg.e.len
 have hdl:=hg.d.choose_spec.1.len
 have hFr:=Fr.refl hW
 have hg0:=hg.fr hW hFr
 have d1:decide ((Int.ofNat 8:Int)<Int.ofNat g.e.length)=false:=ap (by show¬((8:Int)<(g.e.length:Int));omega)
 have d2:decide ((Int.ofNat 16:Int)<Int.ofNat g.d.length)=false:=ap (by show¬((16:Int)<(g.d.length:Int));omega)
 have d0:decide ((0:Int)=Int.ofNat 0)=true:=rfl
 simp(disch:=try exact jz) only[go_sem,z3,hek,hdk,hel,hdl,d1,d2]
 refine bI.mono (Q:=λex tm σ'=>ex=.exit 0/\Tr.ah tm 1=.c (.ptr σ.aj 0)/\σ'.h σ.aj=some ⟨[ev,dv],none⟩/\Fr σ σ'/\σ.aj+1<=σ'.aj)
  (aF (λq tm σ'=>∃i,q=g.e.length-i/\i<=g.e.length/\Tr.ah tm 1=.c (.ptr σ.aj 0)/\Tr.ah tm 25=.c ev/\Tr.ah tm 26=.c (.int .i64 (.ofNat g.e.length))/\Tr.ah tm 27=.c (.int .i64 (.ofNat i))/\σ'.h σ.aj=some ⟨[ev,dv],none⟩/\Fr σ σ'/\σ.aj+1<=σ'.aj) g.e.length ?_ ?_) ?_
 .refine⟨0,jb,jb,?_⟩
  simp(disch:=try exact jz) only[go_sem,z3,am]
  exact⟨fr,jp⟩
 .rintro q tm σ' ⟨i,rfl,hi,t1,t25,t26,t27,q1,hf,hnx⟩
  simp(disch:=try exact jz) only[go_sem,z3,t1,t25,t26,t27,aG]
  refine aH (λhlt=>?_) (λhlt=>?_)
  .obtain⟨b5,o5,c5,rfl,C,A,hld,ayL,hC,hA⟩:=(hg.fr hW hf).e.at hlt
   have JJ:=aY.kn hC
   have hAk:=hA.kn
   have hE:=hB.e i hlt
   have hle:=hf.le
   have jM:=Fr.refl hf.wf
   simp(disch:=try exact jz) only[go_sem,z3,t1,t25,t26,t27,hld,JJ,hAk]
   refine aC.st (Fr σ') (fr) λhF=>?_
   have hg':=((hg.fr hW hf).fr hf.wf hF).e
   refine(av1 (p:=Lt σ.aj) hF.wf (aY.keep hC (λb hb=>hF.old b (by have:b<σ.aj:=hb;omega)) λ_ h=>h) (hA.keep (λb hb=>hF.old b (by have:b<σ.aj:=hb;omega)) λ_ h=>h) (h3 i hlt) (hm i hlt) hE.fc λj hj=>?_).mono ?_
   .have hL:=hE.a j hj
    refine⟨hL.na,hL.nf,λk hk=>?_,λt ht x hx=>(hL.p t ht x hx).1⟩
    obtain⟨t,ht,hx⟩:=List.mem_flatten.mp (iM hk)
    obtain⟨a,ha,rfl⟩:=aM ht
    obtain⟨l,hl,e⟩:=aM hx
    have:=hL.fp a ha l (by rw[dV ha];exact hl)
    rw[dV ha,dV hl,e]at this
    exact this
   rintro _ σ2 ⟨rfl,hf2⟩
   have hF2:=hF.trans hf2
   have q12:=hF2.get hf.wf q1
   have hle2:=hF2.le
   simp(disch:=try exact jz) only[go_sem,z3,t1,t25,t26,t27,d0]
   exact⟨g.e.length-(i+1),jb,i+1,rfl,jb,rfl,q12,hf.trans hF2,jb⟩
  .simp(disch:=try exact jz) only[go_sem,z3,am]
   exact⟨t1,q1,hf,hnx⟩
 .rintro _ Ib σ1 ⟨rfl,t1,q1,hf1,hn1⟩
  have hl1:=hf1.wf.lt q1
  have afy:=Fr.refl hf1.wf
  simp(disch:=try exact jz) only[go_sem,z3,t1,ak q1,hek,hdk,hel,hdl]
  refine bI.mono (Q:=λex tm σ'=>ex=.exit 2/\Tr.ah tm 1=.c (.ptr σ.aj 0)/\σ'.h σ.aj=some ⟨[ev,dv],none⟩/\Fr σ σ'/\σ.aj+1<=σ'.aj)
   (aF (λq tm σ'=>∃i,q=g.e.length-i/\i<=g.e.length/\Tr.ah tm 1=.c (.ptr σ.aj 0)/\Tr.ah tm 38=.c ev/\Tr.ah tm 39=.c (.int .i64 (.ofNat g.e.length))/\Tr.ah tm 40=.c (.int .i64 (.ofNat i))/\σ'.h σ.aj=some ⟨[ev,dv],none⟩/\Fr σ σ'/\σ.aj+1<=σ'.aj) g.e.length ?_ ?_) ?_
  .refine⟨0,jb,jb,?_⟩
   simp(disch:=try exact jz) only[go_sem,z3,t1,am]
   exact⟨q1,hf1,hn1⟩
  .rintro q tm σ' ⟨i,rfl,hi,t1,t38,t39,t40,q1,hf,hnx⟩
   simp(disch:=try exact jz) only[go_sem,z3,t1,t38,t39,t40,aG]
   refine aH (λhlt=>?_) (λhlt=>?_)
   .obtain⟨b5,o5,c5,rfl,C,A,hld,ayL,hC,hA⟩:=(hg.fr hW hf).e.at hlt
    have JJ:=aY.kn hC
    have hCl:=aY.len hC
    have hAk:=hA.kn
    have hle:=hf.le
    have jM:=Fr.refl hf.wf
    have hcn:=(hB.e i hlt).nc
    simp(disch:=try exact jz) only[go_sem,z3,t1,t38,t39,t40,hld,JJ,hAk,hCl]
    refine bI.mono (Q:=λex tm σ4=>ex=.exit 4/\Tr.ah tm 1=.c (.ptr σ.aj 0)/\Tr.ah tm 38=.c (.sl b5 o5 g.e.length c5)/\Tr.ah tm 39=.c (.int .i64 (.ofNat g.e.length))/\Tr.ah tm 40=.c (.int .i64 (.ofNat i))/\σ4.h σ.aj=some ⟨[.sl b5 o5 g.e.length c5,dv],none⟩/\Fr σ σ4/\σ.aj+1<=σ4.aj)
     (aF (λq tm σ4=>∃k,q=(ix g.e i).c.length-k/\k<=(ix g.e i).c.length/\Tr.ah tm 1=.c (.ptr σ.aj 0)/\Tr.ah tm 6=.c (.int .i64 (.ofNat i))/\Tr.ah tm 38=.c (.sl b5 o5 g.e.length c5)/\Tr.ah tm 39=.c (.int .i64 (.ofNat g.e.length))/\Tr.ah tm 40=.c (.int .i64 (.ofNat i))/\Tr.ah tm 46=.c C/\Tr.ah tm 47=.c (.int .i64 (.ofNat (ix g.e i).c.length))/\Tr.ah tm 48=.c (.int .i64 (.ofNat k))/\σ4.h σ.aj=some ⟨[.sl b5 o5 g.e.length c5,dv],none⟩/\Fr σ σ4/\σ.aj+1<=σ4.aj) (ix g.e i).c.length ?_ ?_) ?_
    .refine⟨0,jb,jb,?_⟩
     simp(disch:=try exact jz) only[go_sem,z3,t1,t38,t39,t40,am]
     exact⟨q1,fr,jb⟩
    .rintro q tm σ4 ⟨k,rfl,hk,t1,t6,t38,t39,t40,t46,t47,t48,Yy,hf4,hn4⟩
     simp(disch:=try exact jz) only[go_sem,z3,t1,t6,t38,t39,t40,t46,t47,t48,aG]
     refine aH (λhltk=>?_) (λhltk=>?_)
     .have hC4:=aY.keep (q:=Lt σ.aj) (h':=σ4.h) hC (λb hb=>by have hb:b<σ.aj:=hb;rw[hf4.old b hb,hf.old b hb]) λ_ h=>h
      obtain⟨b8,o8,c8,rfl,-,jO⟩:=aY.pos hC4 jb
      have jO:=jO k hltk
      unfold Uy at jO
      obtain⟨g1,g2⟩:=h4 i hlt k hltk
      have e1:decide ((ix (ix g.e i).c k).h=Int.ofNat i)=false:=ap g2
      have e2:decide (Int.ofNat g.e.length<=(ix (ix g.e i).c k).h)=false:=ap (by show¬((g.e.length:Int)<=_);omega)
      have hl4:=hf4.wf.lt Yy
      have ER:=Fr.refl hf4.wf
      have uO:=hf4.le
      simp(disch:=try exact jz) only[go_sem,z3,t1,t6,t38,t39,t40,t46,t47,t48,jO,e1,e2,ak Yy,Yy]
      exact⟨(ix g.e i).c.length-(k+1),jb,k+1,rfl,jb,rfl,fr,jb⟩
     .simp(disch:=try exact jz) only[go_sem,z3,am]
      exact⟨t1,t38,t39,t40,Yy,hf4,hn4⟩
    .rintro _ tm4 σ4 ⟨rfl,t1,t38,t39,t40,Yy,hf4,hn4⟩
     simp(disch:=try exact jz) only[go_sem,z3,t1,t38,t39,t40]
     exact⟨g.e.length-(i+1),jb,i+1,rfl,jb,rfl,Yy,hf4,hn4⟩
   .simp(disch:=try exact jz) only[go_sem,z3,am]
    exact⟨t1,q1,hf,hnx⟩
  .rintro _ VX σ2 ⟨rfl,t1,q1,hf2,hn2⟩
   have hl2:=hf2.wf.lt q1
   have hle2:=hf2.le
   have abn:=Fr.refl hf2.wf
   have hLz:gK g.d 0 0=[]:=by unfold gK;simp
   simp(disch:=try exact jz) only[go_sem,z3,t1,ak q1,q1,hek,hdk,hel,hdl]
   refine aF (λq tm σ'=>∃d,q=g.d.length-d/\d<=g.d.length/\Tr.ah tm 1=.c (.ptr σ.aj 0)/\Tr.ah tm 10=.c (.mp σ2.aj)/\Tr.ah tm 68=.c dv/\Tr.ah tm 69=.c (.int .i64 (.ofNat g.d.length))/\Tr.ah tm 70=.c (.int .i64 (.ofNat d))/\σ'.h σ.aj=some ⟨[ev,dv],none⟩/\σ'.h σ2.aj=some ⟨Qj (gK g.d d 0),some (0,0)⟩/\Fr σ σ'/\σ2.aj+1<=σ'.aj) g.d.length ?_ ?_
   .refine⟨0,jb,jb,?_⟩
    rw[hLz]
    simp(disch:=try exact jz) only[go_sem,z3,t1,am]
    exact⟨q1,rfl,fr,jp⟩
   .rintro q tm σ' ⟨d,rfl,hd,t1,t10,t68,t69,t70,q1,qm,hf,hnx⟩
    simp(disch:=try exact jz) only[go_sem,z3,t1,t10,t68,t69,t70,aG]
    refine aH (λhlt=>?_) (λhlt=>?_)
    .obtain⟨L,hD1,hD2⟩:=(hg.fr hW hf).d
     have hL0:=hD2 d hlt
     have hLk:=aY.kn hL0
     obtain⟨b5,o5,c5,rfl,hb5,hld⟩:=aY.pos hD1 jb
     have hld:=hld d hlt
     have hle:=hf.le
     have hl1:=hf.wf.lt q1
     have hlm:=hf.wf.lt qm
     have jM:=Fr.refl hf.wf
     simp(disch:=try exact jz) only[go_sem,z3,t1,t10,t68,t69,t70,hld,hLk,ak q1,q1,qm,hek]
     refine aC.st (Fr σ') (fr) λhF=>?_
     have hgF:=(hg.fr hW hf).fr hf.wf hF
     have hgF:sS (Lt σ.aj) _ ev (.sl b5 o5 g.d.length c5) g:=(hg.fr hW (hf.trans hF))
     have hLF:CX (Lt σ.aj) _ (L d) (ix g.d d).l:=aY.keep hL0 (λb hb=>hF.old b (by have:b<σ.aj:=hb;omega)) λ_ h=>h
     have h8:=Pq h5
     have hd8:(ix g.d d).l.length<=8:=by
      have:=h5 d hlt;unfold N7 at this;split at this
      .cases this
      .omega
     refine(asY hF.wf hgF (mb:=σ2.aj) (λb hb=>by have:b<σ.aj:=hb;omega) (λb hb=>by have:b<σ.aj:=hb;omega) hLF (hF.get hf.wf qm) (h5 d hlt) (hw d hlt) hB.n (λi hi=>(hB.e i hi).nc) λk hk=>by have:=h8 d k hd jb;omega).mono ?_
     rintro _ σ3 ⟨rfl,qm3,hf3⟩
     rw[Po hlt]at qm3
     have hle3:=hf3.le
     have az6:=hF.le
     have q13:σ3.h σ.aj=some ⟨[ev,.sl b5 o5 g.d.length c5],none⟩:=(hf3.old _ jb (by simp;omega)).trans (hF.get hf.wf q1)
     have hfx:Fr σ σ3:=⟨jb,hf3.wf,λb hb=>by rw[hf3.old b jb (by simp;omega)];exact(hf.trans hF).old b hb⟩
     simp(disch:=try exact jz) only[go_sem,z3,t1,t10,t68,t69,t70,d0]
     exact⟨g.d.length-(d+1),jb,d+1,rfl,jb,rfl,q13,qm3,hfx,jb⟩
    .simp(disch:=try exact jz) only[go_sem,z3,am]
     exact hf
structure asZ(A D:Nat)(g:fP)(x:Nat->Rat):Prop where
 a:BJ A
 B:Yw A g
 N:awp D g x
 s:aau 134217728 g
 z:F6 g=0
 x:∀i,i<g.e.length->0<=x i/\Sz (x i)
def ajQ{σ:St}(hW:WF σ){p p':Nat->Prop}{wn:Bool}{ws wd:ByteArray}{W:Rat}(hw:rq wn ws wd=W)(hws:ws.size+wd.size<=130000000){v w:B}{m:Nat}{q r:Nat->Rat}(hv:jC p σ.h v m q)(hr:jC p' σ.h w m r)(hm:m<=1000)(hq:∀k,k<m->0<=q k/\0<=r k)(h0:0<=W){D:Nat}(hD:BJ D)(hWz:Zk D 1 W)(hqz:∀k,k<m->Zk D 1 (q k)/\Zk D 1 (r k)):
  aC EN 103 [.agg [.bool wn,.str ws,.str wd],.c v,.c w] σ λx σ'=>Yu σ σ' x m (Qo W q r)/\Fr σ σ':=by
 refine aN (qU.o _ _) qU.h ?_
 unfold qU
 dsimp only
 have hlen:=aY.len hv
 have hlen2:=aY.len hr
 have hFr:=Fr.refl hW
 have hu:=ajA
 have hp:=λ(args:List V) (σ:St) (K:V->St->Prop)=>kT (E:=EN) (K:=K) (gY.o args σ) gY.h
 unfold gY at hp
 dsimp only at hp
 simp(disch:=try exact jz) only[go_sem,z3,hlen]
 refine aF (λx tm σ'=>∃k,x=m-k/\k<=m/\Tr.ah tm 2=.c w/\Tr.ah tm 3=.c (.ptr σ.aj 0)/\Tr.ah tm 7=.c (.sl (σ.aj+1) 0 m (.ex m))/\Tr.ah tm 8=.c (.ptr (σ.aj+1+1) 0)/\Tr.ah tm 9=.c (.ptr (σ.aj+1+1+1) 0)/\Tr.ah tm 10=.c (.ptr (σ.aj+1+1+1+1) 0)/\Tr.ah tm 20=.c v/\Tr.ah tm 21=.c (.int .i64 (.ofNat m))/\Tr.ah tm 22=.c (.int .i64 (.ofNat k))
  /\σ'.h σ.aj=some ⟨[.bool wn,.str ws,.str wd],none⟩/\σ'.h (σ.aj+1)=some ⟨cZ m (λi=>if i<k then Qo W q r i else 0),none⟩/\σ'.h (σ.aj+1+1)=some ⟨[.bool (rn (aB k q)),.str (rs (aB k q)),.str (rd (aB k q))],none⟩/\σ'.h (σ.aj+1+1+1)=some ⟨[.bool (rn (aB k r)),.str (rs (aB k r)),.str (rd (aB k r))],none⟩
  /\σ'.h (σ.aj+1+1+1+1)=some ⟨[.bool (rn (nS W (aB k q) (aB k r))),.str (rs (nS W (aB k q) (aB k r))),.str (rd (nS W (aB k q) (aB k r)))],none⟩/\Fr σ σ'/\σ.aj+1+1+1+1+1<=σ'.aj) m ?_ ?_
 .refine⟨0,jb,jb,?_⟩
  simp(disch:=try exact jz) only[go_sem,z3,am]
  refine⟨?_,rfl,rfl,?_,fr,jb⟩
  .rw[xW]
  .show _=some (Bk.mk [.bool (rn (nS W 0 0)),.str (rs (nS W 0 0)),.str (rd (nS W 0 0))] none)
   rw[abo]
 .rintro x tm σ' ⟨k,rfl,hk,t2,t3,t7,t8,t9,t10,t20,t21,t22,q3,q7,q8,q9,q10,hf,hnx⟩
  have hle:=hf.le
  simp(disch:=try exact jz) only[go_sem,z3,t2,t3,t7,t8,t9,t10,t20,t21,t22,aG]
  refine aH (λhlt=>?_) (λhlt=>?_)
  .obtain⟨b5,o5,c5,rfl,-,bF⟩:=aY.at3 hv hlt
   obtain⟨b6,o6,c6,rfl,-,bZ⟩:=aY.at3 hr hlt
   have hb6:=hW.bV bZ
   have bF:=hf.ld hW bF
   have bZ:=hf.ld hW bZ
   obtain⟨hqk,hrk⟩:=hq k hlt
   obtain⟨hzk,hyk⟩:=hqz k hlt
   have hzs:Zk D k (aB k q):=Zk.zC λi hi=>(hqz i jb).1
   have hys:Zk D k (aB k r):=Zk.zC λi hi=>(hqz i jb).2
   have z1:Sz (q k):=hzk.sz hD jb
   have y1:Sz (r k):=hyk.sz hD jb
   have z2:Sz (aB k q):=hzs.sz hD jb
   have y2:Sz (aB k r):=hys.sz hD jb
   have z4:Sz (aB k q+q k):=(hzs.add hzk).sz hD jb
   have y4:Sz (aB k r+r k):=(hys.add hyk).sz hD jb
   have z5:Sz W:=hWz.sz hD jb
   have z8:Sz (nS W (aB k q) (aB k r)):=by unfold nS;split;exact y2;exact Sz.zero
   have z9:=Sz.zero
   have z10:=Sz.zero.two
   have e1:oz (q k)=q k:=JM hqk
   have e3:oz (r k)=r k:=JM hrk
   have e2:oz W=W:=JM h0
   have jM:=Fr.refl hf.wf
   have hst:=rP m k (Qo W q r)
   simp(disch:=try exact jz) only[go_sem,z3,t2,t3,t7,t8,t9,t10,t20,t21,t22,bF,bZ,ak q3,ak q8,aJ q8,ak q9,aJ q9,ak q10,q3,q7,q8,q9,q10,Gj,e1,e2,e3,hw,hp,aG,hlt]
   refine aH (λhc=>?_) (λhc=>?_)
   .have hc:W<=aB k q+q k:=L6.mp hc
    have e5:nS W (aB (k+1) q) (aB (k+1) r)=aB k r+r k:=ab hc
    have e4:Qo W q r k=aB k r+r k-nS W (aB k q) (aB k r):=by unfold Qo;rw[e5]
    rw[e4]at hst
    simp(disch:=try exact jz) only[go_sem,z3,t2,t3,t7,t8,t9,t10,t20,t21,t22,q3,q7,q8,q9,ak q10,q10,aJ q10,aJ q7,hst]
    refine⟨m-(k+1),jb,k+1,rfl,jb,rfl,rfl,rfl,rfl,?_,fr,jb⟩
    rw[e5]
   .have hc:¬W<=aB k q+q k:=λh=>hc (L6.mpr h)
    have e5:nS W (aB (k+1) q) (aB (k+1) r)=0:=ae hc
    have e4:Qo W q r k=0-nS W (aB k q) (aB k r):=by unfold Qo;rw[e5]
    rw[e4]at hst
    simp(disch:=try exact jz) only[go_sem,z3,t2,t3,t7,t8,t9,t10,t20,t21,t22,q3,q7,q8,q9,ak q10,q10,aJ q10,aJ q7,hst]
    refine⟨m-(k+1),jb,k+1,rfl,jb,rfl,rfl,rfl,rfl,?_,fr,jb⟩
    rw[e5]
  .have:k=m:=jb
   subst this
   simp(disch:=try exact jz) only[go_sem,z3,t7]
   exact⟨⟨_,rfl,by rw[q7,yM],jb,jb⟩,hf⟩
structure oG(h:Tr Bk)(mb n:Nat)(C:Nat->Nat->List B)(bs:Nat->Nat)(lo hi:Nat):Prop where
 o:h mb=some ⟨ones n λi=>yc (λ_=>n) bs i,none⟩
 r:lM h n (λ_=>n) C bs lo hi
 b:mb<lo
 l:lo<=hi
def oG.keep{h h':Tr Bk}{mb n lo hi:Nat}{C:Nat->Nat->List B}{bs:Nat->Nat}(hM:oG h mb n C bs lo hi)(hh:∀b,mb<=b->b<hi->h' b=h b):oG h' mb n C bs lo hi:=
 ⟨by rw[hh _ jp (aL hM.b hM.l)];exact hM.o,hM.r.mono (λb h1 h2=>hh b (by have:=hM.b;omega) h2) jp jp,hM.b,hM.l⟩
theorem oG.fr{σ σ':St}(hf:Fr σ σ'){mb n lo hi:Nat}{C:Nat->Nat->List B}{bs:Nat->Nat}(hM:oG σ.h mb n C bs lo hi)(hn:hi<=σ.aj):oG σ'.h mb n C bs lo hi:=hM.keep λb _ hb=>hf.old b jb
def YG{σ:St}(hW:WF σ){n:Nat}(hn:n<=1000):
  aC EN 101 [.c (.int .i64 (.ofNat n))] σ λr σ'=>(∃bs,r=.c (.sl σ.aj 0 n (.ex n))/\oG σ'.h σ.aj n (rC λ_ _=>0) bs (σ.aj+1) σ'.aj)/\Fr σ σ':=by
 refine aN (qQ.o _ _) qQ.h ?_
 unfold qQ
 dsimp only
 have hFr:=Fr.refl hW
 simp(disch:=try exact jz) only[go_sem,z3]
 refine aF (λx tm σ'=>∃j bs,x=n-j/\j<=n/\Tr.ah tm 0=.c (.int .i64 (.ofNat n))/\Tr.ah tm 3=.c (.sl σ.aj 0 n (.ex n))/\Tr.ah tm 7=.c (.sl σ.aj 0 n (.ex n))/\Tr.ah tm 8=.c (.int .i64 (.ofNat n))/\Tr.ah tm 9=.c (.int .i64 (.ofNat j))
  /\σ'.h σ.aj=some ⟨ones n (λi=>if i<j then yc (λ_=>n) bs i else .aX),none⟩/\lM σ'.h j (λ_=>n) (rC λ_ _=>0) bs (σ.aj+1) σ'.aj/\Fr σ σ'/\σ.aj+1<=σ'.aj) n ?_ ?_
 .refine⟨0,λ_=>0,jb,jb,?_⟩
  simp(disch:=try exact jz) only[go_sem,z3,am]
  exact⟨by congr 2,lM.nil _ _ _ _ _ _,fr,jb⟩
 .rintro x tm σ' ⟨j,bs,rfl,hj,t0,t3,t7,t8,t9,q3,hR,hf,hnx⟩
  have hle:=hf.le
  simp(disch:=try exact jz) only[go_sem,z3,t0,t3,t7,t8,t9,aG]
  refine aH (λhlt=>?_) (λhlt=>?_)
  .have jM:=Fr.refl hf.wf
   simp(disch:=try exact jz) only[go_sem,z3,t0,t3,t7,t8,t9,q3,aJ q3]
   refine⟨n-(j+1),jb,j+1,aP bs j σ'.aj,rfl,jb,rfl,?_,?_,fr,jb⟩
   .refine cf (λl=>some (Bk.mk l none)) (dU λi hi=>?_)
    unfold aP yc
    dsimp only
    by_cases e:i=j
    .subst e;rw[ab rfl,ab jb,ab rfl]
    .rw[ae e]
     by_cases e2:i<j
     .rw[ab e2,ab jb,ae e]
     .rw[ae e2,ae jb]
   .refine hR.push (nb:=σ'.aj) ?_ rfl jp (cg _) jb λb h1 h2 _=>?_
    .rw[au _ _ _ _ jb,aA];rfl
    .rw[au _ _ _ _ jb,au _ _ _ _ jb]
  .have:j=n:=jb
   subst this
   simp(disch:=try exact jz) only[go_sem,z3,t3]
   refine⟨⟨bs,?_,hR,jb,jb⟩,hf⟩
   rw[q3]
   exact cf (λl=>some (Bk.mk l none)) (dU λi hi=>ab hi)
def abq{σ:St}(hW:WF σ){mb n lo hi:Nat}{M:Nat->Nat->Rat}{bs:Nat->Nat}(hM:oG σ.h mb n (rC M) bs lo hi)(hn:n<=1000)(hhi:hi<=σ.aj){j i:Nat}(hj:j<n)(hi1:i<n){q:Rat}(z1:Sz (M j i))(z2:Sz q):
  aC EN 102 [.c (.sl mb 0 n (.ex n)),.c (.int .i64 (.ofNat j)),.c (.int .i64 (.ofNat i)),.agg [.bool (rn q),.str (rs q),.str (rd q)]] σ λ_ σ'=>oG σ'.h mb n (rH (rC M) j i (fE (M j i+q))) bs lo hi/\aT [bs j] σ σ':=by
 refine aN (vC.o _ _) vC.h ?_
 unfold vC
 dsimp only
 obtain⟨q0,hR,hb,hl⟩:=hM
 obtain⟨q1,h1,h2⟩:=hR.r j hj
 have q1:σ.h (bs j)=some ⟨cZ n (M j),none⟩:=q1
 have hFr:=aT.refl (ex:=[bs j]) hW
 unfold yc at q0
 simp(disch:=try exact jz) only[go_sem,z3,ak q0,q0,ak q1,q1,aJ q1]
 refine⟨⟨?_,?_,hb,hl⟩,by repeat(first|assumption|exact aT.refl (by assumption)|exact aT.up (by assumption) kf|exact aT.up (aT.refl (by assumption)) kf|refine aT.set1 ?_ kg kf|refine aT.kZ ?_ kg|refine aT.nJ ?_ kg|refine aT.oh ?_ kf)⟩
 .rw[au _ _ _ _ jb,au _ _ _ _ jb];exact q0
 .refine lM.set (h:=hset σ.h σ.aj _) (hR.mono (λb _ hb=>au _ _ _ _ jb) jp jp) hj ?_
  refine bY λc _=>?_
  unfold ji aP rC
  split<;>rfl
def YH{σ:St}(hW:WF σ){sb:Nat}{g:fP}(hs:E5 (Lt σ.aj) σ.h sb g){p:Nat->Prop}{w1 w2 w3 L:B}{eY:List Ins.Lg}(hL:CX p σ.h L eY)(h1:w1.kn=true)(h2:w2.kn=true)(h3:w3.kn=true)(h0:0<eY.length){e c:Nat}(EW:ix eY 0=⟨.ofNat e,.ofNat c⟩)(he:e<g.e.length)(hc:c<kE g.e e)(hn:g.e.length<=1000)(hk:kE g.e e<=1000):
  aC EN 104 [.c (.ptr sb 0),.agg [w1,w2,w3,L]] σ λr σ'=>r=.c (.int .i64 (apH g e c))/\Fr σ σ':=by
 refine aN (kD.o _ _) kD.h ?_
 unfold kD
 dsimp only
 obtain⟨⟨ev,dvv,lv,bv,hsb,hg,-,-⟩,hsl⟩:=hs
 have hsl:sb<σ.aj:=hsl
 obtain⟨b5,o5,c5,rfl,C1,A1,bF,-,hC,hA1⟩:=hg.e.at he
 have hc':c<(ix g.e e).c.length:=hc
 obtain⟨b8,o8,c8,rfl,-,jO⟩:=aY.pos hC jb
 obtain⟨b6,o6,c6,rfl,-,bZ⟩:=aY.pos hL h0
 have bZ:=bZ 0 h0
 have jO:=jO c hc'
 unfold Ll at bZ
 rw[EW]at bZ
 unfold Uy at jO
 have l1:=Aw bZ 1 false jj jj
 have l2:=og bZ 1 1 false jj jj
 have l3:=og bF 3 1 false jj jj
 have l4:=Aw jO 1 false jj jj
 have m1:=hW.bV l1
 have m2:=hW.bV l3
 have m3:=hW.bV l4
 have hk':(ix g.e e).c.length<=1000:=hk
 have hFr:=Fr.refl hW
 simp(disch:=try exact jz) only[go_sem,z3,h1,h2,h3,ak hsb,l1,l2,l3,l4]
 exact⟨rfl,fr⟩
end Go.Proofs.Xe
