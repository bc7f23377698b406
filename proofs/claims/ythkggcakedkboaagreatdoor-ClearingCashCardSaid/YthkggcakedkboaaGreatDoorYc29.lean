import Derived.Test.YthkggcakedkboaaGreatDoorYc28
set_option linter.all false
set_option maxRecDepth 100000
set_option maxHeartbeats 8000000
namespace Go.Proofs.Xe
open Go.RowKit Go.Proofs.Ins
def PK(W:Rat)(q r:Nat->Rat)(k:Nat):Rat:=nN W (aB (k+1) q) (aB (k+1) r)-nN W (aB k q) (aB k r)
def aap(W:Rat):nN W 0 0=0:=by grind[nN]
theorem KU(W:Rat)(q r:Nat->Rat):∀m,aB m (PK W q r)=nN W (aB m q) (aB m r)
 |0=>(aap W).symm
 |m+1=>by rw[aB,KU W q r m];unfold PK;grind
def QT{W:Rat}{q r:fJ->Rat}{a:fJ}(j:Nat):∀{t:List fJ}{Q R:Rat},jd W q r Q R (nN W Q R) (t++[a]) j=jd W q r Q R (nN W Q R) t j+if a.1=j then nN W (Q+aJ t q+q a) (R+aJ t r+r a)-nN W (Q+aJ t q) (R+aJ t r)else 0
 |[],Q,R=>by show(if a.1=j then nN W (Q+q a) (R+r a)-nN W Q R else 0)+0=0+if a.1=j then nN W (Q+0+q a) (R+0+r a)-nN W (Q+0) (R+0)else 0;grind
 |b::t,Q,R=>by rw[gl];unfold jd;rw[QT];show _=_+if a.1=j then nN W (Q+(q b+aJ t q)+q a) (R+(r b+aJ t r)+r a)-nN W (Q+(q b+aJ t q)) (R+(r b+aJ t r))else 0;rw[show Q+(q b+aJ t q)=Q+q b+aJ t q by grind,show R+(r b+aJ t r)=R+r b+aJ t r by grind];grind
section
variable (g:iJ) (x:Nat→Rat)
def JY(i c:Nat):Rat:=wY (dI (ix g.e i)) (x i) c
def Ov(j i c:Nat):Rat:=if vK (bC g) j i c then JY g x i c else 0
def PL(i c j b:Nat):Rat:=if b<i then aB (kE g.e b) (Ov g x j b)else if b=i then aB c (Ov g x j i)else 0
def mgP(t j b:Nat):Rat:=aB (kE g.e b) (Ov g x j b)+aJ ((bC g).ds.take t) (dM (bC g) x j b)
def Ji(t i:Nat)(u:Nat->Rat)(j b:Nat):Rat:=mgP g x t j b+if b<i then dM (bC g) x j b (dW g t,dL g t)else if b=i then u j else 0
def QU(t i k j:Nat):Rat:=jd (dW g t) (gq (bC g) x) (gs (bC g) x i) 0 0 0 ((dL g t).take k) j
def QW(t k:Nat):Rat:=gq (bC g) x (zH (ix (ix g.d t).l k))
def Ih(t i k:Nat):Rat:=gs (bC g) x i (zH (ix (ix g.d t).l k))
end
section
variable {g:iJ} {x:Nat→Rat}
def aip:PL g x 0 0=λ_ _=>0:=by funext j b;unfold PL;rw[ae jb];split<;>rfl
def aiq(i:Nat):PL g x i (kE g.e i)=PL g x (i+1) 0:=by
 funext j b;unfold PL;by_cases h:b<i
 .grind
 .rw[ae h];by_cases h2:b=i
  .grind
  .rw[ae h2,ae jb];split<;>rfl
def amD{i c hh:Nat}(hl:(bC g).fA.contains (i,c)=false)(hk:apH g i c=(hh:Int)):qP (rC (PL g x i c)) hh i (gX (PL g x i c hh i+JY g x i c))=rC (PL g x i (c+1)):=by
 funext j b;have ho:Ov g x j i c=if j=hh then JY g x i c else 0:=by unfold Ov vK;grind[bC,apH]
 grind[qP,rC,PL,aB]
def XA{i c:Nat}(h:(bC g).fA.contains (i,c)=true\/apH g i c=-1):PL g x i c=PL g x i (c+1):=by
 funext j b;have ho:Ov g x j i c=0:=by unfold Ov vK;grind[bC,apH]
 grind[PL,aB]
def amE{n j b:Nat}(hb:b<n):PL g x n 0 j b=mgP g x 0 j b:=by unfold PL mgP;rw[ab hb,cF];exact(dE _).symm
def air(t:Nat):mgP g x t=Ji g x t 0 λ_=>0:=by grind[Ji]
def Ox(t i:Nat):(Ji g x t i λj=>dM (bC g) x j i (dW g t,dL g t))=Ji g x t (i+1) λ_=>0:=by grind[Ji]
theorem ais{t j b:Nat}(h:t<g.d.length):mgP g x (t+1) j b=mgP g x t j b+dM (bC g) x j b (dW g t,dL g t):=by grind[mgP,bH,xw,lZ,Om]
def amF{t n j b:Nat}(h:t<g.d.length)(hb:b<n):Ji g x t n (λ_=>0) j b=mgP g x (t+1) j b:=by grind[ais,Ji]
def amG{j b:Nat}:mgP g x g.d.length j b=gM g.e.length (bC g) x j b:=by unfold mgP gM;rw[<-xw,cg];congr 1;refine aO λc _=>?_;unfold Ov;have e:gs (bC g) x b (b,c)=JY g x b c:=ab rfl;rw[e]
def ait(t i:Nat):(λ_:Nat=>(0:Rat))=QU g x t i 0:=by rfl
theorem Jj(g:iJ)(t:Nat):(dL g t).length=(ix g.d t).l.length:=cP _
theorem aiu{t k:Nat}(hk:k<(ix g.d t).l.length):ix (dL g t) k=zH (ix (ix g.d t).l k):=Xk zH hk
def UC(f:fJ->Rat){t m:Nat}(hm:m<=(ix g.d t).l.length):aB m (λk=>f (zH (ix (ix g.d t).l k)))=aJ ((dL g t).take m) f:=by grind[Oo,Jj,aO,aiu]
def aiv{t i k j:Nat}(hk:k<(ix g.d t).l.length):QU g x t i (k+1) j=QU g x t i k j+if(zH (ix (ix g.d t).l k)).1=j then PK (dW g t) (QW g x t) (Ih g x t i) k else 0:=by unfold QU;rw[bH (by grind[Jj]),aiu hk];have h:=QT (W:=dW g t) (q:=gq (bC g) x) (r:=gs (bC g) x i) (a:=zH (ix (ix g.d t).l k)) j (t:=(dL g t).take k) (Q:=0) (R:=0);rw[aap,gn,gn]at h;rw[h];unfold PK;have e1:∀m,m<=(ix g.d t).l.length->aB m (QW g x t)=aJ ((dL g t).take m) (gq (bC g) x):=λm hm=>UC (gq (bC g) x) hm;have e2:∀m,m<=(ix g.d t).l.length->aB m (Ih g x t i)=aJ ((dL g t).take m) (gs (bC g) x i):=λm hm=>UC (gs (bC g) x i) hm;rw[aB,aB,e1 k jb,e2 k jb];rfl
def amH{t i k e c:Nat}(hk:k<(ix g.d t).l.length)(Es:ix (ix g.d t).l k=⟨.ofNat e,.ofNat c⟩):qP (rC (Ji g x t i (QU g x t i k))) e i (gX (Ji g x t i (QU g x t i k) e i+PK (dW g t) (QW g x t) (Ih g x t i) k))=rC (Ji g x t i (QU g x t i (k+1))):=by funext j b;have h:=aiv (x:=x) (i:=i) (j:=j) hk;rw[Es]at h;have h:QU g x t i (k+1) j=QU g x t i k j+if e=j then PK (dW g t) (QW g x t) (Ih g x t i) k else 0:=h;grind[qP,rC,Ji]
theorem ab7{t i:Nat}(j:Nat):dM (bC g) x j i (dW g t,dL g t)=(if Po (bC g) (dW g t,dL g t)=(j:Int)then aB (ix g.d t).l.length (Ih g x t i)-aB (ix g.d t).l.length (PK (dW g t) (QW g x t) (Ih g x t i))else 0)+QU g x t i (ix g.d t).l.length j:=by unfold dM QU;have e1:aB (ix g.d t).l.length (QW g x t)=aJ ((dL g t).take (ix g.d t).l.length) (gq (bC g) x):=UC (gq (bC g) x) jp;have e2:aB (ix g.d t).l.length (Ih g x t i)=aJ ((dL g t).take (ix g.d t).l.length) (gs (bC g) x i):=UC (gs (bC g) x i) jp;grind[KU,Jj]
def amI{t i hh:Nat}(hd:Po (bC g) (dW g t,dL g t)=(hh:Int)):qP (rC (Ji g x t i (QU g x t i (ix g.d t).l.length))) hh i (gX (Ji g x t i (QU g x t i (ix g.d t).l.length) hh i+(aB (ix g.d t).l.length (Ih g x t i)-aB (ix g.d t).l.length (PK (dW g t) (QW g x t) (Ih g x t i)))))=rC (Ji g x t i λj=>dM (bC g) x j i (dW g t,dL g t)):=by grind[qP,rC,Ji,ab7]
def XB{t i:Nat}(hd:Po (bC g) (dW g t,dL g t)=-1):Ji g x t i (QU g x t i (ix g.d t).l.length)=Ji g x t i λj=>dM (bC g) x j i (dW g t,dL g t):=by
 have e:QU g x t i (ix g.d t).l.length=λj=>dM (bC g) x j i (dW g t,dL g t):=by grind[ab7]
 rw[e]
end
structure UD(D:Nat)(g:iJ)(x:Nat->Rat):Prop where
 A:auV D g x
 r:∀i,i<g.e.length->ROk D (dI (ix g.e i)) (x i)
 s:∀i,i<g.e.length->∀c,c<kE g.e i->0<=JY g x i c/\Zk D 1 (JY g x i c)
def UE{D:Nat}{W:Rat}{q r:fJ->Rat}{j:Nat}:∀(t:List fJ){Q R B:Rat}{K M:Nat},(∀a∈t,Zk D 1 (r a))->Zk D K R->Zk D K B->K+t.length<=M->Zk D (t.length*(2*M)) (jd W q r Q R B t j)
 |[],_,_,_,_,_,_,_,_,_=>Zk.zero.mono (bp _)
 |a::t,Q,R,B,K,M,hr,hR,hB,hM=>by
  rw[bN]at hM⊢;have ho:Zk D (K+1) (nN W (Q+q a) (R+r a)):=by
   unfold nN;split
   .exact hR.add (hr a kc)
   .exact Zk.zero.mono (bp _)
  have h1:=UE (W:=W) (q:=q) (j:=j) (Q:=Q+q a) t (λb hb=>hr b (by simp[hb])) (hR.add (hr a kc)) ho (by omega:K+1+t.length<=M);rw[cw,eL];unfold jd;refine Zk.add ?_ h1;split
  .exact(ho.sub hB).mono jb
  .exact Zk.zero.mono (bp _)
section
variable {D:Nat} {g:iJ} {x:Nat→Rat}
theorem UD.gs(h:UD D g x){t:Nat}(ht:t<g.d.length)(i:Nat):∀a∈dL g t,Zk D 1 (gs (bC g) x i a)/\0<=gs (bC g) x i a:=λa ha=>by
 obtain⟨y,hy,rfl⟩:=cQ.mp ha;obtain⟨k,hk,rfl⟩:=aM hy;rw[<-eY hk];obtain⟨e,c,h1,h2,h3⟩:=(h.A.s.l t ht).2 k hk;rw[h1];unfold Ins.gs;obtain⟨h4,h5⟩:=h.s e h2 c h3;split
 .exact⟨h5,h4⟩
 .exact⟨Zk.zero.mono (bp _),be⟩
def UD.own(h:UD D g x){j b c:Nat}(hb:b<g.e.length)(hc:c<kE g.e b):Zk D 1 (Ov g x j b c):=by
 unfold Ov;split
 .exact(h.s b hb c hc).2
 .exact Zk.zero.mono (bp _)
def UD.A'(h:UD D g x){i c j b:Nat}(hb:b<g.e.length)(hc:b=i->c<=kE g.e b):Zk D 1000 (PL g x i c j b):=by
 have hk:=h.A.s.k b hb;unfold PL;split
 .exact(Zk.zJ λc hc=>h.own hb hc).mono hk
 .split
  .next e=>
   subst e;exact(Zk.zJ λc' hc'=>h.own hb jb).mono jb
  .exact Zk.zero.mono (bp _)
theorem UD.dM(h:UD D g x){t:Nat}(ht:t<g.d.length)(j i:Nat):Zk D 2002000 (dM (bC g) x j i (dW g t,dL g t)):=by
 have hl:=(h.A.s.l t ht).1;have hlen:=Jj g t;have hz:Zk D 1000 (aJ (dL g t) (Ins.gs (bC g) x i)):=(Ui λa ha=>(h.gs ht i a ha).1).mono jb;have hr:=UE (W:=dW g t) (q:=gq (bC g) x) (j:=j) (Q:=0) (K:=0) (M:=1000) (dL g t) (λa ha=>(h.gs ht i a ha).1) Zk.zero Zk.zero jb;unfold Ins.dM;refine Zk.mono (Zk.add (k:=2000) (l:=2000000) ?_ (hr.mono ?_)) jb
 .split
  .refine(hz.sub (l:=1000) ?_).mono jb;unfold nN;split
   .exact hz
   .exact Zk.zero.mono (bp _)
  .exact Zk.zero.mono (bp _)
 omega
def UD.U(h:UD D g x){t:Nat}(ht:t<g.d.length)(i k j:Nat):Zk D 2002000 (QU g x t i k j):=by have hl:=(h.A.s.l t ht).1;have hlen:=Jj g t;have hr:=UE (W:=dW g t) (q:=gq (bC g) x) (j:=j) (Q:=0) (K:=0) (M:=1000) ((dL g t).take k) (λa ha=>(h.gs ht i a (dT ha)).1) Zk.zero Zk.zero kd;refine hr.mono ?_;grind
def UD.P(h:UD D g x){t j b:Nat}(ht:t<=g.d.length)(hb:b<g.e.length):Zk D 2002001000 (mgP g x t j b):=by
 have hk:=h.A.s.k b hb;have hd:=h.A.s.d;have h1:Zk D 1000 (aB (kE g.e b) (Ov g x j b)):=(Zk.zJ λc hc=>h.own hb hc).mono hk;have h2:∀t,t<=g.d.length->Zk D (t*2002000) (aJ ((bC g).ds.take t) (Ins.dM (bC g) x j b)):=λt=>by
  induction t with
  |zero=>intro _;exact Zk.zero.mono (bp _)
  |succ t ih=>
   intro ht
   rw[bH (by grind[xw]),lZ,Om ht,cw]
   exact(ih jb).add (h.dM ht j b)
 exact(h1.add (h2 t ht)).mono jb
def UD.D'(h:UD D g x){t i j b:Nat}{u:Nat->Rat}(ht:t<g.d.length)(hb:b<g.e.length)(hu:Zk D 2002000 (u j)):Zk D 2004003000 (Ji g x t i u j b):=by
 unfold Ji;refine Zk.mono (Zk.add (l:=2002000) (h.P (gT ht) hb) ?_) jb;split
 .exact h.dM ht j b
 .split
  .exact hu
  .exact Zk.zero.mono (bp _)
end
def aew{n:Nat}{tk:Int->Bool}{x:yQ}(h:Zj n tk x=0):(x.k=Int.negSucc 0/\x.b=true\/∃c:Nat,c<n/\x.k=Int.ofNat c/\tk x.k=false)/\(x.b=true->¬sg x.a.q<0):=by
 unfold Zj at h;split at h
 .cases h
 .split at h
  .cases h
  .split at h
   .cases h
   .split at h
    .cases h
    .next h1 h2 h3 h4=>
     refine⟨?_,λhb hs=>h3 ⟨hb,hs⟩⟩;by_cases e:x.k=-1
     .refine .inl ⟨e,?_⟩;cases hb:x.b with
      |true=>rfl
      |false=>exact absurd ⟨e,hb⟩ h2
     .obtain⟨c,hc⟩:=cj (show 0<=x.k by omega);refine .inr ⟨c,jb,hc,?_⟩;cases ht:tk x.k with
      |false=>rfl
      |true=>exact absurd ⟨e,ht⟩ h4
def aex{n:Nat}{tk:Int->Bool}{a:gB}(h:V7 n tk a=0):(a.length<=24/\∀i,i<a.length->(ix a i).length<=24)/\∀k,k<a.flatten.length->Zj n tk (ix a.flatten k)=0:=by
 unfold V7 at h;split at h
 .cases h
 .next h1=>
  refine⟨Cb.mp (by simpa using h1),λk hk=>?_⟩;obtain⟨t,ht,hx⟩:=List.mem_flatten.mp (lC hk);obtain⟨i,hi,rfl⟩:=aM ht;obtain⟨j,hj,e⟩:=aM hx;have:=iI (iI h i hi) j (by rw[eY hi];exact hj);rw[eY hi,eY hj,e]at this;exact this
def aey{σ:St}(hW:WF σ){p:Nat->Prop}{v:B}{n:Nat}{T:Nat->B}(hv:aZ p σ.h 1 v n λi=>[T i])(hT:∀i,i<n->∃k:Nat,lenV (.c (T i))=some (.c (.int .i64 (.ofNat k)))/\k<=24)(hn:n<=1000):
  aC EN 171 [.c v,.fn 132 []] σ λr σ'=>r=.c (.int .i64 (.negSucc 0))/\Fr σ σ':=by
 refine aQ (fH.o _ _) fH.h ?_
 unfold fH
 dsimp only
 have hlen:=aZ.len hv
 have hc:=λ(args:List V) (σ:St) (K:V->St->Prop)=>jY (E:=EN) (K:=K) (iQ.o args σ) iQ.h
 unfold iQ at hc
 dsimp only at hc
 simp(disch:=try exact jz) only[go_sem,z3,hlen]
 refine aF (λq tm σ'=>∃j,q=n-j/\j<=n/\Tr.ah tm 0=.c v/\Tr.ah tm 1=.fn 132 []/\Tr.ah tm 7=.c (.int .i64 (.ofNat n))/\Tr.ah tm 8=.c (.int .i64 (.ofNat j))/\Fr σ σ') n ?_ ?_
 .refine⟨0,jb,jb,?_⟩
  simp(disch:=try exact jz) only[go_sem,z3,am]
  exact Fr.refl hW
 .rintro q tm σ' ⟨j,rfl,hj,t0,t1,t7,t8,hf⟩
  simp(disch:=try exact jz) only[go_sem,z3,t0,t1,t7,t8,aG]
  refine aH (λhlt=>?_) (λhlt=>?_)
  .obtain⟨b,o,c,rfl,hld⟩:=HL.one (aZ.hl hv) jb
   have hld:=hf.ld hW (hld j hlt)
   obtain⟨k,hk,hk2⟩:=hT j hlt
   have hd:decide ((Int.ofNat 24:Int)<Int.ofNat k)=false:=az (by show¬((24:Int)<(k:Int));omega)
   simp(disch:=try exact jz) only[go_sem,z3,t0,t1,t7,t8,hld,hc,hk,hd]
   exact⟨n-(j+1),jb,j+1,rfl,jb,rfl,hf⟩
  .have:j=n:=jb
   subst this
   simp(disch:=try exact jz) only[go_sem,z3,t0]
   exact hf
def aix{E:Env}[Zp E]{σ:St}(hW:WF σ){p:Nat->Prop}{v:B}{a:gB}(ha:dV p σ.h v a)(h1:a.length<=1000000)(h2:a.flatten.length<=1000000):
  aC E 133 [.c v] σ λr σ'=>(∃u,r=.c u/\Cc (Lt σ'.aj) σ'.h u a.flatten)/\Fr σ σ':=by
 by_cases h0:a.flatten.length=0
 .rw[Xm ha h1 h2 (v':=.c .aW) (σ':=σ) (ab h0)]
  exact⟨⟨_,rfl,.inl ⟨h0,rfl⟩⟩,Fr.refl hW⟩
 .rw[Xm ha h1 h2 (ae h0)]
  exact⟨⟨_,rfl,bf _ (aA _ _ _) (BU _ _ jj) (bY _) (λ_=>rfl) jj λ_ _=>rfl⟩,fr⟩
def auW{σ:St}(hW:WF σ){p:Nat->Prop}{v tv:B}{a:gB}{nc:Nat}{tk:Int->Bool}(ha:dV p σ.h v a)(ht:HL σ.h 1 tv nc λi=>[.bool (tk (Int.ofNat i))])(hn:nc<=1000)(hz:V7 nc tk a=0)(hnf:a.flatten.length<=1000000)(hfp:∀k,k<a.flatten.length->(ix a.flatten k).a.fits 1000000):
  aC EN 90 [.agg [v],.c tv] σ λr σ'=>r=.c (.int .i64 (.ofNat 0))/\Fr σ σ':=by
 refine aQ (jh.o _ _) jh.h ?_
 unfold jh
 dsimp only
 obtain⟨⟨hl,hlt⟩,hc0⟩:=aex hz
 have ha':=ha
 obtain⟨T,hT,hP⟩:=ha'
 have hvk:=hT.kn
 have hvl:=aZ.len hT
 have htk:=ht.kn
 have htl:=ht.len
 have hFr:=Fr.refl hW
 have hd:decide ((Int.ofNat 24:Int)<Int.ofNat a.length)=false:=az (by show¬((24:Int)<(a.length:Int));omega)
 have hcf:=λ(args:List V) (σ:St) (K:V->St->Prop)=>jY (E:=EN) (K:=K) (dX.o args σ) dX.h
 unfold dX at hcf
 dsimp only at hcf
 simp(disch:=try exact jz) only[go_sem,z3,hvk,hvl,htk,hd,hcf]
 refine aC.st (Fr σ) (fr) λhF=>?_
 refine(aey hF.wf (aZ.fr hW hF hT) (λi hi=>⟨_,aZ.len (hP i hi),hlt i hi⟩) jb).mono ?_
 rintro _ σ2 ⟨rfl,hf2⟩
 have hF2:=hF.trans hf2
 have q2:=hf2.get hF.wf (aA _ _ _)
 simp(disch:=try exact jz) only[go_sem,z3,show(Int.ofNat 0<=Int.negSucc 0)=False from propext ⟨λh=>absurd h jj,False.elim⟩,ak q2,hvk]
 refine(aix hf2.wf (ha.fr hW hF2) jb hnf).mono ?_
 rintro _ σ3 ⟨⟨u,rfl,hu⟩,hf3⟩
 have hF3:=hF2.trans hf3
 have hul:=aZ.len hu
 have huk:=aZ.kn hu
 generalize a.flatten=l at*
 simp(disch:=try exact jz) only[go_sem,z3,hul,huk]
 refine aF (λq tm σ'=>∃j,q=l.length-j/\j<=l.length/\Tr.ah tm 1=.c tv/\Tr.ah tm 19=.c u/\Tr.ah tm 20=.c (.int .i64 (.ofNat l.length))/\Tr.ah tm 21=.c (.int .i64 (.ofNat j))/\Fr σ3 σ') l.length ?_ ?_
 .refine⟨0,jb,jb,?_⟩
  simp(disch:=try exact jz) only[go_sem,z3,am]
  exact Fr.refl hf3.wf
 .rintro q tm σ' ⟨j,rfl,hj,t1,t19,t20,t21,hf⟩
  simp(disch:=try exact jz) only[go_sem,z3,t1,t19,t20,t21,aG]
  refine aH (λhlt=>?_) (λhlt=>?_)
  .obtain⟨b,o,c,rfl,-,hld⟩:=aZ.pos hu jb
   have hld:=hf.ld hf3.wf (hld j hlt)
   unfold Ba at hld
   obtain⟨h1,h2⟩:=aew (hc0 j hlt)
   have hfit:=qO (hfp j hlt) jj
   have hraw:rq (ix l j).a.n (ix l j).a.s (ix l j).a.d=(ix l j).a.q:=rfl
   have hle:=hf.le
   have kM:=Fr.refl hf.wf
   rcases h1 with⟨e1,e2⟩|⟨k,hk,e1,e2⟩
   .rw[e1,e2]at hld
    have hsg:decide (sg (ix l j).a.q<Int.ofNat 0)=false:=az (h2 e2)
    simp(disch:=try exact jz) only[go_sem,z3,t1,t19,t20,t21,hld,hsg,hraw]
    exact⟨l.length-(j+1),jb,j+1,rfl,jb,rfl,fr⟩
   .rw[e1]at hld e2
    obtain⟨b2,o2,c2,rfl,Em⟩:=HL.one ht jb
    have Em:=(hF3.trans hf).ld hW (Em k hk)
    have hb2:=hf.wf.dF Em
    rw[e2]at Em
    have d1:decide (Int.ofNat k=Int.negSucc 0)=false:=rfl
    have d2:decide (Int.ofNat k<Int.ofNat 0)=false:=az (by show¬((k:Int)<0);omega)
    have d3:decide (Int.ofNat nc<=Int.ofNat k)=false:=az (by show¬((nc:Int)<=(k:Int));omega)
    cases hb:(ix l j).b with
    |true=>
     rw[hb]at hld
     have hsg:decide (sg (ix l j).a.q<Int.ofNat 0)=false:=az (h2 hb)
     simp(disch:=try exact jz) only[go_sem,z3,t1,t19,t20,t21,hld,hsg,hraw,d1,d2,d3,htl,Em]
     exact⟨l.length-(j+1),jb,j+1,rfl,jb,rfl,fr⟩
    |false=>
     rw[hb]at hld
     simp(disch:=try exact jz) only[go_sem,z3,t1,t19,t20,t21,hld,d1,d2,d3,htl,Em]
     exact⟨l.length-(j+1),jb,j+1,rfl,jb,rfl,fr⟩
  .simp(disch:=try exact jz) only[go_sem,z3,am]
   exact hF3.trans hf
def aez{x:C5}(h:Tn x=0): -1<=x.h/\x.h<8/\0<=x.r/\x.r<=7/\¬sg x.a.q<0:=by
 unfold Tn at h;split at h
 .cases h
 .split at h
  .cases h
  .split at h
   .cases h
   .omega
def aeA{e:xU}(h:Fv e=0):e.c.length<=24/\e.a.length<=12/\¬sg e.m.q<0/\(∀i,i<e.c.length->Tn (ix e.c i)=0)/\∀k,k<e.a.length->V7 e.c.length (yU e.a k) (ix e.a k)=0:=by
 unfold Fv at h;split at h
 .cases h
 .split at h
  .cases h
  .split at h
   .next h3=>exact absurd h h3
   .next h1 h2 h3=>exact⟨jb,jb,h2,iI (by simpa using h3),iI h⟩
def tkS(f:Int->Bool)(L:List Int)(l k:Nat):Bool:=f (Int.ofNat k)||(L.take l).contains (Int.ofNat k)
def amJ{n l c:Nat}{f:Int->Bool}{L:List Int}(hl:l<L.length)(hc:ix L l=Int.ofNat c):ones n (aK (λk=>B.bool (tkS f L l k)) c (.bool true))=ones n λk=>.bool (tkS f L (l+1) k):=dS λk _=>by
 unfold aK tkS;rw[bH hl,hc,List.contains_append];by_cases e:k=c
 .subst e;rw[ab rfl];simp
 .rw[ae e];have:([Int.ofNat c].contains (Int.ofNat k))=false:=by simp;omega
  rw[this];simp
def amK{l:List gB}{j:Nat}(hj:j<l.length)(k:Nat):tkS (yU l j) (vH (ix l j)) (vH (ix l j)).length k=yU l (j+1) (Int.ofNat k):=by unfold tkS;rw[cg,adO hj];congr 1;rw[Bool.eq_iff_iff,List.contains_iff_mem,qB];exact⟨λh=>h.2,λh=>⟨by show(k:Int)≠-1;omega,h⟩⟩
def auX{σ:St}(hW:WF σ){p:Nat->Prop}{e:xU}{C A:B}(hc:DT p σ.h C e.c)(ha:je p σ.h A e.a)(hz:Fv e=0)(hm:e.m.fits 1000000)(hfc:∀k,k<e.c.length->(ix e.c k).a.fits 1000000)
  (hA:∀j,j<e.a.length->(ix e.a j).length<=1000/\(ix e.a j).flatten.length<=1000000/\(∀k,k<(ix e.a j).flatten.length->(ix (ix e.a j).flatten k).a.fits 1000000)/\∀t∈ix e.a j,∀x∈t,x.k=-1\/0<=x.k/\x.k<e.c.length):
  aC EN 52 [.agg [.bool e.m.n,.str e.m.s,.str e.m.d,C,A]] σ λr σ'=>r=.c (.int .i64 (.ofNat 0))/\Fr σ σ':=by
 refine aQ (qE.o _ _) qE.h ?_
 unfold qE
 dsimp only
 obtain⟨h1,h2,h3,h4,h5⟩:=aeA hz
 have hck:=aZ.kn hc
 have hcl:=aZ.len hc
 have hak:=ha.kn
 have hal:=ha.choose_spec.1.len
 have hFr:=Fr.refl hW
 have hfit:=qO hm jj
 have hraw:rq e.m.n e.m.s e.m.d=e.m.q:=rfl
 have hsg:decide (sg e.m.q<Int.ofNat 0)=false:=az h3
 have d1:decide ((Int.ofNat 24:Int)<Int.ofNat e.c.length)=false:=az (by show¬((24:Int)<(e.c.length:Int));omega)
 have d2:decide ((Int.ofNat 12:Int)<Int.ofNat e.a.length)=false:=az (by show¬((12:Int)<(e.a.length:Int));omega)
 simp(disch:=try exact jz) only[go_sem,z3,hck,hcl,hak,hal,hsg,hraw,d1,d2]
 refine bJ.mono (Q:=λex tm σ'=>ex=.exit 1/\Tr.ah tm 1=.c (.ptr σ.aj 0)/\σ'.h σ.aj=some ⟨[.bool e.m.n,.str e.m.s,.str e.m.d,C,A],none⟩/\Fr σ σ'/\σ.aj+1<=σ'.aj)
  (aF (λq tm σ'=>∃i,q=e.c.length-i/\i<=e.c.length/\Tr.ah tm 1=.c (.ptr σ.aj 0)/\Tr.ah tm 28=.c C/\Tr.ah tm 29=.c (.int .i64 (.ofNat e.c.length))/\Tr.ah tm 30=.c (.int .i64 (.ofNat i))/\σ'.h σ.aj=some ⟨[.bool e.m.n,.str e.m.s,.str e.m.d,C,A],none⟩/\Fr σ σ'/\σ.aj+1<=σ'.aj) e.c.length ?_ ?_) ?_
 .refine⟨0,jb,jb,?_⟩
  simp(disch:=try exact jz) only[go_sem,z3,am]
  exact⟨fr,jp⟩
 .rintro q tm σ' ⟨i,rfl,hi,t1,t28,t29,t30,q1,hf,hnx⟩
  simp(disch:=try exact jz) only[go_sem,z3,t1,t28,t29,t30,aG]
  refine aH (λhlt=>?_) (λhlt=>?_)
  .obtain⟨b,o,c,rfl,-,hld⟩:=aZ.pos hc jb
   have hld:=hf.ld hW (hld i hlt)
   unfold c5B at hld
   obtain⟨g1,g2,g3,g4,g5⟩:=aez (h4 i hlt)
   have hfit:=qO (hfc i hlt) jj
   have hraw:rq (ix e.c i).a.n (ix e.c i).a.s (ix e.c i).a.d=(ix e.c i).a.q:=rfl
   have hsg:decide (sg (ix e.c i).a.q<Int.ofNat 0)=false:=az g5
   have e1:decide ((ix e.c i).h<Int.negSucc 0)=false:=az (by show¬(ix e.c i).h< -1;omega)
   have e2:decide (Int.ofNat 8<=(ix e.c i).h)=false:=az (by show¬8<=(ix e.c i).h;omega)
   have e3:decide ((ix e.c i).r<Int.ofNat 0)=false:=az (by show¬(ix e.c i).r<0;omega)
   have e4:decide (Int.ofNat 7<(ix e.c i).r)=false:=az (by show¬7<(ix e.c i).r;omega)
   have hle:=hf.le
   have kM:=Fr.refl hf.wf
   have hl1:=hf.wf.lt q1
   simp(disch:=try exact jz) only[go_sem,z3,t1,t28,t29,t30,hld,hsg,hraw,e1,e2,e3,e4,q1]
   exact⟨e.c.length-(i+1),jb,i+1,rfl,jb,rfl,fr,jb⟩
  .simp(disch:=try exact jz) only[go_sem,z3,am]
   exact⟨t1,q1,hf,hnx⟩
 .rintro _ IL σ1 ⟨rfl,t1,q1,hf1,hn1⟩
  have hle1:=hf1.le
  have Z7:=Fr.refl hf1.wf
  have hl1:=hf1.wf.lt q1
  simp(disch:=try exact jz) only[go_sem,z3,t1,ak q1,q1,hck,hcl,hak,hal]
  refine aF (λq tm σ'=>∃j,q=e.a.length-j/\j<=e.a.length/\Tr.ah tm 5=.c (.sl σ1.aj 0 e.c.length (.ex e.c.length))/\Tr.ah tm 63=.c A/\Tr.ah tm 64=.c (.int .i64 (.ofNat e.a.length))/\Tr.ah tm 65=.c (.int .i64 (.ofNat j))
   /\σ'.h σ1.aj=some ⟨ones e.c.length λk=>.bool (yU e.a j (Int.ofNat k)),none⟩/\Fr σ σ'/\σ1.aj+1<=σ'.aj) e.a.length ?_ ?_
  .refine⟨0,jb,jb,?_⟩
   simp(disch:=try exact jz) only[go_sem,z3,am]
   exact⟨rfl,fr,jp⟩
  .rintro q tm σ' ⟨j,rfl,hj,t5,t63,t64,t65,q5,hf,hnx⟩
   simp(disch:=try exact jz) only[go_sem,z3,t5,t63,t64,t65,aG]
   refine aH (λhlt=>?_) (λhlt=>?_)
   .obtain⟨b,o,c,rfl,T,hld,hT⟩:=ha.at hlt
    have hld:=hf.ld hW hld
    obtain⟨a1,a2,a3,a4⟩:=hA j hlt
    have Yl:=hT.kn
    have hle:=hf.le
    have kM:=Fr.refl hf.wf
    simp(disch:=try exact jz) only[go_sem,z3,t5,t63,t64,t65,hld,Yl]
    refine aC.st (Fr σ') (fr) λhF=>?_
    have q5F:=hF.get hf.wf q5
    have hTF:=hT.fr hW (hf.trans hF)
    refine(auW hF.wf hTF (aZ.hl (p:=λ_=>True) (bf (G:=λk=>[.bool (yU e.a j (Int.ofNat k))]) (.ex e.c.length) q5F rfl trivial (λ_=>rfl) jj λ_ _=>rfl)) jb (h5 j hlt) a2 a3).mono ?_
    rintro _ σ2 ⟨rfl,hf2⟩
    have hF2:=hF.trans hf2
    have q7:=hf2.get hF.wf (aA _ _ _)
    have d0:decide ((0:Int)=Int.ofNat 0)=true:=rfl
    simp(disch:=try exact jz) only[go_sem,z3,ak q7,Yl,t5,d0]
    refine(QJ hf2.wf (hT.fr hW (hf.trans hF2)) jb a2).mono ?_
    rintro _ σ3 ⟨⟨u,rfl,hu⟩,hf3⟩
    have hF3:=hF2.trans hf3
    have hul:=hu.len
    have huk:=hu.kn
    have q53:=hF3.get hf.wf q5
    have hle3:=hF3.le
    have hle2:=hF2.le
    have hm9:=tq a4
    have hall:=amK hlt
    have hu2:=hu.hlp (p:=λb=>σ2.aj<=b) (λ_=>rfl) jj (λ_ _=>rfl) λb h1 _=>h1
    have awV:(vH (ix e.a j)).length<=1000000000:=by rw[<-Ob];exact aw (FH a4) jb
    generalize vH (ix e.a j)=L at*
    have hz0:ones e.c.length (λk=>B.bool (yU e.a j (Int.ofNat k)))=ones e.c.length λk=>.bool (tkS (yU e.a j) L 0 k):=dS λk _=>by unfold tkS;rw[cF];simp
    rw[hz0]at q53
    have awW:=hf.trans hF3
    simp(disch:=try exact jz) only[go_sem,z3,hul,huk]
    refine bJ.mono (Q:=λex tm σ4=>ex=.exit 6/\Tr.ah tm 5=.c (.sl σ1.aj 0 e.c.length (.ex e.c.length))/\Tr.ah tm 63=.c (.sl b o e.a.length c)/\Tr.ah tm 64=.c (.int .i64 (.ofNat e.a.length))/\Tr.ah tm 65=.c (.int .i64 (.ofNat j))
     /\σ4.h σ1.aj=some ⟨ones e.c.length λk=>.bool (tkS (yU e.a j) L L.length k),none⟩/\Fr σ σ4/\σ3.aj<=σ4.aj)
     (aF (λq tm σ4=>∃l,q=L.length-l/\l<=L.length/\Tr.ah tm 5=.c (.sl σ1.aj 0 e.c.length (.ex e.c.length))/\Tr.ah tm 63=.c (.sl b o e.a.length c)/\Tr.ah tm 64=.c (.int .i64 (.ofNat e.a.length))/\Tr.ah tm 65=.c (.int .i64 (.ofNat j))/\Tr.ah tm 76=.c u/\Tr.ah tm 77=.c (.int .i64 (.ofNat L.length))/\Tr.ah tm 78=.c (.int .i64 (.ofNat l))
     /\σ4.h σ1.aj=some ⟨ones e.c.length λk=>.bool (tkS (yU e.a j) L l k),none⟩/\Fr σ σ4/\aT [σ1.aj] σ3 σ4) L.length ?_ ?_) ?_
    .refine⟨0,jb,jb,?_⟩
     simp(disch:=try exact jz) only[go_sem,z3,t5,t63,t64,t65,am]
     exact⟨q53,awW,(Fr.refl hf3.wf).ex _⟩
    .rintro q tm σ4 ⟨l,rfl,hl,t5,t63,t64,t65,t76,t77,t78,q54,hf4,hfe⟩
     simp(disch:=try exact jz) only[go_sem,z3,t5,t63,t64,t65,t76,t77,t78,aG]
     refine aH (λPx=>?_) (λPx=>?_)
     .obtain⟨b7,o7,c7,rfl,hp7,dH⟩:=aZ.pos hu2 jb
      have hp7:σ2.aj<=b7:=hp7
      have dH:=hfe.ld hf3.wf (by simp;omega) (dH l Px)
      have dH:=(uO dH).1
      obtain⟨m1,m2⟩:=hm9 _ (lC Px)
      obtain⟨cc,hcc⟩:=cj m1
      have hst:=amJ (n:=e.c.length) (f:=yU e.a j) Px hcc
      have awX:ix L l=Int.ofNat cc:=hcc
      have hcn:cc<e.c.length:=jb
      have ayB:=hf4.wf.lt q54
      have xu:=hfe.le
      have Eo:=Fr.refl hf4.wf
      rw[awX]at dH
      simp(disch:=try exact jz) only[go_sem,z3,t5,t63,t64,t65,t76,t77,t78,dH,q54,aI q54,hst]
      exact⟨L.length-(l+1),jb,l+1,rfl,jb,rfl,rfl,fr,by repeat(first|assumption|exact aT.refl (by assumption)|exact aT.up (by assumption) kf|exact aT.up (aT.refl (by assumption)) kf|refine aT.set1 ?_ kg kf|refine aT.kC ?_ kg|refine aT.ni ?_ kg|refine aT.nU ?_ kf)⟩
     .have:l=L.length:=jb
      subst this
      simp(disch:=try exact jz) only[go_sem,z3,am]
      exact⟨t5,t63,t64,t65,q54,hf4,hfe.le⟩
    .rintro _ tm4 σ4 ⟨rfl,t5,t63,t64,t65,q54,hf4,hn4⟩
     simp(disch:=try exact jz) only[go_sem,z3,t5,t63,t64,t65]
     refine⟨e.a.length-(j+1),jb,j+1,rfl,jb,rfl,?_,hf4,jb⟩
     rw[q54]
     exact bO (λl=>some (Bk.mk l none)) (dS λk _=>bO B.bool (hall k))
   .simp(disch:=try exact jz) only[go_sem,z3,am]
    exact hf
def lkC(o:Option Bk)(e j:Int):Option V:=match o with
 |some ⟨c,some (0,0)⟩=>bif IB .i64 e&&IB .i64 j then some (.c (.bool (hasB c e j)))else none
 |_=>none
def upC(o:Option Bk)(e j:Int):Option Bk:=match o with
 |some ⟨c,some (0,0)⟩=>bif IB .i64 e&&(IB .i64 j&&Nat.ble c.length 1000)then some ⟨c++[.int .i64 e,.int .i64 j],some (0,0)⟩else none
 |_=>none
def aiy(m k x:O)(tm:Tr V)(σ:St):tJ (.RZ m k x) tm σ=match m.ev tm,k.ev tm,x.ev tm with
  |.c (.mp b),.agg [.int .i64 e,.int .i64 j],.c (.bool true)=>(match upC (σ.h b) e j with|some k=>some (.und,⟨hset σ.h b k,σ.aj⟩)|none=>none)
  |_,_,_=>none:=by
 simp only[tJ]
 generalize m.ev tm=M
 generalize k.ev tm=Y
 generalize x.ev tm=X
 rcases M with⟨_|_|_|_|_|_|_|_|b|_⟩|_|_|_|_|_|_<;>try rfl
 rcases Y with _|l|_|_|_|_|_<;>try rfl
 rcases l with _|⟨p,_|⟨q,_|⟨_,_⟩⟩⟩<;>try rfl
 .cases p<;>try rfl
  next y e=>cases y<;>rfl
 .rcases p with⟨y,e⟩|_|_|_|_|_|_|_|_|_<;>try rfl
  cases y<;>try rfl
  rcases q with⟨y,j⟩|_|_|_|_|_|_|_|_|_<;>try rfl
  cases y<;>try rfl
  rcases X with⟨_|u|_|_|_|_|_|_|_|_⟩|_|_|_|_|_|_<;>try rfl
  cases u<;>try rfl
  dsimp only
  unfold upC
  generalize hg:σ.h.get b=G
  rcases G with _|⟨c,_|⟨u,v⟩⟩<;>try rfl
  cases u<;>try rfl
  cases v<;>try rfl
  cases hQ:IB .i64 e&&(IB .i64 j&&Nat.ble c.length 1000)with
  |true=>simp only[hQ,cn];rfl
  |false=>simp only[hQ,ff]
 .rcases p with⟨y,e⟩|_|_|_|_|_|_|_|_|_<;>try rfl
  cases y<;>try rfl
  rcases q with⟨y,j⟩|_|_|_|_|_|_|_|_|_<;>try rfl
  cases y<;>rfl
section
variable {E:Env} (tm:Tr V) (σ:St) (K:V→St→Prop)
def amL:wpOp E .Jz tm σ K=K (.c (.mp σ.aj)) ⟨hset σ.h σ.aj ⟨[],some (0,0)⟩,σ.aj+1⟩:=by unfold wpOp oz;simp only[uU.kind,tJ,jG]
def aiz(m k:O):wpOp E (.lookup m k) tm σ K=FZ (match m.ev tm,k.ev tm with|.c (.mp b),.agg [.int .i64 e,.int .i64 j]=>lkC (σ.h b) e j|_,_=>none) λv=>K v σ:=by rw[ig _ _ _ _ (by rfl) λ_ _ h=>by cases h];rfl
def arv(m k x:O):wpOp E (.RZ m k x) tm σ K=match m.ev tm,k.ev tm,x.ev tm with
  |.c (.mp b),.agg [.int .i64 e,.int .i64 j],.c (.bool true)=>(match upC (σ.h b) e j with|some k=>K .und ⟨hset σ.h b k,σ.aj⟩|none=>False)
  |_,_,_=>False:=by
 unfold wpOp oz
 simp only[uU.kind,aiy]
 generalize m.ev tm=M
 generalize k.ev tm=Y
 generalize x.ev tm=X
 rcases M with⟨_|_|_|_|_|_|_|_|b|_⟩|_|_|_|_|_|_<;>try rfl
 rcases Y with _|l|_|_|_|_|_<;>try rfl
 rcases l with _|⟨p,_|⟨q,_|⟨_,_⟩⟩⟩<;>try rfl
 .cases p<;>try rfl
  next y e=>cases y<;>rfl
 .rcases p with⟨y,e⟩|_|_|_|_|_|_|_|_|_<;>try rfl
  cases y<;>try rfl
  rcases q with⟨y,j⟩|_|_|_|_|_|_|_|_|_<;>try rfl
  cases y<;>try rfl
  rcases X with⟨_|u|_|_|_|_|_|_|_|_⟩|_|_|_|_|_|_<;>try rfl
  cases u<;>try rfl
  dsimp only
  cases upC (σ.h b) e j<;>rfl
 .rcases p with⟨y,e⟩|_|_|_|_|_|_|_|_|_<;>try rfl
  cases y<;>try rfl
  rcases q with⟨y,j⟩|_|_|_|_|_|_|_|_|_<;>try rfl
  cases y<;>rfl
end
def PN:List Ins.Lg->List B
 |[]=>[]
 |x::r=>.int .i64 x.e:: .int .i64 x.k::PN r
def ab8:∀(l r:List Ins.Lg),PN (l++r)=PN l++PN r
 |[],_=>rfl
 |x::l,r=>by show _::_::PN (l++r)=_;rw[ab8 l r];rfl
def aiA(l:List Ins.Lg)(x:Ins.Lg):PN l++[.int .i64 x.e,.int .i64 x.k]=PN (l++[x]):=by rw[ab8];rfl
def ab9:∀l:List Ins.Lg,(PN l).length=2*l.length
 |[]=>rfl
 |x::l=>by show(PN l).length+1+1=_;rw[ab9 l,bN];omega
def XC(e j:Int):∀l:List Ins.Lg,hasB (PN l) e j=GY l ⟨e,j⟩
 |[]=>rfl
 |x::l=>by
  show(bif eqI x.e e&&eqI x.k j then true else hasB (PN l) e j)=(x.e==e&&x.k==j||GY l ⟨e,j⟩)
  rw[XC e j l];have h1:eqI x.e e=(x.e==e):=by rw[Bool.eq_iff_iff,Sr,beq_iff_eq]
  have h2:eqI x.k j=(x.k==j):=by rw[Bool.eq_iff_iff,Sr,beq_iff_eq]
  rw[h1,h2];cases(x.e==e&&x.k==j)<;>rfl
def KW{n:Nat}(h:n<=9223372036854775807):IB .i64 (.ofNat n)=true:=eV h
def arw(l:List Ins.Lg)(a b:Nat)(ha:a<=9223372036854775807)(hb:b<=9223372036854775807)(hl:l.length<=500):upC (some ⟨PN l,some (0,0)⟩) (.ofNat a) (.ofNat b)=some ⟨PN (l++[⟨.ofNat a,.ofNat b⟩]),some (0,0)⟩:=by have h2:Nat.ble (PN l).length 1000=true:=eV (by rw[ab9];omega);show(bif IB .i64 (.ofNat a)&&(IB .i64 (.ofNat b)&&Nat.ble (PN l).length 1000)then _ else none)=_;rw[KW ha,KW hb,h2,<-aiA];rfl
def arx(l:List Ins.Lg)(a b:Nat)(ha:a<=9223372036854775807)(hb:b<=9223372036854775807):lkC (some ⟨PN l,some (0,0)⟩) (.ofNat a) (.ofNat b)=some (.c (.bool (GY l ⟨.ofNat a,.ofNat b⟩))):=by show(bif IB .i64 (.ofNat a)&&IB .i64 (.ofNat b)then some (V.c (.bool (hasB (PN l) (.ofNat a) (.ofNat b))))else none)=_;rw[KW ha,KW hb,XC];rfl
attribute [go_sem] amL aiz arv arw arx
def QX{g:iJ}{d k:Nat}(h:Zl g d k=0):∃a b:Nat,ix (ix g.d d).l k=⟨.ofNat a,.ofNat b⟩/\a<g.e.length/\b<(ix g.e a).c.length/\GY (mQ g.d d k) ⟨.ofNat a,.ofNat b⟩=false/\holdL g.e ⟨.ofNat a,.ofNat b⟩=holdL g.e (ix (ix g.d d).l 0):=by
 unfold Zl at h;dsimp only at h;split at h
 .cases h
 .next h1=>
  split at h
  .cases h
  .next h2=>
   split at h
   .cases h
   .next h3=>
    generalize ix (ix g.d d).l k=x at*;obtain⟨xe,xk⟩:=x;dsimp only at h1;obtain⟨a,rfl⟩:=cj (show 0<=xe by omega);obtain⟨b,rfl⟩:=cj (show 0<=xk by omega);rw[gb]at h1;exact⟨a,b,rfl,jb,jb,by simpa using h2,by simpa using h3⟩
def aaq{l:List tX}{d k:Nat}(hk:k<(ix l d).l.length):mQ l d (k+1)=mQ l d k++[ix (ix l d).l k]:=by unfold mQ;rw[bH hk,gP]
def Oy{l:List tX}{d:Nat}(hd:d<l.length):mQ l d (ix l d).l.length=mQ l (d+1) 0:=by unfold mQ;rw[cg,cF,df,bH hd,cK];simp
def QY{σ:St}(hW:WF σ){p:Nat->Prop}{ev dv:B}{g:iJ}(hg:xH p σ.h ev dv g){a b:Nat}(ha:a<g.e.length)(hb:b<(ix g.e a).c.length)(hn:g.e.length<=1000)(hc:(ix g.e a).c.length<=1000):
  aC EN 92 [.agg [ev,dv],.agg [.int .i64 (.ofNat a),.int .i64 (.ofNat b)]] σ λr σ'=>r=.c (.int .i64 (holdL g.e ⟨.ofNat a,.ofNat b⟩))/\Fr σ σ':=by
 refine aQ (oU.o _ _) oU.h ?_
 unfold oU
 dsimp only
 have hdk:=hg.d.kn
 obtain⟨b5,o5,c5,rfl,C1,A1,bV,-,hC,hA1⟩:=hg.e.at ha
 obtain⟨b8,o8,c8,rfl,-,nO⟩:=aZ.pos hC jb
 have nO:=nO b hb
 unfold c5B at nO
 have l3:=wI bV 3 1 false jj jj
 have l4:=Ac nO 1 false jj jj
 have m2:=hW.dF l3
 have m3:=hW.dF l4
 have hFr:=Fr.refl hW
 simp(disch:=try exact jz) only[go_sem,z3,hdk,l3,l4]
 exact⟨rfl,fr⟩
def arz{σ:St}(hW:WF σ){p p':Nat->Prop}{ev dv:B}{g:iJ}(hg:xH p σ.h ev dv g){d mb:Nat}(hp:∀b,p b->b<mb)(hp':∀b,p' b->b<mb){Lv:B}(hL:JE p' σ.h Lv (ix g.d d).l)(hm:σ.h mb=some ⟨PN (mQ g.d d 0),some (0,0)⟩)(hz:O8 g d=0)(hw:(ix g.d d).w.fits 1000000)(hn:g.e.length<=1000)(hc:∀i,i<g.e.length->(ix g.e i).c.length<=1000)(hl5:∀k,k<=(ix g.d d).l.length->(mQ g.d d k).length<=500):
  aC EN 53 [.agg [ev,dv],.agg [.bool (ix g.d d).w.n,.str (ix g.d d).w.s,.str (ix g.d d).w.d,Lv],.c (.mp mb)] σ λr σ'=>r=.c (.int .i64 (.ofNat 0))/\σ'.h mb=some ⟨PN (mQ g.d d (ix g.d d).l.length),some (0,0)⟩/\aT [mb] σ σ':=by
 refine aQ (mG.o _ _) mG.h ?_
 unfold mG
 dsimp only
 unfold O8 at hz
 split at hz
 .cases hz
 .next h1=>
  split at hz
  .cases hz
  .next h2=>
   have h3:=iI hz
   have hek:=hg.e.kn
   have hdk:=hg.d.kn
   have hLk:=aZ.kn hL
   have hLl:=aZ.len hL
   have hml:=hW.lt hm
   have hFr:=Fr.refl hW
   have hfit:=qO hw jj
   have hraw:rq (ix g.d d).w.n (ix g.d d).w.s (ix g.d d).w.d=(ix g.d d).w.q:=rfl
   have hsg:decide (sg (ix g.d d).w.q<Int.ofNat 0)=false:=az h2
   have d1:decide ((Int.ofNat 8:Int)<Int.ofNat (ix g.d d).l.length)=false:=az (by show¬((8:Int)<((ix g.d d).l.length:Int));omega)
   simp(disch:=try exact jz) only[go_sem,z3,hek,hdk,hLk,hLl,hsg,hraw,d1]
   refine aF (λq tm σ'=>∃k,q=(ix g.d d).l.length-k/\k<=(ix g.d d).l.length/\Tr.ah tm 2=.c (.mp mb)/\Tr.ah tm 3=.c (.ptr σ.aj 0)/\Tr.ah tm 4=.c (.ptr (σ.aj+1) 0)/\Tr.ah tm 20=.c Lv/\Tr.ah tm 21=.c (.int .i64 (.ofNat (ix g.d d).l.length))/\Tr.ah tm 22=.c (.int .i64 (.ofNat k))
    /\σ'.h mb=some ⟨PN (mQ g.d d k),some (0,0)⟩/\σ'.h σ.aj=some ⟨[ev,dv],none⟩/\σ'.h (σ.aj+1)=some ⟨[.bool (ix g.d d).w.n,.str (ix g.d d).w.s,.str (ix g.d d).w.d,Lv],none⟩/\aT [mb] σ σ'/\σ.aj+1+1<=σ'.aj) (ix g.d d).l.length ?_ ?_
   .refine⟨0,jb,jb,?_⟩
    simp(disch:=try exact jz) only[go_sem,z3,am]
    exact⟨hm,Fr.ex (fr) _,jp⟩
   .rintro q tm σ' ⟨k,rfl,hk,t2,t3,t4,t20,t21,t22,qm,q3,q4,hf,hnx⟩
    simp(disch:=try exact jz) only[go_sem,z3,t2,t3,t4,t20,t21,t22,aG]
    refine aH (λhlt=>?_) (λhlt=>?_)
    .obtain⟨a,b,ex,ha,hb,hh,hho⟩:=QX (h3 k hlt)
     obtain⟨a0,b0,ex0,ha0,hb0,-,-⟩:=QX (h3 0 jb)
     have hko:∀b,b<mb->σ'.h b=σ.h b:=λb hb=>hf.old b jb (by simp;omega)
     have hg':xH (Lt mb) σ'.h ev dv g:=hg.keep (λb hb=>hko b (hp b hb)) hp
     have hL':JE (Lt mb) σ'.h Lv (ix g.d d).l:=aZ.keep hL (λb hb=>hko b (hp' b hb)) hp'
     obtain⟨b6,o6,c6,rfl,hb6,bU⟩:=aZ.pos hL' jb
     have XD:=bU 0 jb
     have bU:=bU k hlt
     unfold Kv at bU XD
     rw[ex]at bU
     rw[ex0]at XD
     obtain⟨b5,o5,c5,rfl,C1,A1,bV,-,hC,-⟩:=hg'.e.at ha
     have hCl:=aZ.len hC
     obtain⟨b8,o8,c8,rfl,-,-⟩:=aZ.pos hC jb
     have l3:=wI bV 3 1 false jj jj
     have m2:=hf.wf.dF l3
     have m6:=hf.wf.dF bU
     have hnn:=hn
     have hca:=hc a ha
     have awY:=hc a0 ha0
     have e1:decide (Int.ofNat a<Int.ofNat 0)=false:=az (by show¬((a:Int)<0);omega)
     have e2:decide (Int.ofNat g.e.length<=Int.ofNat a)=false:=az (by show¬((g.e.length:Int)<=(a:Int));omega)
     have e3:decide (Int.ofNat b<Int.ofNat 0)=false:=az (by show¬((b:Int)<0);omega)
     have e4:decide (Int.ofNat (ix g.e a).c.length<=Int.ofNat b)=false:=az (by show¬(((ix g.e a).c.length:Int)<=(b:Int));omega)
     have hle:=hf.le
     have kM:=Fr.refl hf.wf
     have hlm:=hf.wf.lt qm
     simp(disch:=try exact jz) only[go_sem,z3,t2,t3,t4,t20,t21,t22,bU,XD,ak q3,ak q4,q3,q4,l3,hCl,e1,e2,e3,e4,qm,hh,hek,hdk]
     refine aC.st (Fr σ') (fr) λhF=>?_
     refine(QY hF.wf (hg'.fr hf.wf hF) ha hb hn hca).mono ?_
     rintro _ σ2 ⟨rfl,hf2⟩
     have hF2:=hF.trans hf2
     have q32:=hF2.get hf.wf q3
     have q42:=hF2.get hf.wf q4
     have q82:=hf2.get hF.wf (aA _ _ _)
     have Em:=hF2.ld hf.wf XD
     have aao:=Fr.refl hf2.wf
     simp(disch:=try exact jz) only[go_sem,z3,t2,t3,t4,ak q32,ak q42,ak q82,q32,q42,Em,hek,hdk]
     refine(QY hf2.wf (hg'.fr hf.wf hF2) ha0 hb0 hn awY).mono ?_
     rintro _ σ3 ⟨rfl,hf3⟩
     have hF3:=hF2.trans hf3
     have q33:=hF3.get hf.wf q3
     have q43:=hF3.get hf.wf q4
     have q83:=hf3.get hf2.wf q82
     have qm3:=hF3.get hf.wf qm
     have uf:=hF3.ld hf.wf XD
     have hle3:=hF3.le
     rw[ex0]at hho
     have d5:decide (holdL g.e ⟨.ofNat a,.ofNat b⟩=holdL g.e ⟨.ofNat a0,.ofNat b0⟩)=true:=bB hho
     have ayC:=hl5 k hk
     have ax0:(ix g.d d).l.length<=8:=jb
     have hFE:aT [mb] σ σ3:=hf.trans (hF3.ex _)
     have ayD:mb<σ3.aj:=jb
     simp(disch:=try exact jz) only[go_sem,z3,t2,t3,t4,t20,t21,t22,ak q33,ak q43,ak q83,q33,q43,q83,qm3,uf,d5]
     refine⟨(ix g.d d).l.length-(k+1),jb,k+1,rfl,jb,rfl,?_,by repeat(first|assumption|exact aT.refl (by assumption)|exact aT.up (by assumption) kf|exact aT.up (aT.refl (by assumption)) kf|refine aT.set1 ?_ kg kf|refine aT.kC ?_ kg|refine aT.ni ?_ kg|refine aT.nU ?_ kf),jb⟩
     rw[aaq hlt,ex]
    .have:k=(ix g.d d).l.length:=jb
     subst this
     simp(disch:=try exact jz) only[go_sem,z3,am]
     exact⟨qm,hf⟩
end Go.Proofs.Xe
